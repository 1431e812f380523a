/- Proof of the statement DangerLeast: part 5 of 8, what it computes and why that answers true. -/
import Derived.Test.YtkjlcbfjllpcnaaKDL4
import Derived.Shelf.Small.Bits
import Derived.Shelf.Strconv.Itoa0
import Derived.Ground.Names2Prog
import Derived.Shelf.Slices.Clone
import Derived.Shelf.Slices.SearchI
import Derived.Ground.SlgnProg
import Derived.Shelf.SlicesE.Clone
import Derived.Ground.SlgfProg
import Derived.Shelf.SlicesE.IndexFunc
import Derived.Shelf.SlicesE.DeleteFunc
import Derived.Ground.SlsfProg
import Derived.Shelf.SlSortCmp.Insertion
import Derived.Shelf.SlSortCmp.SiftDown1
import Derived.Shelf.SlSortCmp.HeapSort1
import Derived.Shelf.SlSortCmp.Insertion1
import Derived.Shelf.SlSortCmp.Median1
import Derived.Shelf.SlSortCmp.Pivot1
import Derived.Shelf.SlSortCmp.ReverseRange1
import Derived.Shelf.SlSortCmp.PartialInsertion1
import Derived.Shelf.SlSortCmp.PartitionEqual1
import Derived.Shelf.SlSortCmp.Partition1
import Derived.Shelf.SlSortCmp.Pdq1
import Derived.Shelf.SlSortCmp.Whole1
import Derived.Shelf.SlSortCmp.NoneTotal
import Derived.Test.YtkjlcbfjllpcnaaProg
set_option linter.unusedVariables false
set_option linter.unusedSimpArgs false
namespace Go.Proofs
open Go.Shelf
def Try.laysNm215_ren:Go.Shelf.Ren:=⟨fun|15=>97|n=>n,fun|22=>22|3=>3|4=>4|n=>n,fun|n=>n⟩
theorem Try.laysNm215:Go.Proofs.Lays2.n15 Try.prog Try.laysNm215_ren:={
 mixed:=by kernel_rfl
 f15:=Try.func97.trans (congrArg some (by kernel_rfl))
 t3:=Try.underlying3
 a3:=Try.isAgg3
 z3:=Try.sizeOf3
 v3:=Try.zeroValue3
 t4:=Try.underlying4
 a4:=Try.isAgg4
 z4:=Try.sizeOf4
 v4:=Try.zeroValue4
 t22:=Try.underlying22
 a22:=Try.isAgg22
 z22:=Try.sizeOf22
 v22:=Try.zeroValue22
 i3:=by kernel_rfl }
open Go.RowKit Go.Lib in
theorem Try.slices_Clone_int (b off n c:Nat) (zs:List Int) (w:World) (hz:n≤zs.length) (hbig:n * 8≤140737488355328) (hc:∀ j,j < zs.length→w.cell? ⟨b,off+j,none⟩=some (.int .i64 (zs.getD j 0))) :
  Calls Try.prog 97 #[.slice (some ⟨b,off,none⟩) n c] w fun e w'=>∃ v',e=.returned v'∧w'.ownsRow w.heap.size 3 1 v' n ((zs.take n).map (Value.int .i64))∧v' ≠ .slice none 0 0∧Below w.heap.size w w':=Any.slices_Clone_int Try.laysNm215 b off n c zs w hz hbig hc
open Go.RowKit Go.Lib in
theorem Try.slices_Clone_int_nil (n c:Nat) (w:World) :
  Calls Try.prog 97 #[.slice none n c] w fun e w'=>e=.returned (.slice none 0 0)∧w'=w:=Any.slices_Clone_int_nil Try.laysNm215 n c w
open Go.RowKit Go.Lib in
theorem Try.slices_Clone_int_zero (a:Addr) (c:Nat) (w:World) :
  Calls Try.prog 97 #[.slice (some a) 0 c] w fun e w'=>∃ v',e=.returned v'∧w'.ownsRow w.heap.size 3 1 v' 0 []∧v' ≠ .slice none 0 0∧Below w.heap.size w w':=Any.slices_Clone_int_zero Try.laysNm215 a c w
def Try.laysSlH6_f117_ren:Go.Shelf.Ren:=⟨fun|6=>117|n=>n,fun|22=>22|23=>3|25=>77|3=>3|0=>0|4=>4|n=>n,fun|n=>n⟩
theorem Try.laysSlH6_f117:Go.Proofs.SlLaysH.n6 Try.prog Try.laysSlH6_f117_ren:={
 mixed:=by kernel_rfl
 f6:=⟨Try.f117.name,by decide,Try.func117.trans (congrArg some (by kernel_rfl))⟩
 t0:=Try.underlying0
 a0:=Try.isAgg0
 z0:=Try.sizeOf0
 v0:=Try.zeroValue0
 t3:=Try.underlying3
 a3:=Try.isAgg3
 z3:=Try.sizeOf3
 v3:=Try.zeroValue3
 t4:=Try.underlying4
 a4:=Try.isAgg4
 z4:=Try.sizeOf4
 v4:=Try.zeroValue4
 t22:=Try.underlying22
 a22:=Try.isAgg22
 z22:=Try.sizeOf22
 v22:=Try.zeroValue22
 a23:=Try.isAgg3
 z23:=Try.sizeOf3
 t25:=Try.underlying77
 a25:=Try.isAgg77
 z25:=Try.sizeOf77
 v25:=Try.zeroValue77 }
open Go.RowKit Go.Lib in
theorem Try.slices_IndexFunc_empty {α:Type} [Inhabited α] (a:Option Addr) (c:Nat) (fv:Value) (w:World) :
  Calls Try.prog 117 #[.slice a 0 c,fv] w fun e w'=>e=.returned (.int .i64 (-1))∧w'=w:=AnyE.slices_IndexFunc_empty Try.laysSlH6_f117 a c fv w
def Try.laysSlH8_f99_ren:Go.Shelf.Ren:=⟨fun|8=>99|6=>117|n=>n,fun|22=>22|23=>3|25=>77|4=>4|3=>3|0=>0|n=>n,fun|n=>n⟩
theorem Try.laysSlH8_f99:Go.Proofs.SlLaysH.n8 Try.prog Try.laysSlH8_f99_ren:={
 mixed:=by kernel_rfl
 f6:=⟨Try.f117.name,by decide,Try.func117.trans (congrArg some (by kernel_rfl))⟩
 f8:=⟨Try.f99.name,by decide,Try.func99.trans (congrArg some (by kernel_rfl))⟩
 t0:=Try.underlying0
 a0:=Try.isAgg0
 z0:=Try.sizeOf0
 v0:=Try.zeroValue0
 t3:=Try.underlying3
 a3:=Try.isAgg3
 z3:=Try.sizeOf3
 v3:=Try.zeroValue3
 t4:=Try.underlying4
 a4:=Try.isAgg4
 z4:=Try.sizeOf4
 v4:=Try.zeroValue4
 t22:=Try.underlying22
 a22:=Try.isAgg22
 z22:=Try.sizeOf22
 v22:=Try.zeroValue22
 a23:=Try.isAgg3
 z23:=Try.sizeOf3
 t25:=Try.underlying77
 a25:=Try.isAgg77
 z25:=Try.sizeOf77
 v25:=Try.zeroValue77 }
open Go.RowKit Go.Lib in
theorem Try.slices_ContainsFunc {α:Type} [Inhabited α] (enc:α→Value) (p:α→Bool) (g:Nat) (lb:Array Value) (eg:∀ args w,(callFunc g args).run Try.prog w=.ok (.enter g args) w) (b off n c:Nat) (zs:List α) (w:World) (hp:PredAt Try.prog g lb enc p w) (hz:n≤zs.length) (hbig:n≤9223372036854775807) (hc:∀ j,j < zs.length→w.cell? ⟨b,off+j,none⟩=some (enc zs[j]!)) :
  Calls Try.prog 99 #[.slice (some ⟨b,off,none⟩) n c,.func (.func g) #[] lb] w fun e w'=>e=.returned (.bool ((zs.take n).any p))∧∃ q,w'=w.drewN q:=AnyE.slices_ContainsFunc Try.laysSlH8_f99 enc p g lb eg b off n c zs w hp hz hbig hc
open Go.RowKit Go.Lib in
theorem Try.slices_ContainsFunc_empty {α:Type} [Inhabited α] (a:Option Addr) (c:Nat) (fv:Value) (w:World) :
  Calls Try.prog 99 #[.slice a 0 c,fv] w fun e w'=>e=.returned (.bool false)∧w'=w:=AnyE.slices_ContainsFunc_empty Try.laysSlH8_f99 a c fv w
def Try.laysSlH10_f96_ren:Go.Shelf.Ren:=⟨fun|10=>96|6=>117|n=>n,fun|22=>22|23=>3|25=>77|3=>3|4=>4|0=>0|n=>n,fun|n=>n⟩
theorem Try.laysSlH10_f96:Go.Proofs.SlLaysH.n10 Try.prog Try.laysSlH10_f96_ren:={
 mixed:=by kernel_rfl
 f6:=⟨Try.f117.name,by decide,Try.func117.trans (congrArg some (by kernel_rfl))⟩
 f10:=⟨Try.f96.name,by decide,Try.func96.trans (congrArg some (by kernel_rfl))⟩
 t0:=Try.underlying0
 a0:=Try.isAgg0
 z0:=Try.sizeOf0
 v0:=Try.zeroValue0
 t3:=Try.underlying3
 a3:=Try.isAgg3
 z3:=Try.sizeOf3
 v3:=Try.zeroValue3
 t4:=Try.underlying4
 a4:=Try.isAgg4
 z4:=Try.sizeOf4
 v4:=Try.zeroValue4
 t22:=Try.underlying22
 a22:=Try.isAgg22
 z22:=Try.sizeOf22
 v22:=Try.zeroValue22
 a23:=Try.isAgg3
 z23:=Try.sizeOf3
 t25:=Try.underlying77
 a25:=Try.isAgg77
 z25:=Try.sizeOf77
 v25:=Try.zeroValue77 }
open Go.RowKit Go.Lib Go.Sort in
theorem Try.slices_DeleteFunc {α:Type} [Inhabited α] (enc:α→Value) (hO:OneCell enc) (p:α→Bool) (g:Nat) (lb:Array Value) (eg:∀ args w,(callFunc g args).run Try.prog w=.ok (.enter g args) w) (zr:α) (v23:∀ w,(zeroValue 3).run Try.prog w=.ok (enc zr) w) (blk off cap:Nat) (d:Array α) (w:World) (hp:PredAt Try.prog g lb enc p w) (hpo:PredOver Try.prog g lb enc p blk off d.size w) (hH:Holds enc w blk off d) (hsz:d.size≤9223372036854775807) (hcap:d.size≤cap) :
  Calls Try.prog 96 #[.slice (some ⟨blk,off,none⟩) d.size cap,.func (.func g) #[] lb] w fun e w'=>e=.returned (.slice (some ⟨blk,off,none⟩) (d.toList.filter fun x=>!p x).length cap)∧∃ q,w'=putRow enc (Sort.ahead w q) blk off ((d.toList.filter fun x=>!p x)++List.replicate (d.size - (d.toList.filter fun x=>!p x).length) zr).toArray:=AnyE.slices_DeleteFunc Try.laysSlH10_f96 enc hO p g lb eg zr v23 blk off cap d w hp hpo hH hsz hcap
def Try.laysSlF06_f93_ren:Go.Shelf.Ren:=⟨fun|6=>93|15=>113|14=>112|28=>137|29=>138|20=>129|21=>130|22=>131|23=>132|24=>133|25=>134|26=>135|27=>136|46=>148|47=>149|48=>150|49=>151|50=>152|57=>154|n=>n,fun|22=>22|24=>3|25=>64|3=>3|39=>102|0=>0|53=>118|55=>120|4=>4|46=>112|45=>111|50=>81|5=>5|9=>9|66=>123|70=>127|76=>129|77=>104|n=>n,fun|n=>n⟩
theorem Try.laysSlF06_f93:Go.Proofs.SlLaysF0.n6 Try.prog Try.laysSlF06_f93_ren:={
 mixed:=by kernel_rfl
 f6:=⟨Try.f93.name,by decide,Try.func93.trans (congrArg some (by kernel_rfl))⟩
 f14:=⟨Try.f112.name,by decide,Try.func112.trans (congrArg some (by kernel_rfl))⟩
 f15:=Try.func113.trans (congrArg some (by kernel_rfl))
 f20:=⟨Try.f129.name,by decide,Try.func129.trans (congrArg some (by kernel_rfl))⟩
 f21:=⟨Try.f130.name,by decide,Try.func130.trans (congrArg some (by kernel_rfl))⟩
 f22:=⟨Try.f131.name,by decide,Try.func131.trans (congrArg some (by kernel_rfl))⟩
 f23:=⟨Try.f132.name,by decide,Try.func132.trans (congrArg some (by kernel_rfl))⟩
 f24:=⟨Try.f133.name,by decide,Try.func133.trans (congrArg some (by kernel_rfl))⟩
 f25:=⟨Try.f134.name,by decide,Try.func134.trans (congrArg some (by kernel_rfl))⟩
 f26:=⟨Try.f135.name,by decide,Try.func135.trans (congrArg some (by kernel_rfl))⟩
 f27:=⟨Try.f136.name,by decide,Try.func136.trans (congrArg some (by kernel_rfl))⟩
 f28:=Try.func137.trans (congrArg some (by kernel_rfl))
 f29:=Try.func138.trans (congrArg some (by kernel_rfl))
 f46:=⟨Try.f148.name,by decide,Try.func148.trans (congrArg some (by kernel_rfl))⟩
 f47:=Try.func149.trans (congrArg some (by kernel_rfl))
 f48:=Try.func150.trans (congrArg some (by kernel_rfl))
 f49:=⟨Try.f151.name,by decide,Try.func151.trans (congrArg some (by kernel_rfl))⟩
 f50:=⟨Try.f152.name,by decide,Try.func152.trans (congrArg some (by kernel_rfl))⟩
 f57:=⟨Try.f154.name,by decide,Try.func154.trans (congrArg some (by kernel_rfl))⟩
 t0:=Try.underlying0
 a0:=Try.isAgg0
 z0:=Try.sizeOf0
 v0:=Try.zeroValue0
 t3:=Try.underlying3
 a3:=Try.isAgg3
 z3:=Try.sizeOf3
 v3:=Try.zeroValue3
 t4:=Try.underlying4
 a4:=Try.isAgg4
 z4:=Try.sizeOf4
 v4:=Try.zeroValue4
 t5:=Try.underlying5
 a5:=Try.isAgg5
 z5:=Try.sizeOf5
 v5:=Try.zeroValue5
 t9:=Try.underlying9
 a9:=Try.isAgg9
 z9:=Try.sizeOf9
 v9:=Try.zeroValue9
 t22:=Try.underlying22
 a22:=Try.isAgg22
 z22:=Try.sizeOf22
 v22:=Try.zeroValue22
 t25:=Try.underlying64
 a25:=Try.isAgg64
 z25:=Try.sizeOf64
 v25:=Try.zeroValue64
 t39:=Try.underlying102
 a39:=Try.isAgg102
 z39:=Try.sizeOf102
 v39:=Try.zeroValue102
 t45:=Try.underlying111
 a45:=Try.isAgg111
 z45:=Try.sizeOf111
 v45:=Try.zeroValue111
 t46:=Try.underlying112
 a46:=Try.isAgg112
 z46:=Try.sizeOf112
 v46:=Try.zeroValue112
 t50:=Try.underlying81
 a50:=Try.isAgg81
 z50:=Try.sizeOf81
 v50:=Try.zeroValue81
 t53:=Try.underlying118
 a53:=Try.isAgg118
 z53:=Try.sizeOf118
 v53:=Try.zeroValue118
 t55:=Try.underlying120
 a55:=Try.isAgg120
 z55:=Try.sizeOf120
 v55:=Try.zeroValue120
 t66:=Try.underlying123
 a66:=Try.isAgg123
 z66:=Try.sizeOf123
 v66:=Try.zeroValue123
 t70:=Try.underlying127
 a70:=Try.isAgg127
 z70:=Try.sizeOf127
 v70:=Try.zeroValue127
 t76:=Try.underlying129
 a76:=Try.isAgg129
 z76:=Try.sizeOf129
 v76:=Try.zeroValue129
 t77:=Try.underlying104
 a77:=Try.isAgg104
 z77:=Try.sizeOf104
 v77:=Try.zeroValue104 }
open Go.RowKit Go.Lib Go.Sort in
theorem Try.slices_SortFunc_none {α:Type} [Inhabited α] (p:Option Addr) (cap:Nat) (fv:Value) (w:World) :
  Calls Try.prog 93 #[.slice p 0 cap,fv] w fun e w'=>e=.returned (.tuple #[])∧w'=w:=AnyF.slices_SortFunc_none Try.laysSlF06_f93 p cap fv w
def Try.laysSlF6_f93_ren:Go.Shelf.Ren:=⟨fun|6=>93|15=>113|14=>112|28=>137|29=>138|20=>129|21=>130|22=>131|23=>132|24=>133|25=>134|26=>135|27=>136|46=>148|47=>149|48=>150|49=>151|50=>152|57=>154|n=>n,fun|22=>22|24=>3|25=>64|3=>3|39=>102|0=>0|53=>118|55=>120|4=>4|46=>112|45=>111|50=>81|5=>5|9=>9|66=>123|70=>127|76=>129|77=>104|n=>n,fun|n=>n⟩
theorem Try.laysSlF6_f93:Go.Proofs.SlLaysF.n6 Try.prog Try.laysSlF6_f93_ren:={
 mixed:=by kernel_rfl
 f6:=⟨Try.f93.name,by decide,Try.func93.trans (congrArg some (by kernel_rfl))⟩
 f14:=⟨Try.f112.name,by decide,Try.func112.trans (congrArg some (by kernel_rfl))⟩
 f15:=Try.func113.trans (congrArg some (by kernel_rfl))
 f20:=⟨Try.f129.name,by decide,Try.func129.trans (congrArg some (by kernel_rfl))⟩
 f21:=⟨Try.f130.name,by decide,Try.func130.trans (congrArg some (by kernel_rfl))⟩
 f22:=⟨Try.f131.name,by decide,Try.func131.trans (congrArg some (by kernel_rfl))⟩
 f23:=⟨Try.f132.name,by decide,Try.func132.trans (congrArg some (by kernel_rfl))⟩
 f24:=⟨Try.f133.name,by decide,Try.func133.trans (congrArg some (by kernel_rfl))⟩
 f25:=⟨Try.f134.name,by decide,Try.func134.trans (congrArg some (by kernel_rfl))⟩
 f26:=⟨Try.f135.name,by decide,Try.func135.trans (congrArg some (by kernel_rfl))⟩
 f27:=⟨Try.f136.name,by decide,Try.func136.trans (congrArg some (by kernel_rfl))⟩
 f28:=Try.func137.trans (congrArg some (by kernel_rfl))
 f29:=Try.func138.trans (congrArg some (by kernel_rfl))
 f46:=⟨Try.f148.name,by decide,Try.func148.trans (congrArg some (by kernel_rfl))⟩
 f47:=Try.func149.trans (congrArg some (by kernel_rfl))
 f48:=Try.func150.trans (congrArg some (by kernel_rfl))
 f49:=⟨Try.f151.name,by decide,Try.func151.trans (congrArg some (by kernel_rfl))⟩
 f50:=⟨Try.f152.name,by decide,Try.func152.trans (congrArg some (by kernel_rfl))⟩
 f57:=⟨Try.f154.name,by decide,Try.func154.trans (congrArg some (by kernel_rfl))⟩
 t0:=Try.underlying0
 a0:=Try.isAgg0
 z0:=Try.sizeOf0
 v0:=Try.zeroValue0
 t3:=Try.underlying3
 a3:=Try.isAgg3
 z3:=Try.sizeOf3
 v3:=Try.zeroValue3
 t4:=Try.underlying4
 a4:=Try.isAgg4
 z4:=Try.sizeOf4
 v4:=Try.zeroValue4
 t5:=Try.underlying5
 a5:=Try.isAgg5
 z5:=Try.sizeOf5
 v5:=Try.zeroValue5
 t9:=Try.underlying9
 a9:=Try.isAgg9
 z9:=Try.sizeOf9
 v9:=Try.zeroValue9
 t22:=Try.underlying22
 a22:=Try.isAgg22
 z22:=Try.sizeOf22
 v22:=Try.zeroValue22
 a24:=Try.isAgg3
 z24:=Try.sizeOf3
 t25:=Try.underlying64
 a25:=Try.isAgg64
 z25:=Try.sizeOf64
 v25:=Try.zeroValue64
 t39:=Try.underlying102
 a39:=Try.isAgg102
 z39:=Try.sizeOf102
 v39:=Try.zeroValue102
 t45:=Try.underlying111
 a45:=Try.isAgg111
 z45:=Try.sizeOf111
 v45:=Try.zeroValue111
 t46:=Try.underlying112
 a46:=Try.isAgg112
 z46:=Try.sizeOf112
 v46:=Try.zeroValue112
 t50:=Try.underlying81
 a50:=Try.isAgg81
 z50:=Try.sizeOf81
 v50:=Try.zeroValue81
 t53:=Try.underlying118
 a53:=Try.isAgg118
 z53:=Try.sizeOf118
 v53:=Try.zeroValue118
 t55:=Try.underlying120
 a55:=Try.isAgg120
 z55:=Try.sizeOf120
 v55:=Try.zeroValue120
 t66:=Try.underlying123
 a66:=Try.isAgg123
 z66:=Try.sizeOf123
 v66:=Try.zeroValue123
 t70:=Try.underlying127
 a70:=Try.isAgg127
 z70:=Try.sizeOf127
 v70:=Try.zeroValue127
 t76:=Try.underlying129
 a76:=Try.isAgg129
 z76:=Try.sizeOf129
 v76:=Try.zeroValue129
 t77:=Try.underlying104
 a77:=Try.isAgg104
 z77:=Try.sizeOf104
 v77:=Try.zeroValue104 }
open Go.RowKit Go.Lib Go.Sort in
theorem Try.slices_SortFunc_total {α:Type} [Inhabited α] (enc:α→Value) (h1:OneCell enc) (cf:α→α→Int) (hO:SWO (ltOf cf)) (g:Nat) (cb:Array Value) (blk off cap:Nat) (d:Array α) (w:World) (eg:∀ args w,(callFunc g args).run Try.prog w=.ok (.enter g args) w) (hcmp:CmpLays1 Try.prog g cb enc cf blk off d.size w) (hH:Holds enc w blk off d) (hblk:blk < w.heap.size) (hsz:d.size < 4611686018427387904) (hT:∀ x y,(ltOf cf) x y=false→(ltOf cf) y x=false→x=y) :
  Calls Try.prog 93 #[.slice (some ⟨blk,off,none⟩) d.size cap,.func (.func g) #[] cb] w fun e w' =>
   e=.returned (.tuple #[])∧∃ n os,w'=sortWorld enc w blk off n (d.toList.mergeSort fun x y=>!(ltOf cf) y x).toArray os:=Any.slices_SortFunc_total Try.laysSlF6_f93 enc h1 cf hO g cb blk off cap d w eg hcmp hH hblk hsz hT
end Go.Proofs
namespace Go.Proofs.Ytkjlcbfjllpcnaa.X
open Go.RowKit Go.Proofs.YtkjlcbfjllpcnaaW.PrintWords Go.Proofs.YtkjlcbfjllpcnaaW.PrintLast Go.Proofs.YtkjlcbfjllpcnaaW.PrintMore
set_option linter.unusedVariables false
theorem spot_none {w:World} {ad:Addr} {v:Value} (h:w.cell? ad=some v):ad.spot=none:=by
 unfold World.cell? at h
 split at h
 ·split at h
  ·cases h
  ·rename_i hs;simpa using hs
 ·cases h
theorem C_ints {w:World} {A:Option Addr} {xs:List Int} (h:(Kd.int .i64).C w A xs.length xs) (hn:0 < xs.length) :
  ∃ b off,A=some ⟨b,off,none⟩∧b < w.heap.size∧∀ j,j < xs.length→w.cell? ⟨b,off+j,none⟩=some (.int .i64 xs[j]!):=by
 obtain ⟨_,_,h2⟩:=h
 obtain ⟨ad,rfl,hc⟩:=h2 hn
 have hcell:∀ j,j < xs.length→w.cell? (ad.add j)=some (.int .i64 xs[j]!):=by
  intro j hj
  obtain ⟨c,hl,hr,hu⟩:=hc j xs[j] (List.getElem?_eq_getElem hj)
  have hr':c=[.int .i64 xs[j]]:=hr
  subst hr'
  have:=hu 0 _ rfl
  simpa [Kd.int,Kd.scalar,hj] using this
 have hs:ad.spot=none:=by
  have:=hcell 0 hn
  rw [show ad.add 0=ad by simp [Addr.add]] at this
  exact spot_none this
 obtain ⟨b,off,spot⟩:=ad
 simp only at hs
 subst hs
 refine ⟨b,off,rfl,?_,fun j hj=>?_⟩
 ·have:=World.block_lt_of_cell? w _ (hcell 0 hn)
  rw [show (⟨b,off,none⟩:Addr).add 0=⟨b,off,none⟩ by simp [Addr.add]] at this
  exact this
 ·have:=hcell j hj
  rcases Nat.eq_zero_or_pos j with rfl|hj0
  ·simpa [Addr.add] using this
  ·have he:(⟨b,off,none⟩:Addr).add j=⟨b,off+j,none⟩:=by simp [Addr.add,Nat.pos_iff_ne_zero.1 hj0]
   rwa [he] at this
theorem C_max {w:World} {A:Option Addr} {xs:List Int} (h:(Kd.int .i64).C w A xs.length xs):xs.length≤9223372036854775807:=h.2.1
end Go.Proofs.Ytkjlcbfjllpcnaa.X
namespace Go.Proofs.Ytkjlcbfjllpcnaa.X
open Go.RowKit Go.Proofs.YtkjlcbfjllpcnaaW.PrintWords Go.Proofs.YtkjlcbfjllpcnaaW.PrintLast Go.Proofs.YtkjlcbfjllpcnaaW.PrintMore
attribute [local go_sem] max2_int min2_int max_two min_two max_three min_three max_four min_four
set_option linter.unusedVariables false
set_option linter.unusedSimpArgs false
mutual
def trustquorummake_trust.l0:Nat→Int→Int→List Int→Int→Int→List Int→Int→Int→List Int→Option (Int × List Int × (List (S32)) × Int)
 | 0,_,_,_,_,_,_,_,_,_=>none
 | k+1,x1,x2,x20,x21,x22,x1000,x1001,x142000,x142001=>if x22 < x21 then (if 0≤x22 then (if x22 < (x20.length:Int) then (if x142001.length < 17592186044416 then (trustquorummake_trust.l0 k x1 x2 x20 x21 (wrap64 (x22+1)) x1000 x1001 x142000 (x142001++[rd x20 x22])) else (none)) else (none)) else (none)) else (if x2 > 1 then ((trustquorummake_Tape_Pick.f x1000 x1001 (([0,0,1,1,2,3]:List Int))).bind fun bt159=>(trustquorummake_trust.l1 k x1 x2 bt159.1 x1000 bt159.2 x142000 x142001 ([]:List (S32)))) else ((trustquorummake_Tape_Range.f x1000 x1001 1 (wrap64 ((x142001.length:Int)+(([]:List (S32)).length:Int)))).bind fun bt180=>(some (bt180.1,x142001,([]:List (S32)),bt180.2))))
def trustquorummake_trust.l1:Nat→Int→Int→Int→List Int→Int→Int→List Int→List (S32)→Option (Int × List Int × (List (S32)) × Int)
 | 0,_,_,_,_,_,_,_,_=>none
 | k+1,x1,x2,x11,x1000,x1001,x142000,x142001,x142002=>if x11 > 0 then ((trustquorummake_trust.f k x1000 x1001 x1 (wrap64 (x2 - 1))).bind fun bt161=>(if x142002.length < 2513169434916 then (trustquorummake_trust.l1 k x1 x2 (wrap64 (x11 - 1)) x1000 bt161.2.2.2 x142000 x142001 (x142002++[(⟨bt161.1,bt161.2.1,bt161.2.2.1⟩:S32)])) else (none))) else (if (x142002.length:Int) > 0 then ((trustquorummake_Tape_N.f x1000 x1001 3).bind fun bt172=>(if bt172.1=0 then ((trustquorummake_Tape_Range.f x1000 bt172.2 1 (wrap64 ((([]:List Int).length:Int)+(x142002.length:Int)))).bind fun bt174=>(some (bt174.1,([]:List Int),x142002,bt174.2))) else ((trustquorummake_Tape_Range.f x1000 bt172.2 1 (wrap64 ((x142001.length:Int)+(x142002.length:Int)))).bind fun bt176=>(some (bt176.1,x142001,x142002,bt176.2))))) else ((trustquorummake_Tape_Range.f x1000 x1001 1 (wrap64 ((x142001.length:Int)+(x142002.length:Int)))).bind fun bt178=>(some (bt178.1,x142001,x142002,bt178.2))))
def trustquorummake_trust.f:Nat→List Int→Int→Int→Int→Option (Int × List Int × (List (S32)) × Int)
 | 0,_,_,_,_=>none
 | k+1,s0_0,s0_1,a1,a2=>(trustquorummake_Tape_Order.f k s0_0 s0_1 a1).bind fun bt142=>((trustquorummake_Tape_Range.f s0_0 bt142.2 1 (mn a1 5)).bind fun bt146=>(if 0≤bt146.1 then (if bt146.1≤(bt142.1.length:Int) then ((some (bt142.1.take (bt146.1:Int).toNat:List Int)).bind fun y148=>(trustquorummake_trust.l0 k a1 a2 y148 (y148.length:Int) 0 s0_0 bt146.2 0 ([]:List Int))) else (none)) else (none)))
end
def trustquorummake_trust.T12:Bool × List (List Nat × List Nat):=(true,[([],[]),([0],[0]),([],[]),([],[]),([],[]),([4],[4]),([2,3,5],[2,3,5]),([6],[6]),([1,7,6],[1,7]),([0,1,2,3,4,5,6,7,8],[]),([9,8,8,0,1,2,3,4,5,6,7,8],[8,9])])
def trustquorummake_trust.B12:List Nat:=[0,1,0,0,0,16,60,124,255,511,1023]
theorem trustquorummake_trust.tab12:rtab .any (opsOf Try.f79 12)=trustquorummake_trust.T12:=by kernel_rfl
theorem trustquorummake_trust.bits12:waitsOk trustquorummake_trust.T12.2 trustquorummake_trust.B12=true:=by kernel_rfl
set_option maxHeartbeats 8000000 in
set_option maxRecDepth 100000 in
theorem trustquorummake_trust.calls (k:Nat):∀ (g:Nat) (s0_0:List Int) (s0_1:Int) (a1:Int) (a2:Int) (r1:Int) (r2:List Int) (r3:List (S32)) (r4:Int) (w0 w:World) (hI:IsS71 w0 w g s0_0 s0_1) (hB:Below w0.heap.size w0 w) (h:trustquorummake_trust.f k s0_0 s0_1 a1 a2=some (r1,r2,r3,r4)),
  Calls Try.prog 79 #[.pointer (some ⟨g,0,none⟩),.int .i64 a1,.int .i64 a2] w fun e w'=>∃ v1_ v2_:Value,e=.returned (.agg #[.int .i64 r1,v1_,v2_])∧Kd.R (Kd.int .i64) 3 w' w.heap.size (fun _=>True) v1_ r2∧Kd.R k32 32 w' w.heap.size (fun k_=>some k_ ≠ (v1_:Value).ownBlock) v2_ r3∧IsS71 w0 w' g s0_0 r4∧Below w0.heap.size w0 w'∧KeepBut w w' g none:=by
 induction k using Nat.strongRecOn with
 | _ k ih =>
 intro g s0_0 s0_1 a1 a2 r1 r2 r3 r4 w0 w hI hB h
 cases k with
 | zero=>exact absurd h (by simp [trustquorummake_trust.f])
 | succ k =>
 simp only [trustquorummake_trust.f] at h
 have hu32:=Try.underlying32
 have HI0:=Z hI
 have HK:=Z (KeepBut.refl w g none)
 have HL:=Z hB.size
 clear hI
 have HW0:=Z hB.size
 have HB:=Z hB
 clear hB
 have H:((trustquorummake_Tape_Order.f k s0_0 s0_1 a1).bind fun bt142=>((trustquorummake_Tape_Range.f s0_0 bt142.2 1 (mn a1 5)).bind fun bt146=>(if 0≤bt146.1 then (if bt146.1≤(bt142.1.length:Int) then ((some (bt142.1.take (bt146.1:Int).toNat:List Int)).bind fun y148=>(trustquorummake_trust.l0 k a1 a2 y148 (y148.length:Int) 0 s0_0 bt146.2 0 ([]:List Int))) else (none)) else (none))))=some (r1,r2,r3,r4):=h
 clear h
 replace H:=Option.bind_eq_some_iff.mp H
 obtain ⟨⟨t142,t145⟩,A40,H⟩:=H
 try dsimp only at H
 have A4:=Z A40
 clear A40
 obtain ⟨ji5,hji5⟩:∃ j_:Int,(mn a1 5)=j_:=⟨_,rfl⟩
 replace H:((trustquorummake_Tape_Range.f s0_0 t145 1 (ji5)).bind fun bt146=>(if 0≤bt146.1 then (if bt146.1≤(t142.length:Int) then ((some (t142.take (bt146.1:Int).toNat:List Int)).bind fun y148=>(trustquorummake_trust.l0 k a1 a2 y148 (y148.length:Int) 0 s0_0 bt146.2 0 ([]:List Int))) else (none)) else (none)))=some (r1,r2,r3,r4):=by first|(rw [hji5] at H;exact H)|(simp only [hji5] at H ⊢;exact H)
 (try rw [hji5] at A4)
 (try (have hji5h:ji5≤5:=by (rw [← hji5];unfold mn;(repeat' split) <;> omega)))
 (try (have hji5g:ji5≤64:=by omega))
 have hji5_:(if 5 < a1 then 5 else a1)=ji5:=hji5
 replace H:=Option.bind_eq_some_iff.mp H
 obtain ⟨⟨t146,t147⟩,A60,H⟩:=H
 try dsimp only at H
 have A6:=Z A60
 clear A60
 by_cases c7:0≤t146
 ·rw [if_pos c7] at H
  have c7b0:=eq_true c7
  have c7b1:decide (0≤t146)=true:=decide_eq_true c7
  clear c7
  by_cases c8:t146≤(t142.length:Int)
  ·rw [if_pos c8] at H
   have c8b0:=eq_true c8
   have c8b1:decide (t146≤(t142.length:Int))=true:=decide_eq_true c8
   clear c8
   obtain ⟨y148,hy148⟩:∃ y_:List Int,y_=(t142.take (t146:Int).toNat):=⟨_,rfl⟩
   first|rw [← hy148] at H|(replace H:=(Option.bind_some _ _).symm.trans H;rw [← hy148] at H)
   have Ny148:=Z hy148
   clear hy148
   have H':=Z H
   clear H
   go_enter Try.func79,Try.ntmps79
   go_wp2_with (first|((with_reducible refine gate_dst (N:=6) rfl ?_);refine box_event ?hg (N:=6) ?hd (cs:=#[.int .i64 0,.slice none 0 0,.slice none 0 0]) (t:=32) ?hr ?_;(case hd=>rfl);(case hg=>rfl);(case hr=>first|(go_simp;done)|(go_simp;rfl));intro gb140 hg w9 hbox hb;have n0_:=Z (IsS71.below pI hb);have n1_:=Z (KeepBut.trans pH (KeepBut.of_below hb g none) (.inl rfl));have n2_:=Z (below_step pB hb);have n3_:=Z (hbox);have n4_:=Z ((pS hg:w.heap.size≤gb140));have n5_:=Z ((Nat.le_trans HW0.out (pS hg:w.heap.size≤gb140):w0.heap.size≤gb140));have n6_:=Z ((pL71 hg (show IsS71 w0 _ g s0_0 s0_1 from pI):g ≠ gb140));have n7_:=Z ((pM71 hg (show IsS71 w0 _ g s0_0 s0_1 from pI):gb140 ≠ g));clear HI0;clear HK;clear HB;have HI0:=n0_;have HK:=n1_;have HB:=n2_;have BK140:=n3_;have GW140:=n4_;have GE140:=n5_;have NB0_140:=n6_;have NB140_0:=n7_;clear n0_ n1_ n2_ n3_ n4_ n5_ n6_ n7_;clear hb hbox hg)|((with_reducible refine gate_dst (N:=7) rfl ?_);refine box_event ?hg (N:=7) ?hd (cs:=#[.int .i64 0,.slice none 0 0,.slice none 0 0]) (t:=32) ?hr ?_;(case hd=>rfl);(case hg=>rfl);(case hr=>first|(go_simp;done)|(go_simp;rfl));intro gb141 hg w10 hbox hb;have n0_:=Z (IsS71.below pI hb);have n1_:=Z (blk_below (g:=gb140) (o:=.cells #[.int .i64 0,.slice none 0 0,.slice none 0 0] 32 (0,0)) (pK BK140) hb);have n2_:=Z (KeepBut.trans pH (KeepBut.of_below hb g none) (.inl rfl));have n3_:=Z (below_step pB hb);have n4_:=Z (hbox);have n5_:=Z ((pS hg:w.heap.size≤gb141));have n6_:=Z ((Nat.le_trans HW0.out (pS hg:w.heap.size≤gb141):w0.heap.size≤gb141));have n7_:=Z ((pL hg (pK BK140):gb140 ≠ gb141));have n8_:=Z ((pM hg (pK BK140):gb141 ≠ gb140));have n9_:=Z ((pL71 hg (show IsS71 w0 _ g s0_0 s0_1 from pI):g ≠ gb141));have n10_:=Z ((pM71 hg (show IsS71 w0 _ g s0_0 s0_1 from pI):gb141 ≠ g));clear HI0;clear BK140;clear HK;clear HB;have HI0:=n0_;have BK140:=n1_;have HK:=n2_;have HB:=n3_;have BK141:=n4_;have GW141:=n5_;have GE141:=n6_;have NB140_141:=n7_;have NB141_140:=n8_;have NB0_141:=n9_;have NB141_0:=n10_;clear n0_ n1_ n2_ n3_ n4_ n5_ n6_ n7_ n8_ n9_ n10_;clear hb hbox hg)|((with_reducible refine gate_callee (f:=33) rfl ?_);refine goesL_ (some 14) rfl rfl Try.func33 (by kernel_rfl) rfl #[.pointer (some ⟨g,0,none⟩),.int .i64 a1] rfl pG ?_;(with_reducible refine (trustquorummake_Tape_Order.calls k g s0_0 s0_1 a1 t142 t145 w0 _ ?side1 ?side2 A4.out).mono ?_);(case side1=>exact pI);(case side2=>exact pB);rintro e w11 ⟨v143,rfl,ho0,hi,hb,hk⟩;refine ⟨_,rfl,?_⟩;have n0_:=Z (KeepBut.blk hk (g':=gb140) (o:=.cells #[.int .i64 0,.slice none 0 0,.slice none 0 0] 32 (0,0)) (pK BK140) NB140_0.out (by simp));have n1_:=Z (KeepBut.blk hk (g':=gb141) (o:=.cells #[.int .i64 0,.slice none 0 0,.slice none 0 0] 32 (0,0)) (pK BK141) NB141_0.out (by simp));have n2_:=Z (Kd.R_lower ho0 (keep_size (w:=w) (g:=g) (row:=none) pH));have n3_:=Z (KeepBut.trans pH hk (.inl rfl));have n4_:=Z (hb);have n5_:=Z (hi);clear BK140;clear BK141;clear HK;clear HB;clear HI0;have BK140:=n0_;have BK141:=n1_;have HO144:=n2_;have HK:=n3_;have HB:=n4_;have HI0:=n5_;clear n0_ n1_ n2_ n3_ n4_ n5_;(try clear hb);(try clear hb2);(try clear hk);(try clear hi);(try clear ho0))|((with_reducible refine gate_callee (f:=44) rfl ?_);refine goesL_ (some 19) rfl rfl Try.func44 (by kernel_rfl) rfl #[.pointer (some ⟨g,0,none⟩),.int .i64 1,.int .i64 ji5] rfl (by (try simp only [List.map_toArray,List.map_cons,List.map_nil]);first|done|(simp only [hji5];rfl)|rfl|(simp only [List.length_drop,List.length_take];rfl)) ?_;(with_reducible refine (trustquorummake_Tape_Range.calls g s0_0 t145 1 ji5 t146 t147 w0 _ ?side1 ?side2 A6.out).mono ?_);(case side1=>exact pI);(case side2=>exact pB);rintro e w12 ⟨rfl,hi,hb,hk⟩;refine ⟨_,rfl,?_⟩;have n0_:=Z (KeepBut.blk hk (g':=gb140) (o:=.cells #[.int .i64 0,.slice none 0 0,.slice none 0 0] 32 (0,0)) (pK BK140) NB140_0.out (by simp));have n1_:=Z (KeepBut.blk hk (g':=gb141) (o:=.cells #[.int .i64 0,.slice none 0 0,.slice none 0 0] 32 (0,0)) (pK BK141) NB141_0.out (by simp));have n2_:=Z (Kd.R_mono (Kd.R_keep (IsS71.apart (show IsS71 w0 _ g s0_0 t145 from pI) (pR HO144) (by decide)) hk (fun _ h=>h.2)) (fun _ h=>h.1));have n3_:=Z (KeepBut.trans pH hk (.inl rfl));have n4_:=Z (hb);have n5_:=Z (hi);clear BK140;clear BK141;clear HO144;clear HK;clear HB;clear HI0;have BK140:=n0_;have BK141:=n1_;have HO144:=n2_;have HK:=n3_;have HB:=n4_;have HI0:=n5_;clear n0_ n1_ n2_ n3_ n4_ n5_;(try clear hb);(try clear hb2);(try clear hk);(try clear hi);obtain ⟨Ao14,co14,eo14⟩:=Kd.R_slice HO144.out;subst eo14;have q13:(t146:Int)≤((t142.length:Int):Int):=of_decide_eq_true (by first|(with_reducible assumption)|assumption);obtain ⟨i013,hi013,_,hsz13,_⟩:=info_parts info3;have hroom13:t142.length≤co14:=(Kd.R_reads' HO144.out).2.1;have hC13:Kd.C (Kd.int .i64) _ Ao14 t142.length t142:=(Kd.R_reads' HO144.out).2.2;have hcut13:=cut_to (P:=Try.prog) 22 3 .i64 Try.underlying22 hi013 Ao14 t142.length co14 t146 (of_decide_eq_true (by first|(with_reducible assumption)|assumption)) q13 hroom13;have hr13:=Kd.C_take (m:=(t146:Int).toNat) hC13 (by omega);have hy13:y148.length=(t146:Int).toNat:=(by rw [Ny148.out,List.length_take];omega);rw [← Ny148.out] at hr13;rw [← hy13] at hcut13;have HR151:=Z hr13;have HC151:=Z (show y148.length≤co14 from by omega);clear hr13 hC13 hroom13 hi013 hsz13;have KY13:=Z hy13;clear hy13;have KL13:=Z (show (t146:Int).toNat≤t142.length from by omega);replace q13:=eq_true q13))
   go_loopg [22] k (fun kq v22 w'=>∃ (x22_1:Int) (x142001_1:List Int) (u142001:Value),v22=.int .i64 x22_1∧Aside0 (trustquorummake_trust.l0 kq a1 a2 y148 (y148.length:Int) x22_1 s0_0 t147 0 x142001_1=some (r1,r2,r3,r4))∧Aside0 (kq≤k)∧Aside0 (Kd.R (Kd.int .i64) 3 w' w.heap.size (fun _=>True) u142001 x142001_1)∧Aside0 (w'.heap[gb140]?=some (.cells #[.int .i64 0,(.slice none 0 0),(.slice none 0 0)] 32 (0,0)))∧Aside0 (w'.heap[gb141]?=some (.cells #[.int .i64 0,u142001,(.slice none 0 0)] 32 (0,0)))∧Aside0 (IsS71 w0 w' g s0_0 t147)∧Aside0 (KeepBut w w' g none)∧Aside0 (Below w0.heap.size w0 w')∧Aside0 (Kd.R (Kd.int .i64) 3 w' w.heap.size (fun k_=>True∧some k_ ≠ (u142001:Value).ownBlock) (.slice Ao14 t142.length co14) t142))
   case atStart=>exact ⟨(0),(([]:List Int)),(.slice none 0 0),pE,H',⟨Nat.le_refl _⟩,⟨pN⟩,⟨pK BK140⟩,⟨pK BK141⟩,⟨pI⟩,⟨pH⟩,⟨pB⟩,⟨Kd.R_mono (pR HO144) (fun _ _=>⟨trivial,by simp [Value.ownBlock]⟩)⟩⟩
   case round =>
    clear H'
    try clear q1
    try clear p2
    try clear c3
    try clear c4
    try clear c7
    try clear c7b0
    try clear c7b1
    try clear c8
    try clear c8b0
    try clear c8b1
    try clear q13
    obtain ⟨x22_1,x142001_1,u142001,rfl,HA,HK1,HO_142001,BK140,BK141,HI0,HK,HB,HZ⟩:=hrel
    cases gk with
    | zero=>exact absurd HA.out (by simp [trustquorummake_trust.l0])
    | succ k1 =>
     have H:=HA.out
     clear HA
     simp only [trustquorummake_trust.l0] at H
     by_cases c15:x22_1 < (y148.length:Int)
     ·rw [if_pos c15] at H
      have c15b0:decide (x22_1 < (y148.length:Int))=true:=decide_eq_true c15
      clear c15
      by_cases c16:0≤x22_1
      ·rw [if_pos c16] at H
       have c16b0:decide (0≤x22_1)=true:=decide_eq_true c16
       clear c16
       by_cases c17:x22_1 < (y148.length:Int)
       ·rw [if_pos c17] at H
        have c17b0:decide (x22_1 < (y148.length:Int))=true:=decide_eq_true c17
        clear c17
        by_cases c18:x142001_1.length < 17592186044416
        ·rw [if_pos c18] at H
         have LMc18:=Z c18
         clear c18
         obtain ⟨y153,hy153⟩:∃ y_:List Int,y_=(x142001_1++[rd y148 x22_1]):=⟨_,rfl⟩
         first|rw [← hy153] at H|(replace H:=(Option.bind_some _ _).symm.trans H;rw [← hy153] at H)
         have Ny153:=Z hy153
         clear hy153
         have H':=Z H
         clear H
         have p152:0≤(x22_1:Int):=of_decide_eq_true (by first|(with_reducible assumption)|assumption)
         have q152:x22_1 < (y148.length:Int):=of_decide_eq_true (by first|(with_reducible assumption)|assumption)
         have hz_:=Kd.C_take (m:=(t146:Int).toNat) (Kd.R_reads' HZ.out).2.2 KL13.out
         rw [← Ny148.out] at hz_
         obtain ⟨ad152,e152,hx152_0⟩:=Kd.at_int hz_ x22_1 p152 q152
         cases e152
         clear hz_
         replace p152:=eq_true p152
         replace q152:=eq_true q152
         have hnb19:=NB141_140.out
         have hnc19:=NB140_141.out
         have hnb20:=NB141_0.out
         have hnc20:=NB0_141.out
         have hcz21_0:wr.cell? ⟨gb141,0,none⟩=some (.int .i64 0):=(kC BK141.out 0).trans rfl
         have hcz21_1:wr.cell? ⟨gb141,1,none⟩=some (u142001):=(kC BK141.out 1).trans rfl
         have hcz21_2:wr.cell? ⟨gb141,2,none⟩=some (.slice none 0 0):=(kC BK141.out 2).trans rfl
         have hfz21_0:=kF BK141.out 0
         have hfz21_1:=kF BK141.out 1
         have hfz21_2:=kF BK141.out 2
         go_wp2_with (first|((with_reducible refine gate_builtin (b:=.append) (xs:=#[.tmp 27,.tmp 29]) rfl ?_);at_builtin;refine Kd.R_append (Kd.int .i64) w.heap.size rfl (.tmp 27) (.tmp 29) 22 3 (.int .i64 0) 8 rfl Try.underlying22 info3 rfl (by decide) (by omega) u142001 x142001_1 (rd y148 x22_1) [.int .i64 (rd y148 x22_1)] (fun _=>True) (fun _=>False) rfl rfl ?aP (fun _ hk=>hk.elim) ?aF ?aO (Below.refl _ _) ?aS ?aL ?_;(case aP=>exact rfl);(case aF=>exact (fun _ _=>trivial));(case aO=>exact (pR HO_142001));(case aS=>exact (keep_size (w:=w) (g:=g) (row:=none) pH));(case aL=>have:=LMc18.out;omega);intro v154 w22 ho hb hg hat;rw [← Ny153.out] at ho;have n0_:=Z (blk_grown (g:=gb140) (o:=.cells #[.int .i64 0,.slice none 0 0,.slice none 0 0] 32 (0,0)) (pK BK140) hg (Kd.R_ne HO_142001.out BK140.out (by decide)));have n1_:=Z (blk_grown (g:=gb141) (o:=.cells #[.int .i64 0,u142001,.slice none 0 0] 32 (0,0)) (pK BK141) hg (Kd.R_ne HO_142001.out BK141.out (by decide)));have n2_:=Z (IsS71.grown pI hg (IsS71.own_ne HI0.out HO_142001.out (by decide)));have n3_:=Z (below_weaken pB HL.out hb);have n4_:=Z (KeepBut.trans pH (KeepBut.of_grown hg g) (Kd.R_base2 HO_142001.out));have n5_:=Z (ho);have n6_:=Z (Kd.R_after (pR HZ) hg hat);clear HZ;have HZ:=n6_;clear BK140;clear BK141;clear HI0;clear HB;clear HK;clear HO_142001;have BK140:=n0_;have BK141:=n1_;have HI0:=n2_;have HB:=n3_;have HK:=n4_;have HO155:=n5_;clear n0_ n1_ n2_ n3_ n4_ n5_;clear ho hb hg hat;obtain ⟨Ao23,co23,eo23⟩:=Kd.R_slice HO155.out;subst eo23;have hcz24_0:w22.cell? ⟨gb141,0,none⟩=some (.int .i64 0):=(kC BK141.out 0).trans rfl;have hcz24_1:w22.cell? ⟨gb141,1,none⟩=some (u142001):=(kC BK141.out 1).trans rfl;have hcz24_2:w22.cell? ⟨gb141,2,none⟩=some (.slice none 0 0):=(kC BK141.out 2).trans rfl;have hfz24_0:=kF BK141.out 0;have hfz24_1:=kF BK141.out 1;have hfz24_2:=kF BK141.out 2))
         go_roundg k1
         case measure=>have:=HK1.out;omega
         case rel=>exact ⟨(wrap64 (x22_1+1)),(y153),(.slice Ao23 y153.length co23),pE,H',⟨by have:=HK1.out;omega⟩,⟨by (with_reducible repeat (first|apply Kd.R_alloc|apply Kd.R_drewN|apply Kd.R_drew));exact Kd.R_mono (Kd.R_far (p:=⟨gb141,1,none⟩) (Kd.R_types HO155.out BK141.out (by decide)) (fun _ hk=>hk.2) (.slice Ao23 y153.length co23)) (fun _ hk=>trivial)⟩,⟨by (with_reducible repeat (first|refine kN ?_ _|refine kD ?_|refine kA ?_ _));refine blk_far ?_ NB140_141.out _;(with_reducible repeat (first|refine kN ?_ _|refine kD ?_|refine kA ?_ _));exact BK140.out⟩,⟨by (with_reducible repeat (first|refine kN ?_ _|refine kD ?_|refine kA ?_ _));refine blk_put (cs:=#[.int .i64 0,u142001,.slice none 0 0]) ?_ 1 _ rfl;(with_reducible repeat (first|refine kN ?_ _|refine kD ?_|refine kA ?_ _));exact BK141.out⟩,⟨pI⟩,⟨pH⟩,⟨pB⟩,⟨by (with_reducible repeat (first|apply Kd.R_alloc|apply Kd.R_drewN|apply Kd.R_drew));exact Kd.R_mono (Kd.R_far (p:=⟨gb141,1,none⟩) (Kd.R_types HZ.out BK141.out (by decide)) (fun _ hk=>hk.2) (.slice Ao23 y153.length co23)) (fun _ hk=>hk.1)⟩⟩
        ·rw [if_neg c18] at H
         exact absurd H (by simp)
       ·rw [if_neg c17] at H
        exact absurd H (by simp)
      ·rw [if_neg c16] at H
       exact absurd H (by simp)
     ·rw [if_neg c15] at H
      have c15b0:decide (x22_1 < (y148.length:Int))=false:=decide_eq_false c15
      clear c15
      by_cases c25:a2 > 1
      ·rw [if_pos c25] at H
       have c25b0:decide (1 < a2)=true:=decide_eq_true c25
       clear c25
       obtain ⟨y156,hy156⟩:∃ y_:List Int,y_=(([0,0,1,1,2,3]:List Int)):=⟨_,rfl⟩
       first|rw [← hy156] at H|(replace H:=(Option.bind_some _ _).symm.trans H;rw [← hy156] at H)
       have Ny156:=Z hy156
       clear hy156
       replace H:=Option.bind_eq_some_iff.mp H
       obtain ⟨⟨t159,t160⟩,A260,H⟩:=H
       try dsimp only at H
       have A26:=Z A260
       clear A260
       have H':=Z H
       clear H
       go_wp2_with (first|((with_reducible refine gate_dst (N:=36) rfl ?_);refine Kd.R_lit (Kd.int .i64) _ 3 ?hg (N:=36) ?hd (xs:=([0,0,1,1,2,3]:List Int)) (inner:=[.int .i64 0,.int .i64 0,.int .i64 1,.int .i64 1,.int .i64 2,.int .i64 3]) (ok:=fun _=>True) (okp:=fun _=>True) ?hr ?hp (fun _ hk=>hk) trivial (Below.refl _ _) (Nat.le_refl _) (by simp) ?_;(case hd=>rfl);(case hg=>rfl);(case hr=>first|(go_simp;done)|(go_simp;rfl));(case hp=>exact (Reps.one (show Kd.M (Kd.int .i64) _ _ _ 0 [.int .i64 0] from rfl) (Reps.one (show Kd.M (Kd.int .i64) _ _ _ 0 [.int .i64 0] from rfl) (Reps.one (show Kd.M (Kd.int .i64) _ _ _ 1 [.int .i64 1] from rfl) (Reps.one (show Kd.M (Kd.int .i64) _ _ _ 1 [.int .i64 1] from rfl) (Reps.one (show Kd.M (Kd.int .i64) _ _ _ 2 [.int .i64 2] from rfl) (Reps.one (show Kd.M (Kd.int .i64) _ _ _ 3 [.int .i64 3] from rfl) (Reps.none _ _))))))));intro v157 w27 ho28 hb hg_ hnew_;clear hg_ hnew_;(first|rw [← Ny156.out] at ho28|(simp only [Int.reduceToNat] at ho28;rw [← Ny156.out] at ho28));have n0_:=Z (Kd.R_elder' (pR HO_142001) (Kd.R_base ho28) hb);have n1_:=Z (Kd.R_lower (Kd.R_new' ho28 (Kd.R_lt (pR HO_142001))) (keep_size (w:=w) (g:=g) (row:=none) pH));have n2_:=Z (blk_below (g:=gb140) (o:=.cells #[.int .i64 0,.slice none 0 0,.slice none 0 0] 32 (0,0)) (pK BK140) hb);have n3_:=Z (blk_below (g:=gb141) (o:=.cells #[.int .i64 0,u142001,.slice none 0 0] 32 (0,0)) (pK BK141) hb);have n4_:=Z (IsS71.below pI hb);have n5_:=Z (KeepBut.trans pH (KeepBut.of_below hb g none) (.inl rfl));have n6_:=Z (below_step pB hb);clear HO_142001;clear BK140;clear BK141;clear HI0;clear HK;clear HB;have HO_142001:=n0_;have HO158:=n1_;have BK140:=n2_;have BK141:=n3_;have HI0:=n4_;have HK:=n5_;have HB:=n6_;clear n0_ n1_ n2_ n3_ n4_ n5_ n6_;clear hb ho28;obtain ⟨Ao29,co29,eo29⟩:=Kd.R_slice HO158.out;subst eo29)|((with_reducible refine gate_callee (f:=71) rfl ?_);refine goesL_ (some 37) rfl rfl Try.func71 (by kernel_rfl) rfl #[.pointer (some ⟨g,0,none⟩),.slice Ao29 y156.length co29] rfl pG ?_;(with_reducible refine (trustquorummake_Tape_Pick.calls g s0_0 t147 _ _ y156 t159 t160 w0 _ ?side1 ?side2 ?side3 ?side4 ?side5 A26.out).mono ?_);(case side1=>exact pI);(case side2=>exact pB);(case side3=>repeat (first|exact (Kd.R_reads' HO158.out).2.2|(with_reducible refine Kd.C_alloc ?_ _)|(with_reducible refine Kd.C_drewN ?_ _)|(with_reducible refine Kd.C_drew ?_)));(case side4=>exact (Kd.R_reads' HO158.out).2.1);(case side5=>exact far_slice (IsS71.own_ne HI0.out HO158.out (by decide)));rintro e w30 ⟨rfl,hi,hb,hk⟩;refine ⟨_,rfl,?_⟩;have n0_:=Z (Kd.R_mono (Kd.R_keep (IsS71.apart (show IsS71 w0 _ g s0_0 t147 from pI) (pR HO_142001) (by decide)) hk (fun _ h=>h.2)) (fun _ h=>h.1));have n1_:=Z (KeepBut.blk hk (g':=gb140) (o:=.cells #[.int .i64 0,.slice none 0 0,.slice none 0 0] 32 (0,0)) (pK BK140) NB140_0.out (by simp));have n2_:=Z (KeepBut.blk hk (g':=gb141) (o:=.cells #[.int .i64 0,u142001,.slice none 0 0] 32 (0,0)) (pK BK141) NB141_0.out (by simp));have n3_:=Z (Kd.R_mono (Kd.R_keep (IsS71.apart (show IsS71 w0 _ g s0_0 t147 from pI) (pR HO158) (by decide)) hk (fun _ h=>h.2)) (fun _ h=>h.1));have n4_:=Z (KeepBut.trans pH hk (.inl rfl));have n5_:=Z (hb);have n6_:=Z (hi);clear HO_142001;clear BK140;clear BK141;clear HO158;clear HK;clear HB;clear HI0;have HO_142001:=n0_;have BK140:=n1_;have BK141:=n2_;have HO158:=n3_;have HK:=n4_;have HB:=n5_;have HI0:=n6_;clear n0_ n1_ n2_ n3_ n4_ n5_ n6_;(try clear hb);(try clear hb2);(try clear hk);(try clear hi)))
       go_loopg [11] k1 (fun kq v11 w'=>∃ (x11_2:Int) (x1001_2:Int) (x142002_2:List (S32)) (u142002:Value),v11=.int .i64 x11_2∧Aside0 (trustquorummake_trust.l1 kq a1 a2 x11_2 s0_0 x1001_2 0 x142001_1 x142002_2=some (r1,r2,r3,r4))∧Aside0 (kq≤k1)∧Aside0 (Kd.R (Kd.int .i64) 3 w' w.heap.size (fun _=>True) u142001 x142001_1)∧Aside0 (Kd.R k32 32 w' w.heap.size (fun k_=>some k_ ≠ (u142001:Value).ownBlock∧k_ ≠ gb140∧k_ ≠ gb141) u142002 x142002_2)∧Aside0 (w'.heap[gb140]?=some (.cells #[.int .i64 0,(.slice none 0 0),(.slice none 0 0)] 32 (0,0)))∧Aside0 (w'.heap[gb141]?=some (.cells #[.int .i64 0,u142001,u142002] 32 (0,0)))∧Aside0 (IsS71 w0 w' g s0_0 x1001_2)∧Aside0 (KeepBut w w' g none)∧Aside0 (Below w0.heap.size w0 w'))
       case atStart=>exact ⟨(t159),(t160),(([]:List (S32))),(.slice none 0 0),pE,H',⟨Nat.le_refl _⟩,⟨by (with_reducible repeat (first|apply Kd.R_alloc|apply Kd.R_drewN|apply Kd.R_drew));exact Kd.R_mono HO_142001.out (fun _ hk=>trivial)⟩,⟨pN⟩,⟨pK BK140⟩,⟨pK BK141⟩,⟨pI⟩,⟨pH⟩,⟨pB⟩⟩
       case round =>
        clear H'
        try clear c1
        try clear p1
        try clear q1
        try clear hx1
        try clear c2
        try clear p2
        try clear c3
        try clear c4
        try clear p6
        try clear c7
        try clear c7b0
        try clear c7b1
        try clear c8
        try clear c8b0
        try clear c8b1
        try clear q13
        try clear c15
        try clear c15b0
        try clear p15
        try clear q15
        try clear hx15
        try clear hf15
        try clear c16
        try clear c16b0
        try clear c17
        try clear c17b0
        try clear c18
        try clear c19
        try clear c20
        try clear c25
        try clear c25b0
        try clear hcz21_0
        try clear hcz21_1
        try clear hcz21_2
        try clear hcz24_0
        try clear hcz24_1
        try clear hcz24_2
        try clear hfz21_0
        try clear hfz21_1
        try clear hfz21_2
        try clear hfz24_0
        try clear hfz24_1
        try clear hfz24_2
        try clear hx152_0
        try clear p152
        try clear q152
        obtain ⟨x11_2,x1001_2,x142002_2,u142002,rfl,HA,HK2,HO_142001,HO_142002,BK140,BK141,HI0,HK,HB⟩:=hrel
        cases gk with
        | zero=>exact absurd HA.out (by simp [trustquorummake_trust.l1])
        | succ k2 =>
         have H:=HA.out
         clear HA
         simp only [trustquorummake_trust.l1] at H
         by_cases c31:x11_2 > 0
         ·rw [if_pos c31] at H
          have c31b0:decide (0 < x11_2)=true:=decide_eq_true c31
          clear c31
          replace H:=Option.bind_eq_some_iff.mp H
          obtain ⟨⟨t161,t162,t165,t168⟩,A320,H⟩:=H
          try dsimp only at H
          have A32:=Z A320
          clear A320
          by_cases c33:x142002_2.length < 2513169434916
          ·rw [if_pos c33] at H
           have LMc33:=Z c33
           clear c33
           obtain ⟨y169,hy169⟩:∃ y_:List (S32),y_=(x142002_2++[(⟨t161,t162,t165⟩:S32)]):=⟨_,rfl⟩
           first|rw [← hy169] at H|(replace H:=(Option.bind_some _ _).symm.trans H;rw [← hy169] at H)
           have Ny169:=Z hy169
           clear hy169
           have H':=Z H
           clear H
           try go_wp2
           have n0_:=Z (Kd.R_drew HO_142001.out)
           have n1_:=Z (Kd.R_drew HO_142002.out)
           have n2_:=Z (kD BK140.out)
           have n3_:=Z (kD BK141.out)
           have n4_:=Z (IsS71.drew HI0.out)
           have n5_:=Z (keep_drew HK.out)
           have n6_:=Z (wD HB.out)
           clear HO_142001
           clear HO_142002
           clear BK140
           clear BK141
           clear HI0
           clear HK
           clear HB
           have HO_142001:=n0_
           have HO_142002:=n1_
           have BK140:=n2_
           have BK141:=n3_
           have HI0:=n4_
           have HK:=n5_
           have HB:=n6_
           clear n0_ n1_ n2_ n3_ n4_ n5_ n6_
           refine start_ (n:=11) (S:=fun w'=>w'.cell? ⟨gb141,0,none⟩=some (.int .i64 0)∧w'.cell? ⟨gb141,1,none⟩=some (u142001)∧w'.cell? ⟨gb141,2,none⟩=some (u142002)) (ds:=[10]) #[false,false,false,false,false,false,false,false,false,false,false] (by kernel_rfl) rfl rfl ⟨(kC BK141.out 0).trans rfl,(kC BK141.out 1).trans rfl,(kC BK141.out 2).trans rfl⟩ (fun hHeld=>?_);refine with_tabW trustquorummake_trust.tab12 trustquorummake_trust.bits12 (fun HT_ HW_=>?_)
           generalize wr.drew=w34 at HO_142001 HO_142002 BK140 BK141 HI0 HK HB hHeld ⊢
           refine pure_ (i:=0) (N:=some 42) (v:=?_) (a':=?_) #[true,false,false,false,false,false,false,false,false,false,false] rfl rfl (any_of HT_.out (by kernel_rfl)) (fun _ _ _ h=>h) (Or.inl ⟨by rfl,?_⟩) ?_ ?_
           rotate_left
           ·intro w'
            go_simp
            with_reducible rfl
           rotate_left
           ·simp only [Act.put,List.setIfInBounds_toArray,List.set_cons_zero,List.set_cons_succ,i64_w,i32_w]
            rfl
           refine pure_ (i:=2) (N:=some 44) (v:=?_) (a':=?_) #[true,false,true,false,false,false,false,false,false,false,false] rfl rfl (any_of HT_.out (by kernel_rfl)) (fun _ _ _ h=>h) (Or.inl ⟨by rfl,?_⟩) ?_ ?_
           rotate_left
           ·intro w'
            go_simp
            with_reducible rfl
           rotate_left
           ·simp only [Act.put,List.setIfInBounds_toArray,List.set_cons_zero,List.set_cons_succ,i64_w,i32_w]
            rfl
           refine pure_ (i:=3) (N:=some 45) (v:=?_) (a':=?_) #[true,false,true,true,false,false,false,false,false,false,false] rfl rfl (any_of HT_.out (by kernel_rfl)) (fun _ _ _ h=>h) (Or.inl ⟨by rfl,?_⟩) ?_ ?_
           rotate_left
           ·intro w'
            go_simp
            with_reducible rfl
           rotate_left
           ·simp only [Act.put,List.setIfInBounds_toArray,List.set_cons_zero,List.set_cons_succ,i64_w,i32_w]
            rfl
           refine pure_ (i:=4) (N:=some 46) (v:=?_) (a':=?_) #[true,false,true,true,true,false,false,false,false,false,false] rfl rfl (any_of HT_.out (by kernel_rfl)) (fun _ _ _ h=>h) (Or.inl ⟨by rfl,?_⟩) ?_ ?_
           rotate_left
           ·intro w'
            go_simp
            with_reducible rfl
           rotate_left
           ·simp only [Act.put,List.setIfInBounds_toArray,List.set_cons_zero,List.set_cons_succ,i64_w,i32_w]
            rfl
           refine pure_ (i:=5) (N:=some 47) (v:=?_) (a':=?_) #[true,false,true,true,true,true,false,false,false,false,false] rfl rfl (any_of HT_.out (by kernel_rfl)) (fun _ _ _ h=>h) (Or.inl ⟨by rfl,?_⟩) ?_ ?_
           rotate_left
           ·intro w'
            go_simp
            with_reducible rfl
           rotate_left
           ·simp only [Act.put,List.setIfInBounds_toArray,List.set_cons_zero,List.set_cons_succ,i64_w,i32_w]
            rfl
           refine take_ (i:=1) (N:=some 43) (v:=?_) (a':=?_) #[true,true,true,true,true,true,false,false,false,false,false] rfl rfl (take_ofW HT_.out HW_.out (by kernel_rfl)) (fun _ _ _ h=>h) (Or.inl ⟨by rfl,?_⟩) hHeld ?_ ?_
           rotate_left
           ·rintro w' ⟨s0,s1,s2⟩
            go_simp
            with_reducible rfl
           rotate_left
           ·simp only [Act.put,List.setIfInBounds_toArray,List.set_cons_zero,List.set_cons_succ,i64_w,i32_w]
            rfl
           refine one_ (i:=6) (N:=some 48) #[true,true,true,true,true,true,true,false,false,false,false] rfl rfl (one_of HT_.out (by kernel_rfl)) (by decide) (fun K hK=>?_)
           refine goes_ Try.func79 (by kernel_rfl) rfl #[.pointer (some ⟨g,0,none⟩),.int .i64 a1,.int .i64 (wrap64 (a2 - 1))] (by rfl) rfl rfl pG ?_
           with_reducible refine (ih k2 (by have:=HK1.out;have:=HK2.out;omega) g s0_0 x1001_2 a1 (wrap64 (a2 - 1)) t161 t162 t165 t168 w0 _ ?side1 ?side2 A32.out).mono ?_
           (case side1=>exact pI)
           (case side2=>exact pB)
           rintro e w35 ⟨v163,v166,rfl,ho0,ho1,hi,hb,hk⟩
           refine ⟨_,rfl,?_⟩
           have n0_:=Z (Kd.R_mono (Kd.R_told (Kd.R_oldK (IsS71.apart (show IsS71 w0 _ g s0_0 x1001_2 from pI) (pR HO_142001) (by decide)) hk) (Kd.R_base ho0)) (fun _ h_=>h_.1))
           have n1_:=Z (Kd.R_mono (Kd.R_told (Kd.R_told (Kd.R_oldK (IsS71.apart (show IsS71 w0 _ g s0_0 x1001_2 from pI) (pR HO_142002) (by decide)) hk) (Kd.R_base ho0)) (Kd.R_base ho1)) (fun _ h_=>h_.1))
           have n2_:=Z (KeepBut.blk hk (g':=gb140) (o:=.cells #[.int .i64 0,.slice none 0 0,.slice none 0 0] 32 (0,0)) (pK BK140) NB140_0.out (by simp))
           have n3_:=Z (KeepBut.blk hk (g':=gb141) (o:=.cells #[.int .i64 0,u142001,u142002] 32 (0,0)) (pK BK141) NB141_0.out (by simp))
           have n4_:=Z (Kd.R_lower (Kd.R_new' ho0 (Kd.R_lt (pR HO_142001))) (keep_size (w:=w) (g:=g) (row:=none) pH))
           have n5_:=Z (Kd.R_lower (Kd.R_newB (Kd.R_newB (Kd.R_new' (Kd.R_new' ho1 (Kd.R_lt (pR HO_142001))) (Kd.R_lt (pR HO_142002))) (g:=gb140) (o:=.cells #[.int .i64 0,.slice none 0 0,.slice none 0 0] 32 (0,0)) (pK BK140)) (g:=gb141) (o:=.cells #[.int .i64 0,u142001,u142002] 32 (0,0)) (pK BK141)) (keep_size (w:=w) (g:=g) (row:=none) pH))
           have n6_:=Z (KeepBut.trans pH hk (.inl rfl))
           have n7_:=Z (hb)
           have n8_:=Z (hi)
           clear HO_142001
           clear HO_142002
           clear BK140
           clear BK141
           clear HK
           clear HB
           clear HI0
           have HO_142001:=n0_
           have HO_142002:=n1_
           have BK140:=n2_
           have BK141:=n3_
           have HO164:=n4_
           have HO167:=n5_
           have HK:=n6_
           have HB:=n7_
           have HI0:=n8_
           clear n0_ n1_ n2_ n3_ n4_ n5_ n6_ n7_ n8_
           (try clear hb)
           (try clear hb2)
           (try clear hk)
           (try clear hi)
           (try clear ho0)
           (try clear ho1)
           obtain ⟨Ao37,co37,eo37⟩:=Kd.R_slice HO164.out
           (first|subst eo37|(injection eo37 with f1_ f2_ f3_;have f4_:=f1_.symm;have f5_:=f3_.symm;clear f1_ f2_ f3_;subst f4_;subst f5_))
           obtain ⟨Ao38,co38,eo38⟩:=Kd.R_slice HO167.out
           (first|subst eo38|(injection eo38 with f1_ f2_ f3_;have f4_:=f1_.symm;have f5_:=f3_.symm;clear f1_ f2_ f3_;subst f4_;subst f5_))
           refine hK.out _ _ ⟨(kC BK141.out 0).trans rfl,(kC BK141.out 1).trans rfl,(kC BK141.out 2).trans rfl⟩ (fun hHeld=>?_)
           clear hK K
           refine norm_ (a':=?_) ?_ ?_
           rotate_left
           ·show Act.put _ (some 48) _=_
            simp only [Act.put,List.setIfInBounds_toArray,List.set_cons_zero,List.set_cons_succ,i64_w,i32_w]
            rfl
           refine one_ (i:=7) (N:=some 49) #[true,true,true,true,true,true,true,true,false,false,false] rfl rfl (one_of HT_.out (by kernel_rfl)) (by decide) (fun K hK=>?_)
           refine value_ (w1:=?_) (v:=?_) (by rfl) rfl ?_ ?_
           rotate_left 2
           ·go_simp
            constructor
            ·rfl
            ·rfl
           refine hK.out _ _ ⟨(kC (kA BK141.out _) 0).trans rfl,(kC (kA BK141.out _) 1).trans rfl,(kC (kA BK141.out _) 2).trans rfl⟩ (fun hHeld=>?_)
           clear hK K
           refine norm_ (a':=?_) ?_ ?_
           rotate_left
           ·show Act.put _ (some 49) _=_
            simp only [Act.put,List.setIfInBounds_toArray,List.set_cons_zero,List.set_cons_succ,i64_w,i32_w]
            rfl
           refine one_ (i:=8) (N:=some 50) #[true,true,true,true,true,true,true,true,true,false,false] rfl rfl (one_of HT_.out (by kernel_rfl)) (by decide) (fun K hK=>?_)
           refine Kd.R_append_step k32 w.heap.size (by rfl) (.tmp 43) (.tmp 49) 30 32 (.agg #[(.int .i64 0),(.slice none 0 0),(.slice none 0 0)]) 56 rfl Try.underlying30 info32 rfl (by decide) (by omega) u142002 x142002_2 (⟨t161,t162,t165⟩:S32) [.int .i64 t161,.slice Ao37 t162.length co37,.slice Ao38 t165.length co38] (fun k_=>some k_ ≠ (u142001:Value).ownBlock∧k_ ≠ gb140∧k_ ≠ gb141) (fun k_=>((fun k_=>some k_ ≠ (u142001:Value).ownBlock∧k_ ≠ gb140∧k_ ≠ gb141)) k_∧some k_ ≠ (u142002:Value).ownBlock) rfl rfl ?aP (fun _ hk=>hk) ?aF ?aO (Below.refl _ _) ?aS ?aL ?_
           (case aP=>exact k32_mkM _ _ _ (⟨t161,t162,t165⟩:S32) (Kd.R_mono (Kd.R_types (Kd.R_types (Kd.R_apart' (HO164.out) (Kd.R_typed HO_142002.out) (by decide)) BK140.out (by decide)) BK141.out (by decide)) (fun k_ hk=>⟨⟨hk.1.1.1.2,⟨hk.1.2,hk.2⟩⟩,hk.1.1.2⟩)) (Kd.R_mono (HO167.out) (fun k_ hk=>⟨⟨hk.1.1.1.2,⟨hk.1.2,hk.2⟩⟩,hk.1.1.2⟩)))
           (case aF=>exact (fun k_ hk=>⟨Kd.fresh' (Kd.R_lt (pR HO_142001)) k_ hk,Kd.freshB (g:=gb140) (o:=.cells #[.int .i64 0,.slice none 0 0,.slice none 0 0] 32 (0,0)) (pK BK140) k_ hk,Kd.freshB (g:=gb141) (o:=.cells #[.int .i64 0,u142001,u142002] 32 (0,0)) (pK BK141) k_ hk⟩))
           (case aO=>exact (by (with_reducible repeat (first|apply Kd.R_alloc|apply Kd.R_drewN|apply Kd.R_drew));exact Kd.R_mono HO_142002.out (fun _ hk=>⟨hk.1.1.1,⟨hk.1.1.2.1,hk.1.1.2.2⟩⟩)))
           (case aS=>exact (keep_size (w:=w) (g:=g) (row:=none) pH))
           (case aL=>have:=LMc33.out;omega)
           intro v170 w36 ho hb hg hat
           rw [← Ny169.out] at ho
           have n0_:=Z (Kd.R_over' (pR HO_142001) (Kd.R_typed (pR HO_142002)) (by decide) hg)
           have n1_:=Z (blk_grown (g:=gb140) (o:=.cells #[.int .i64 0,.slice none 0 0,.slice none 0 0] 32 (0,0)) (pK BK140) hg (Kd.R_away HO_142002.out (fun _ hk=>hk.1.1.2.1)))
           have n2_:=Z (blk_grown (g:=gb141) (o:=.cells #[.int .i64 0,u142001,u142002] 32 (0,0)) (pK BK141) hg (Kd.R_away HO_142002.out (fun _ hk=>hk.1.1.2.2)))
           have n3_:=Z (IsS71.grown pI hg (IsS71.own_ne HI0.out HO_142002.out (by decide)))
           have n4_:=Z (below_weaken pB HL.out hb)
           have n5_:=Z (KeepBut.trans pH (KeepBut.of_grown hg g) (Kd.R_base2 HO_142002.out))
           have n6_:=Z (ho)
           clear HO_142001
           clear BK140
           clear BK141
           clear HI0
           clear HB
           clear HK
           clear HO_142002
           clear HO164
           clear HO167
           have HO_142001:=n0_
           have BK140:=n1_
           have BK141:=n2_
           have HI0:=n3_
           have HB:=n4_
           have HK:=n5_
           have HO171:=n6_
           clear n0_ n1_ n2_ n3_ n4_ n5_ n6_
           clear ho hb hg hat
           obtain ⟨Ao39,co39,eo39⟩:=Kd.R_slice HO171.out
           (first|subst eo39|(injection eo39 with f1_ f2_ f3_;have f4_:=f1_.symm;have f5_:=f3_.symm;clear f1_ f2_ f3_;subst f4_;subst f5_))
           refine hK.out _ _ ⟨(kC BK141.out 0).trans rfl,(kC BK141.out 1).trans rfl,(kC BK141.out 2).trans rfl⟩ (fun hHeld=>?_)
           clear hK K
           refine norm_ (a':=?_) ?_ ?_
           rotate_left
           ·show Act.put _ (some 50) _=_
            simp only [Act.put,List.setIfInBounds_toArray,List.set_cons_zero,List.set_cons_succ,i64_w,i32_w]
            rfl
           refine pure_ (i:=9) (N:=some 51) (v:=?_) (a':=?_) #[true,true,true,true,true,true,true,true,true,true,false] rfl rfl (any_of HT_.out (by kernel_rfl)) (fun _ _ _ h=>h) (Or.inl ⟨by rfl,?_⟩) ?_ ?_
           rotate_left
           ·intro w'
            go_simp
            with_reducible rfl
           rotate_left
           ·simp only [Act.put,List.setIfInBounds_toArray,List.set_cons_zero,List.set_cons_succ,i64_w,i32_w]
            rfl
           refine last_ (i:=10) (N:=none) #[true,true,true,true,true,true,true,true,true,true,true] rfl rfl (one_of HT_.out (by kernel_rfl)) (by decide) (fun K hK=>?_)
           have hs40:w36.cell? ⟨gb141,2,none⟩=some (u142002):=(kC BK141.out 2).trans rfl
           have hfs40:=kF BK141.out 2
           have hns40_0:=NB140_141.out
           have hms40_0:=NB141_140.out
           refine skip_ (w1:=?_) (by rfl) rfl ?_ ?_
           rotate_left
           ·go_simp
            rfl
           refine hK.out _ _ ?_
           clear hK K
           refine done_ (done_of HT_.out (by kernel_rfl)) ?_
           try go_wp2
           go_roundg k2
           case measure=>have:=HK1.out;have:=HK2.out;omega
           case rel=>exact ⟨(wrap64 (x11_2 - 1)),(t168),(y169),(.slice Ao39 y169.length co39),pE,H',⟨by have:=HK1.out;have:=HK2.out;omega⟩,⟨by (with_reducible repeat (first|apply Kd.R_alloc|apply Kd.R_drewN|apply Kd.R_drew));exact Kd.R_mono (Kd.R_far (p:=⟨gb141,2,none⟩) (Kd.R_types HO_142001.out BK141.out (by decide)) (fun _ hk=>hk.2) (.slice Ao39 y169.length co39)) (fun _ hk=>trivial)⟩,⟨by (with_reducible repeat (first|apply Kd.R_alloc|apply Kd.R_drewN|apply Kd.R_drew));exact Kd.R_mono (Kd.R_far (p:=⟨gb141,2,none⟩) (Kd.R_mono HO171.out (fun k_ hk=>(⟨hk,hk.2.2⟩:_∧k_ ≠ gb141))) (fun _ hk=>hk.2) (.slice Ao39 y169.length co39)) (fun _ hk=>⟨hk.1.1,⟨hk.1.2.1,hk.1.2.2⟩⟩)⟩,⟨by (with_reducible repeat (first|refine kN ?_ _|refine kD ?_|refine kA ?_ _));refine blk_far ?_ NB140_141.out _;(with_reducible repeat (first|refine kN ?_ _|refine kD ?_|refine kA ?_ _));exact BK140.out⟩,⟨by (with_reducible repeat (first|refine kN ?_ _|refine kD ?_|refine kA ?_ _));refine blk_put (cs:=#[.int .i64 0,u142001,u142002]) ?_ 2 _ rfl;(with_reducible repeat (first|refine kN ?_ _|refine kD ?_|refine kA ?_ _));exact BK141.out⟩,⟨pI⟩,⟨pH⟩,⟨pB⟩⟩
          ·rw [if_neg c33] at H
           exact absurd H (by simp)
         ·rw [if_neg c31] at H
          have c31b0:decide (0 < x11_2)=false:=decide_eq_false c31
          clear c31
          by_cases c41:(x142002_2.length:Int) > 0
          ·rw [if_pos c41] at H
           have c41b0:decide (0 < (x142002_2.length:Int))=true:=decide_eq_true c41
           have c41b1:decide (0 < x142002_2.length)=true:=decide_eq_true (by omega)
           clear c41
           replace H:=Option.bind_eq_some_iff.mp H
           obtain ⟨⟨t172,t173⟩,A420,H⟩:=H
           try dsimp only at H
           have A42:=Z A420
           clear A420
           by_cases c43:t172=0
           ·rw [if_pos c43] at H
            have c43b0:(t172 == 0)=true:=beq_iff_eq.mpr c43
            have c43b1:(t172 != 0)=false:=bne_eq_false_iff_eq.mpr c43
            clear c43
            replace H:=Option.bind_eq_some_iff.mp H
            obtain ⟨⟨t174,t175⟩,A440,H⟩:=H
            try dsimp only at H
            have A44:=Z A440
            clear A440
            simp only [Option.some.injEq,Prod.mk.injEq] at H
            obtain ⟨rfl,rfl,rfl,rfl⟩:=H
            have hnb45:=NB141_140.out
            have hnc45:=NB140_141.out
            have hnb46:=NB141_0.out
            have hnc46:=NB0_141.out
            have hcz47_0:wr.cell? ⟨gb141,0,none⟩=some (.int .i64 0):=(kC BK141.out 0).trans rfl
            have hcz47_1:wr.cell? ⟨gb141,1,none⟩=some (u142001):=(kC BK141.out 1).trans rfl
            have hcz47_2:wr.cell? ⟨gb141,2,none⟩=some (u142002):=(kC BK141.out 2).trans rfl
            have hfz47_0:=kF BK141.out 0
            have hfz47_1:=kF BK141.out 1
            have hfz47_2:=kF BK141.out 2
            obtain ⟨Ao48,co48,eo48⟩:=Kd.R_slice HO_142002.out
            subst eo48
            go_wp2_with (first|(go_at_call 16;(with_reducible refine (trustquorummake_Tape_N.calls g s0_0 x1001_2 3 t172 t173 w0 _ ?side1 ?side2 A42.out).mono ?_);(case side1=>exact pI);(case side2=>exact pB);rintro e w49 ⟨rfl,hi,hb,hk⟩;have n0_:=Z (Kd.R_mono (Kd.R_keep (IsS71.apart (show IsS71 w0 _ g s0_0 x1001_2 from pI) (pR HO_142001) (by decide)) hk (fun _ h=>h.2)) (fun _ h=>h.1));have n1_:=Z (Kd.R_mono (Kd.R_keep (IsS71.apart (show IsS71 w0 _ g s0_0 x1001_2 from pI) (pR HO_142002) (by decide)) hk (fun _ h=>h.2)) (fun _ h=>h.1));have n2_:=Z (KeepBut.blk hk (g':=gb140) (o:=.cells #[.int .i64 0,.slice none 0 0,.slice none 0 0] 32 (0,0)) (pK BK140) NB140_0.out (by simp));have n3_:=Z (KeepBut.blk hk (g':=gb141) (o:=.cells #[.int .i64 0,u142001,.slice Ao48 x142002_2.length co48] 32 (0,0)) (pK BK141) NB141_0.out (by simp));have n4_:=Z (KeepBut.trans pH hk (.inl rfl));have n5_:=Z (hb);have n6_:=Z (hi);clear HO_142001;clear HO_142002;clear BK140;clear BK141;clear HK;clear HB;clear HI0;have HO_142001:=n0_;have HO_142002:=n1_;have BK140:=n2_;have BK141:=n3_;have HK:=n4_;have HB:=n5_;have HI0:=n6_;clear n0_ n1_ n2_ n3_ n4_ n5_ n6_;(try clear hb);(try clear hb2);(try clear hk);(try clear hi);have hcz50_0:w49.cell? ⟨gb141,0,none⟩=some (.int .i64 0):=(kC BK141.out 0).trans rfl;have hcz50_1:w49.cell? ⟨gb141,1,none⟩=some (u142001):=(kC BK141.out 1).trans rfl;have hcz50_2:w49.cell? ⟨gb141,2,none⟩=some (.slice Ao48 x142002_2.length co48):=(kC BK141.out 2).trans rfl;have hfz50_0:=kF BK141.out 0;have hfz50_1:=kF BK141.out 1;have hfz50_2:=kF BK141.out 2)|((with_reducible refine gate_callee (f:=44) rfl ?_);refine goesL_ (some 70) rfl rfl Try.func44 (by kernel_rfl) rfl #[.pointer (some ⟨g,0,none⟩),.int .i64 1,.int .i64 (wrap64 (x142002_2.length:Int))] rfl pG ?_;(with_reducible refine (trustquorummake_Tape_Range.calls g s0_0 t173 1 (wrap64 (x142002_2.length:Int)) t174 t175 w0 _ ?side1 ?side2 (by have h_:=A44.out;rw [show ((([]:List Int).length:Int)+(x142002_2.length:Int))=(x142002_2.length:Int) from by simp] at h_;exact h_)).mono ?_);(case side1=>exact pI);(case side2=>exact pB);rintro e w51 ⟨rfl,hi,hb,hk⟩;refine ⟨_,rfl,?_⟩;have n0_:=Z (Kd.R_mono (Kd.R_keep (IsS71.apart (show IsS71 w0 _ g s0_0 t173 from pI) (by (with_reducible repeat (first|apply Kd.R_alloc|apply Kd.R_drewN|apply Kd.R_drew));exact (Kd.R_mono (Kd.R_far (p:=⟨gb141,1,none⟩) (Kd.R_types HO_142001.out BK141.out (by decide)) (fun _ hk=>hk.2) (.slice none 0 0)) (fun _ h_=>h_.1))) (by decide)) hk (fun _ h=>h.2)) (fun _ h=>h.1));have n1_:=Z (Kd.R_mono (Kd.R_keep (IsS71.apart (show IsS71 w0 _ g s0_0 t173 from pI) (by (with_reducible repeat (first|apply Kd.R_alloc|apply Kd.R_drewN|apply Kd.R_drew));exact (Kd.R_mono (Kd.R_far (p:=⟨gb141,1,none⟩) (Kd.R_mono HO_142002.out (fun k_ hk=>(⟨hk,hk.2.2⟩:_∧k_ ≠ gb141))) (fun _ hk=>hk.2) (.slice none 0 0)) (fun _ h_=>h_.1))) (by decide)) hk (fun _ h=>h.2)) (fun _ h=>h.1));have n2_:=Z (KeepBut.blk hk (g':=gb140) (o:=.cells #[.int .i64 0,.slice none 0 0,.slice none 0 0] 32 (0,0)) (by (with_reducible repeat (first|refine kN ?_ _|refine kD ?_|refine kA ?_ _));refine blk_far ?_ NB140_141.out _;(with_reducible repeat (first|refine kN ?_ _|refine kD ?_|refine kA ?_ _));exact BK140.out) NB140_0.out (by simp));have n3_:=Z (KeepBut.blk hk (g':=gb141) (o:=.cells #[.int .i64 0,.slice none 0 0,.slice Ao48 x142002_2.length co48] 32 (0,0)) (by (with_reducible repeat (first|refine kN ?_ _|refine kD ?_|refine kA ?_ _));refine blk_put (cs:=#[.int .i64 0,u142001,.slice Ao48 x142002_2.length co48]) ?_ 1 _ rfl;(with_reducible repeat (first|refine kN ?_ _|refine kD ?_|refine kA ?_ _));exact BK141.out) NB141_0.out (by simp));have n4_:=Z (KeepBut.trans pH hk (.inl rfl));have n5_:=Z (hb);have n6_:=Z (hi);clear HO_142001;clear HO_142002;clear BK140;clear BK141;clear HK;clear HB;clear HI0;have HO_142001:=n0_;have HO_142002:=n1_;have BK140:=n2_;have BK141:=n3_;have HK:=n4_;have HB:=n5_;have HI0:=n6_;clear n0_ n1_ n2_ n3_ n4_ n5_ n6_;(try clear hb);(try clear hb2);(try clear hk);(try clear hi);have hcz52_0:w51.cell? ⟨gb141,0,none⟩=some (.int .i64 0):=(kC BK141.out 0).trans rfl;have hcz52_1:w51.cell? ⟨gb141,1,none⟩=some (.slice none 0 0):=(kC BK141.out 1).trans rfl;have hcz52_2:w51.cell? ⟨gb141,2,none⟩=some (.slice Ao48 x142002_2.length co48):=(kC BK141.out 2).trans rfl;have hfz52_0:=kF BK141.out 0;have hfz52_1:=kF BK141.out 1;have hfz52_2:=kF BK141.out 2;have hnb53:=NB140_0.out;have hnc53:=NB0_140.out;have hcz54_0:w51.cell? ⟨gb140,0,none⟩=some (.int .i64 0):=(kC BK140.out 0).trans rfl;have hcz54_1:w51.cell? ⟨gb140,1,none⟩=some (.slice none 0 0):=(kC BK140.out 1).trans rfl;have hcz54_2:w51.cell? ⟨gb140,2,none⟩=some (.slice none 0 0):=(kC BK140.out 2).trans rfl;have hfz54_0:=kF BK140.out 0;have hfz54_1:=kF BK140.out 1;have hfz54_2:=kF BK140.out 2))
            refine bodyPost_ret (results_cell_row rfl _ _ gb140 32 #[.int .i64 t174,.slice none 0 0,.slice Ao48 x142002_2.length co48] (0,0) _ rfl (by (with_reducible repeat (first|refine kN ?_ _|refine kD ?_|refine kA ?_ _));refine blk_put (cs:=#[.int .i64 t174,.slice none 0 0,.slice none 0 0]) ?_ 2 _ rfl;(with_reducible repeat (first|refine kN ?_ _|refine kD ?_|refine kA ?_ _));refine blk_put (cs:=#[.int .i64 t174,.slice none 0 0,.slice none 0 0]) ?_ 1 _ rfl;(with_reducible repeat (first|refine kN ?_ _|refine kD ?_|refine kA ?_ _));refine blk_put (cs:=#[.int .i64 0,.slice none 0 0,.slice none 0 0]) ?_ 0 _ rfl;(with_reducible repeat (first|refine kN ?_ _|refine kD ?_|refine kA ?_ _));refine blk_far ?_ NB140_141.out _;(with_reducible repeat (first|refine kN ?_ _|refine kD ?_|refine kA ?_ _));exact BK140.out) Try.underlying32 rfl (by kernel_rfl)) rfl ?_
            exact ⟨_,_,by first|rfl|(simp [errW_none,errW_some] <;> rfl)|(simp only [← hji5];first|rfl|(simp [errW_none,errW_some] <;> rfl))|(simp [*,errW_none,errW_some] <;> rfl),pN,by (with_reducible repeat (first|apply Kd.R_alloc|apply Kd.R_drewN|apply Kd.R_drew));exact Kd.R_mono (Kd.R_far (p:=⟨gb140,2,none⟩) (Kd.R_far (p:=⟨gb140,1,none⟩) (Kd.R_far (p:=⟨gb140,0,none⟩) (Kd.R_far (p:=⟨gb141,0,none⟩) (Kd.R_mono (Kd.R_mono HO_142002.out (fun k_ hk=>(⟨hk,hk.2.2⟩:_∧k_ ≠ gb141))) (fun k_ hk=>(⟨hk,hk.1.2.1⟩:_∧k_ ≠ gb140))) (fun _ hk=>hk.1.2) (.int .i64 t174)) (fun _ hk=>hk.2) (.int .i64 t174)) (fun _ hk=>hk.2) (.slice none 0 0)) (fun _ hk=>hk.2) (.slice Ao48 x142002_2.length co48)) (fun _ hk=>(by simp [Value.ownBlock])),pI,pB,pH⟩
           ·rw [if_neg c43] at H
            have c43b0:(t172 == 0)=false:=beq_eq_false_iff_ne.mpr c43
            have c43b1:(t172 != 0)=true:=bne_iff_ne.mpr c43
            replace H:=Option.bind_eq_some_iff.mp H
            obtain ⟨⟨t176,t177⟩,A550,H⟩:=H
            try dsimp only at H
            have A55:=Z A550
            clear A550
            simp only [Option.some.injEq,Prod.mk.injEq] at H
            obtain ⟨rfl,rfl,rfl,rfl⟩:=H
            have hnb56:=NB141_140.out
            have hnc56:=NB140_141.out
            have hnb57:=NB141_0.out
            have hnc57:=NB0_141.out
            have hcz58_0:wr.cell? ⟨gb141,0,none⟩=some (.int .i64 0):=(kC BK141.out 0).trans rfl
            have hcz58_1:wr.cell? ⟨gb141,1,none⟩=some (u142001):=(kC BK141.out 1).trans rfl
            have hcz58_2:wr.cell? ⟨gb141,2,none⟩=some (u142002):=(kC BK141.out 2).trans rfl
            have hfz58_0:=kF BK141.out 0
            have hfz58_1:=kF BK141.out 1
            have hfz58_2:=kF BK141.out 2
            obtain ⟨Ao59,co59,eo59⟩:=Kd.R_slice HO_142002.out
            subst eo59
            go_wp2_with (first|(go_at_call 16;(with_reducible refine (trustquorummake_Tape_N.calls g s0_0 x1001_2 3 t172 t173 w0 _ ?side1 ?side2 A42.out).mono ?_);(case side1=>exact pI);(case side2=>exact pB);rintro e w60 ⟨rfl,hi,hb,hk⟩;have n0_:=Z (Kd.R_mono (Kd.R_keep (IsS71.apart (show IsS71 w0 _ g s0_0 x1001_2 from pI) (pR HO_142001) (by decide)) hk (fun _ h=>h.2)) (fun _ h=>h.1));have n1_:=Z (Kd.R_mono (Kd.R_keep (IsS71.apart (show IsS71 w0 _ g s0_0 x1001_2 from pI) (pR HO_142002) (by decide)) hk (fun _ h=>h.2)) (fun _ h=>h.1));have n2_:=Z (KeepBut.blk hk (g':=gb140) (o:=.cells #[.int .i64 0,.slice none 0 0,.slice none 0 0] 32 (0,0)) (pK BK140) NB140_0.out (by simp));have n3_:=Z (KeepBut.blk hk (g':=gb141) (o:=.cells #[.int .i64 0,u142001,.slice Ao59 x142002_2.length co59] 32 (0,0)) (pK BK141) NB141_0.out (by simp));have n4_:=Z (KeepBut.trans pH hk (.inl rfl));have n5_:=Z (hb);have n6_:=Z (hi);clear HO_142001;clear HO_142002;clear BK140;clear BK141;clear HK;clear HB;clear HI0;have HO_142001:=n0_;have HO_142002:=n1_;have BK140:=n2_;have BK141:=n3_;have HK:=n4_;have HB:=n5_;have HI0:=n6_;clear n0_ n1_ n2_ n3_ n4_ n5_ n6_;(try clear hb);(try clear hb2);(try clear hk);(try clear hi);have hcz61_0:w60.cell? ⟨gb141,0,none⟩=some (.int .i64 0):=(kC BK141.out 0).trans rfl;have hcz61_1:w60.cell? ⟨gb141,1,none⟩=some (u142001):=(kC BK141.out 1).trans rfl;have hcz61_2:w60.cell? ⟨gb141,2,none⟩=some (.slice Ao59 x142002_2.length co59):=(kC BK141.out 2).trans rfl;have hfz61_0:=kF BK141.out 0;have hfz61_1:=kF BK141.out 1;have hfz61_2:=kF BK141.out 2;obtain ⟨Ao62,co62,eo62⟩:=Kd.R_slice HO_142001.out;subst eo62)|((with_reducible refine gate_callee (f:=44) rfl ?_);refine goesL_ (some 70) rfl rfl Try.func44 (by kernel_rfl) rfl #[.pointer (some ⟨g,0,none⟩),.int .i64 1,.int .i64 (wrap64 ((x142001_1.length:Int)+(x142002_2.length:Int)))] rfl pG ?_;(with_reducible refine (trustquorummake_Tape_Range.calls g s0_0 t173 1 (wrap64 ((x142001_1.length:Int)+(x142002_2.length:Int))) t176 t177 w0 _ ?side1 ?side2 A55.out).mono ?_);(case side1=>exact pI);(case side2=>exact pB);rintro e w63 ⟨rfl,hi,hb,hk⟩;refine ⟨_,rfl,?_⟩;have n0_:=Z (Kd.R_mono (Kd.R_keep (IsS71.apart (show IsS71 w0 _ g s0_0 t173 from pI) (pR HO_142001) (by decide)) hk (fun _ h=>h.2)) (fun _ h=>h.1));have n1_:=Z (Kd.R_mono (Kd.R_keep (IsS71.apart (show IsS71 w0 _ g s0_0 t173 from pI) (pR HO_142002) (by decide)) hk (fun _ h=>h.2)) (fun _ h=>h.1));have n2_:=Z (KeepBut.blk hk (g':=gb140) (o:=.cells #[.int .i64 0,.slice none 0 0,.slice none 0 0] 32 (0,0)) (pK BK140) NB140_0.out (by simp));have n3_:=Z (KeepBut.blk hk (g':=gb141) (o:=.cells #[.int .i64 0,.slice Ao62 x142001_1.length co62,.slice Ao59 x142002_2.length co59] 32 (0,0)) (pK BK141) NB141_0.out (by simp));have n4_:=Z (KeepBut.trans pH hk (.inl rfl));have n5_:=Z (hb);have n6_:=Z (hi);clear HO_142001;clear HO_142002;clear BK140;clear BK141;clear HK;clear HB;clear HI0;have HO_142001:=n0_;have HO_142002:=n1_;have BK140:=n2_;have BK141:=n3_;have HK:=n4_;have HB:=n5_;have HI0:=n6_;clear n0_ n1_ n2_ n3_ n4_ n5_ n6_;(try clear hb);(try clear hb2);(try clear hk);(try clear hi);have hcz64_0:w63.cell? ⟨gb141,0,none⟩=some (.int .i64 0):=(kC BK141.out 0).trans rfl;have hcz64_1:w63.cell? ⟨gb141,1,none⟩=some (.slice Ao62 x142001_1.length co62):=(kC BK141.out 1).trans rfl;have hcz64_2:w63.cell? ⟨gb141,2,none⟩=some (.slice Ao59 x142002_2.length co59):=(kC BK141.out 2).trans rfl;have hfz64_0:=kF BK141.out 0;have hfz64_1:=kF BK141.out 1;have hfz64_2:=kF BK141.out 2;have hnb65:=NB140_0.out;have hnc65:=NB0_140.out;have hcz66_0:w63.cell? ⟨gb140,0,none⟩=some (.int .i64 0):=(kC BK140.out 0).trans rfl;have hcz66_1:w63.cell? ⟨gb140,1,none⟩=some (.slice none 0 0):=(kC BK140.out 1).trans rfl;have hcz66_2:w63.cell? ⟨gb140,2,none⟩=some (.slice none 0 0):=(kC BK140.out 2).trans rfl;have hfz66_0:=kF BK140.out 0;have hfz66_1:=kF BK140.out 1;have hfz66_2:=kF BK140.out 2))
            refine bodyPost_ret (results_cell_row rfl _ _ gb140 32 #[.int .i64 t176,.slice Ao62 x142001_1.length co62,.slice Ao59 x142002_2.length co59] (0,0) _ rfl (by (with_reducible repeat (first|refine kN ?_ _|refine kD ?_|refine kA ?_ _));refine blk_put (cs:=#[.int .i64 t176,.slice Ao62 x142001_1.length co62,.slice none 0 0]) ?_ 2 _ rfl;(with_reducible repeat (first|refine kN ?_ _|refine kD ?_|refine kA ?_ _));refine blk_put (cs:=#[.int .i64 t176,.slice none 0 0,.slice none 0 0]) ?_ 1 _ rfl;(with_reducible repeat (first|refine kN ?_ _|refine kD ?_|refine kA ?_ _));refine blk_put (cs:=#[.int .i64 0,.slice none 0 0,.slice none 0 0]) ?_ 0 _ rfl;(with_reducible repeat (first|refine kN ?_ _|refine kD ?_|refine kA ?_ _));refine blk_far ?_ NB140_141.out _;(with_reducible repeat (first|refine kN ?_ _|refine kD ?_|refine kA ?_ _));exact BK140.out) Try.underlying32 rfl (by kernel_rfl)) rfl ?_
            exact ⟨_,_,by first|rfl|(simp [errW_none,errW_some] <;> rfl)|(simp only [← hji5];first|rfl|(simp [errW_none,errW_some] <;> rfl))|(simp [*,errW_none,errW_some] <;> rfl),by (with_reducible repeat (first|apply Kd.R_alloc|apply Kd.R_drewN|apply Kd.R_drew));exact Kd.R_mono (Kd.R_far (p:=⟨gb140,2,none⟩) (Kd.R_far (p:=⟨gb140,1,none⟩) (Kd.R_far (p:=⟨gb140,0,none⟩) (Kd.R_far (p:=⟨gb141,0,none⟩) (Kd.R_types (Kd.R_types HO_142001.out BK141.out (by decide)) BK140.out (by decide)) (fun _ hk=>hk.1.2) (.int .i64 t176)) (fun _ hk=>hk.2) (.int .i64 t176)) (fun _ hk=>hk.2) (.slice Ao62 x142001_1.length co62)) (fun _ hk=>hk.2) (.slice Ao59 x142002_2.length co59)) (fun _ hk=>trivial),by (with_reducible repeat (first|apply Kd.R_alloc|apply Kd.R_drewN|apply Kd.R_drew));exact Kd.R_mono (Kd.R_far (p:=⟨gb140,2,none⟩) (Kd.R_far (p:=⟨gb140,1,none⟩) (Kd.R_far (p:=⟨gb140,0,none⟩) (Kd.R_far (p:=⟨gb141,0,none⟩) (Kd.R_mono (Kd.R_mono HO_142002.out (fun k_ hk=>(⟨hk,hk.2.2⟩:_∧k_ ≠ gb141))) (fun k_ hk=>(⟨hk,hk.1.2.1⟩:_∧k_ ≠ gb140))) (fun _ hk=>hk.1.2) (.int .i64 t176)) (fun _ hk=>hk.2) (.int .i64 t176)) (fun _ hk=>hk.2) (.slice Ao62 x142001_1.length co62)) (fun _ hk=>hk.2) (.slice Ao59 x142002_2.length co59)) (fun _ hk=>hk.1.1.1),pI,pB,pH⟩
          ·rw [if_neg c41] at H
           have c41b0:decide (0 < (x142002_2.length:Int))=false:=decide_eq_false c41
           have c41b1:decide (0 < x142002_2.length)=false:=decide_eq_false (by omega)
           clear c41
           replace H:=Option.bind_eq_some_iff.mp H
           obtain ⟨⟨t178,t179⟩,A670,H⟩:=H
           try dsimp only at H
           have A67:=Z A670
           clear A670
           simp only [Option.some.injEq,Prod.mk.injEq] at H
           obtain ⟨rfl,rfl,rfl,rfl⟩:=H
           have hnb68:=NB141_140.out
           have hnc68:=NB140_141.out
           have hnb69:=NB141_0.out
           have hnc69:=NB0_141.out
           have hcz70_0:wr.cell? ⟨gb141,0,none⟩=some (.int .i64 0):=(kC BK141.out 0).trans rfl
           have hcz70_1:wr.cell? ⟨gb141,1,none⟩=some (u142001):=(kC BK141.out 1).trans rfl
           have hcz70_2:wr.cell? ⟨gb141,2,none⟩=some (u142002):=(kC BK141.out 2).trans rfl
           have hfz70_0:=kF BK141.out 0
           have hfz70_1:=kF BK141.out 1
           have hfz70_2:=kF BK141.out 2
           obtain ⟨Ao71,co71,eo71⟩:=Kd.R_slice HO_142002.out
           subst eo71
           obtain ⟨Ao72,co72,eo72⟩:=Kd.R_slice HO_142001.out
           subst eo72
           go_wp2_with (first|((with_reducible refine gate_callee (f:=44) rfl ?_);refine goesL_ (some 70) rfl rfl Try.func44 (by kernel_rfl) rfl #[.pointer (some ⟨g,0,none⟩),.int .i64 1,.int .i64 (wrap64 ((x142001_1.length:Int)+(x142002_2.length:Int)))] rfl pG ?_;(with_reducible refine (trustquorummake_Tape_Range.calls g s0_0 x1001_2 1 (wrap64 ((x142001_1.length:Int)+(x142002_2.length:Int))) t178 t179 w0 _ ?side1 ?side2 A67.out).mono ?_);(case side1=>exact pI);(case side2=>exact pB);rintro e w73 ⟨rfl,hi,hb,hk⟩;refine ⟨_,rfl,?_⟩;have n0_:=Z (Kd.R_mono (Kd.R_keep (IsS71.apart (show IsS71 w0 _ g s0_0 x1001_2 from pI) (pR HO_142001) (by decide)) hk (fun _ h=>h.2)) (fun _ h=>h.1));have n1_:=Z (Kd.R_mono (Kd.R_keep (IsS71.apart (show IsS71 w0 _ g s0_0 x1001_2 from pI) (pR HO_142002) (by decide)) hk (fun _ h=>h.2)) (fun _ h=>h.1));have n2_:=Z (KeepBut.blk hk (g':=gb140) (o:=.cells #[.int .i64 0,.slice none 0 0,.slice none 0 0] 32 (0,0)) (pK BK140) NB140_0.out (by simp));have n3_:=Z (KeepBut.blk hk (g':=gb141) (o:=.cells #[.int .i64 0,.slice Ao72 x142001_1.length co72,.slice Ao71 x142002_2.length co71] 32 (0,0)) (pK BK141) NB141_0.out (by simp));have n4_:=Z (KeepBut.trans pH hk (.inl rfl));have n5_:=Z (hb);have n6_:=Z (hi);clear HO_142001;clear HO_142002;clear BK140;clear BK141;clear HK;clear HB;clear HI0;have HO_142001:=n0_;have HO_142002:=n1_;have BK140:=n2_;have BK141:=n3_;have HK:=n4_;have HB:=n5_;have HI0:=n6_;clear n0_ n1_ n2_ n3_ n4_ n5_ n6_;(try clear hb);(try clear hb2);(try clear hk);(try clear hi);have hcz74_0:w73.cell? ⟨gb141,0,none⟩=some (.int .i64 0):=(kC BK141.out 0).trans rfl;have hcz74_1:w73.cell? ⟨gb141,1,none⟩=some (.slice Ao72 x142001_1.length co72):=(kC BK141.out 1).trans rfl;have hcz74_2:w73.cell? ⟨gb141,2,none⟩=some (.slice Ao71 x142002_2.length co71):=(kC BK141.out 2).trans rfl;have hfz74_0:=kF BK141.out 0;have hfz74_1:=kF BK141.out 1;have hfz74_2:=kF BK141.out 2;have hnb75:=NB140_0.out;have hnc75:=NB0_140.out;have hcz76_0:w73.cell? ⟨gb140,0,none⟩=some (.int .i64 0):=(kC BK140.out 0).trans rfl;have hcz76_1:w73.cell? ⟨gb140,1,none⟩=some (.slice none 0 0):=(kC BK140.out 1).trans rfl;have hcz76_2:w73.cell? ⟨gb140,2,none⟩=some (.slice none 0 0):=(kC BK140.out 2).trans rfl;have hfz76_0:=kF BK140.out 0;have hfz76_1:=kF BK140.out 1;have hfz76_2:=kF BK140.out 2))
           refine bodyPost_ret (results_cell_row rfl _ _ gb140 32 #[.int .i64 t178,.slice Ao72 x142001_1.length co72,.slice Ao71 x142002_2.length co71] (0,0) _ rfl (by (with_reducible repeat (first|refine kN ?_ _|refine kD ?_|refine kA ?_ _));refine blk_put (cs:=#[.int .i64 t178,.slice Ao72 x142001_1.length co72,.slice none 0 0]) ?_ 2 _ rfl;(with_reducible repeat (first|refine kN ?_ _|refine kD ?_|refine kA ?_ _));refine blk_put (cs:=#[.int .i64 t178,.slice none 0 0,.slice none 0 0]) ?_ 1 _ rfl;(with_reducible repeat (first|refine kN ?_ _|refine kD ?_|refine kA ?_ _));refine blk_put (cs:=#[.int .i64 0,.slice none 0 0,.slice none 0 0]) ?_ 0 _ rfl;(with_reducible repeat (first|refine kN ?_ _|refine kD ?_|refine kA ?_ _));refine blk_far ?_ NB140_141.out _;(with_reducible repeat (first|refine kN ?_ _|refine kD ?_|refine kA ?_ _));exact BK140.out) Try.underlying32 rfl (by kernel_rfl)) rfl ?_
           exact ⟨_,_,by first|rfl|(simp [errW_none,errW_some] <;> rfl)|(simp only [← hji5];first|rfl|(simp [errW_none,errW_some] <;> rfl))|(simp [*,errW_none,errW_some] <;> rfl),by (with_reducible repeat (first|apply Kd.R_alloc|apply Kd.R_drewN|apply Kd.R_drew));exact Kd.R_mono (Kd.R_far (p:=⟨gb140,2,none⟩) (Kd.R_far (p:=⟨gb140,1,none⟩) (Kd.R_far (p:=⟨gb140,0,none⟩) (Kd.R_far (p:=⟨gb141,0,none⟩) (Kd.R_types (Kd.R_types HO_142001.out BK141.out (by decide)) BK140.out (by decide)) (fun _ hk=>hk.1.2) (.int .i64 t178)) (fun _ hk=>hk.2) (.int .i64 t178)) (fun _ hk=>hk.2) (.slice Ao72 x142001_1.length co72)) (fun _ hk=>hk.2) (.slice Ao71 x142002_2.length co71)) (fun _ hk=>trivial),by (with_reducible repeat (first|apply Kd.R_alloc|apply Kd.R_drewN|apply Kd.R_drew));exact Kd.R_mono (Kd.R_far (p:=⟨gb140,2,none⟩) (Kd.R_far (p:=⟨gb140,1,none⟩) (Kd.R_far (p:=⟨gb140,0,none⟩) (Kd.R_far (p:=⟨gb141,0,none⟩) (Kd.R_mono (Kd.R_mono HO_142002.out (fun k_ hk=>(⟨hk,hk.2.2⟩:_∧k_ ≠ gb141))) (fun k_ hk=>(⟨hk,hk.1.2.1⟩:_∧k_ ≠ gb140))) (fun _ hk=>hk.1.2) (.int .i64 t178)) (fun _ hk=>hk.2) (.int .i64 t178)) (fun _ hk=>hk.2) (.slice Ao72 x142001_1.length co72)) (fun _ hk=>hk.2) (.slice Ao71 x142002_2.length co71)) (fun _ hk=>hk.1.1.1),pI,pB,pH⟩
      ·rw [if_neg c25] at H
       have c25b0:decide (1 < a2)=false:=decide_eq_false c25
       clear c25
       replace H:=Option.bind_eq_some_iff.mp H
       obtain ⟨⟨t180,t181⟩,A770,H⟩:=H
       try dsimp only at H
       have A77:=Z A770
       clear A770
       simp only [Option.some.injEq,Prod.mk.injEq] at H
       obtain ⟨rfl,rfl,rfl,rfl⟩:=H
       have hnb78:=NB141_140.out
       have hnc78:=NB140_141.out
       have hnb79:=NB141_0.out
       have hnc79:=NB0_141.out
       have hcz80_0:wr.cell? ⟨gb141,0,none⟩=some (.int .i64 0):=(kC BK141.out 0).trans rfl
       have hcz80_1:wr.cell? ⟨gb141,1,none⟩=some (u142001):=(kC BK141.out 1).trans rfl
       have hcz80_2:wr.cell? ⟨gb141,2,none⟩=some (.slice none 0 0):=(kC BK141.out 2).trans rfl
       have hfz80_0:=kF BK141.out 0
       have hfz80_1:=kF BK141.out 1
       have hfz80_2:=kF BK141.out 2
       obtain ⟨Ao81,co81,eo81⟩:=Kd.R_slice HO_142001.out
       subst eo81
       go_wp2_with (first|((with_reducible refine gate_callee (f:=44) rfl ?_);refine goesL_ (some 70) rfl rfl Try.func44 (by kernel_rfl) rfl #[.pointer (some ⟨g,0,none⟩),.int .i64 1,.int .i64 (wrap64 ((x142001_1.length:Int)+(([]:List (S32)).length:Int)))] rfl pG ?_;(with_reducible refine (trustquorummake_Tape_Range.calls g s0_0 t147 1 (wrap64 ((x142001_1.length:Int)+(([]:List (S32)).length:Int))) t180 t181 w0 _ ?side1 ?side2 A77.out).mono ?_);(case side1=>exact pI);(case side2=>exact pB);rintro e w82 ⟨rfl,hi,hb,hk⟩;refine ⟨_,rfl,?_⟩;have n0_:=Z (Kd.R_mono (Kd.R_keep (IsS71.apart (show IsS71 w0 _ g s0_0 t147 from pI) (pR HO_142001) (by decide)) hk (fun _ h=>h.2)) (fun _ h=>h.1));have n1_:=Z (KeepBut.blk hk (g':=gb140) (o:=.cells #[.int .i64 0,.slice none 0 0,.slice none 0 0] 32 (0,0)) (pK BK140) NB140_0.out (by simp));have n2_:=Z (KeepBut.blk hk (g':=gb141) (o:=.cells #[.int .i64 0,.slice Ao81 x142001_1.length co81,.slice none 0 0] 32 (0,0)) (pK BK141) NB141_0.out (by simp));have n3_:=Z (KeepBut.trans pH hk (.inl rfl));have n4_:=Z (hb);have n5_:=Z (hi);clear HO_142001;clear BK140;clear BK141;clear HK;clear HB;clear HI0;have HO_142001:=n0_;have BK140:=n1_;have BK141:=n2_;have HK:=n3_;have HB:=n4_;have HI0:=n5_;clear n0_ n1_ n2_ n3_ n4_ n5_;(try clear hb);(try clear hb2);(try clear hk);(try clear hi);have hcz83_0:w82.cell? ⟨gb141,0,none⟩=some (.int .i64 0):=(kC BK141.out 0).trans rfl;have hcz83_1:w82.cell? ⟨gb141,1,none⟩=some (.slice Ao81 x142001_1.length co81):=(kC BK141.out 1).trans rfl;have hcz83_2:w82.cell? ⟨gb141,2,none⟩=some (.slice none 0 0):=(kC BK141.out 2).trans rfl;have hfz83_0:=kF BK141.out 0;have hfz83_1:=kF BK141.out 1;have hfz83_2:=kF BK141.out 2;have hnb84:=NB140_0.out;have hnc84:=NB0_140.out;have hcz85_0:w82.cell? ⟨gb140,0,none⟩=some (.int .i64 0):=(kC BK140.out 0).trans rfl;have hcz85_1:w82.cell? ⟨gb140,1,none⟩=some (.slice none 0 0):=(kC BK140.out 1).trans rfl;have hcz85_2:w82.cell? ⟨gb140,2,none⟩=some (.slice none 0 0):=(kC BK140.out 2).trans rfl;have hfz85_0:=kF BK140.out 0;have hfz85_1:=kF BK140.out 1;have hfz85_2:=kF BK140.out 2))
       refine bodyPost_ret (results_cell_row rfl _ _ gb140 32 #[.int .i64 t180,.slice Ao81 x142001_1.length co81,.slice none 0 0] (0,0) _ rfl (by (with_reducible repeat (first|refine kN ?_ _|refine kD ?_|refine kA ?_ _));refine blk_put (cs:=#[.int .i64 t180,.slice Ao81 x142001_1.length co81,.slice none 0 0]) ?_ 2 _ rfl;(with_reducible repeat (first|refine kN ?_ _|refine kD ?_|refine kA ?_ _));refine blk_put (cs:=#[.int .i64 t180,.slice none 0 0,.slice none 0 0]) ?_ 1 _ rfl;(with_reducible repeat (first|refine kN ?_ _|refine kD ?_|refine kA ?_ _));refine blk_put (cs:=#[.int .i64 0,.slice none 0 0,.slice none 0 0]) ?_ 0 _ rfl;(with_reducible repeat (first|refine kN ?_ _|refine kD ?_|refine kA ?_ _));refine blk_far ?_ NB140_141.out _;(with_reducible repeat (first|refine kN ?_ _|refine kD ?_|refine kA ?_ _));exact BK140.out) Try.underlying32 rfl (by kernel_rfl)) rfl ?_
       exact ⟨_,_,by first|rfl|(simp [errW_none,errW_some] <;> rfl)|(simp only [← hji5];first|rfl|(simp [errW_none,errW_some] <;> rfl))|(simp [*,errW_none,errW_some] <;> rfl),by (with_reducible repeat (first|apply Kd.R_alloc|apply Kd.R_drewN|apply Kd.R_drew));exact Kd.R_mono (Kd.R_far (p:=⟨gb140,2,none⟩) (Kd.R_far (p:=⟨gb140,1,none⟩) (Kd.R_far (p:=⟨gb140,0,none⟩) (Kd.R_far (p:=⟨gb141,0,none⟩) (Kd.R_types (Kd.R_types HO_142001.out BK141.out (by decide)) BK140.out (by decide)) (fun _ hk=>hk.1.2) (.int .i64 t180)) (fun _ hk=>hk.2) (.int .i64 t180)) (fun _ hk=>hk.2) (.slice Ao81 x142001_1.length co81)) (fun _ hk=>hk.2) (.slice none 0 0)) (fun _ hk=>trivial),pN,pI,pB,pH⟩
  ·rw [if_neg c8] at H
   exact absurd H (by simp)
 ·rw [if_neg c7] at H
  exact absurd H (by simp)
def trustquorummake_Trust.f (k:Nat) (s0_0:List Int) (s0_1:Int) (a1:Int) (a2:Int):Option (Int × List Int × (List (S32)) × Int):=(trustquorummake_trust.f k s0_0 s0_1 a1 a2).bind fun bt141=>((trustquorumref02_Valid.f k bt141.1 bt141.2.1 bt141.2.2.1).bind fun t150=>(if t150=0 then (some (bt141.1,bt141.2.1,bt141.2.2.1,bt141.2.2.2)) else ((trustquorummake_Tape_N.f s0_0 bt141.2.2.2 a1).bind fun bt151=>(some (1,(([bt151.1]:List Int)),([]:List (S32)),bt151.2)))))
set_option maxHeartbeats 8000000 in
set_option maxRecDepth 100000 in
theorem trustquorummake_Trust.calls (k:Nat) (g:Nat) (s0_0:List Int) (s0_1:Int) (a1:Int) (a2:Int) (r1:Int) (r2:List Int) (r3:List (S32)) (r4:Int) (w0 w:World) (hI:IsS71 w0 w g s0_0 s0_1) (hB:Below w0.heap.size w0 w) (h:trustquorummake_Trust.f k s0_0 s0_1 a1 a2=some (r1,r2,r3,r4)) :
  Calls Try.prog 45 #[.pointer (some ⟨g,0,none⟩),.int .i64 a1,.int .i64 a2] w fun e w'=>∃ v1_ v2_:Value,e=.returned (.agg #[.int .i64 r1,v1_,v2_])∧Kd.R (Kd.int .i64) 3 w' w.heap.size (fun _=>True) v1_ r2∧Kd.R k32 32 w' w.heap.size (fun k_=>some k_ ≠ (v1_:Value).ownBlock) v2_ r3∧IsS71 w0 w' g s0_0 r4∧Below w0.heap.size w0 w'∧KeepBut w w' g none:=by
 have hu32:=Try.underlying32
 have HI0:=Z hI
 have HK:=Z (KeepBut.refl w g none)
 have HL:=Z hB.size
 clear hI
 have HW0:=Z hB.size
 have HB:=Z hB
 clear hB
 have H:((trustquorummake_trust.f k s0_0 s0_1 a1 a2).bind fun bt141=>((trustquorumref02_Valid.f k bt141.1 bt141.2.1 bt141.2.2.1).bind fun t150=>(if t150=0 then (some (bt141.1,bt141.2.1,bt141.2.2.1,bt141.2.2.2)) else ((trustquorummake_Tape_N.f s0_0 bt141.2.2.2 a1).bind fun bt151=>(some (1,(([bt151.1]:List Int)),([]:List (S32)),bt151.2))))))=some (r1,r2,r3,r4):=h
 clear h
 replace H:=Option.bind_eq_some_iff.mp H
 obtain ⟨⟨t141,t142,t145,t148⟩,A40,H⟩:=H
 try dsimp only at H
 have A4:=Z A40
 clear A40
 replace H:=Option.bind_eq_some_iff.mp H
 obtain ⟨t150,A50,H⟩:=H
 try dsimp only at H
 have A5:=Z A50
 clear A50
 by_cases c6:t150=0
 ·rw [if_pos c6] at H
  have c6b0:(t150 == 0)=true:=beq_iff_eq.mpr c6
  have c6b1:(t150 != 0)=false:=bne_eq_false_iff_eq.mpr c6
  clear c6
  simp only [Option.some.injEq,Prod.mk.injEq] at H
  obtain ⟨rfl,rfl,rfl,rfl⟩:=H
  go_enter Try.func45,Try.ntmps45
  go_wp2_with (first|((with_reducible refine gate_dst (N:=6) rfl ?_);refine box_event ?hg (N:=6) ?hd (cs:=#[.int .i64 0,.slice none 0 0,.slice none 0 0]) (t:=32) ?hr ?_;(case hd=>rfl);(case hg=>rfl);(case hr=>first|(go_simp;done)|(go_simp;rfl));intro gb140 hg w7 hbox hb;have n0_:=Z (IsS71.below pI hb);have n1_:=Z (KeepBut.trans pH (KeepBut.of_below hb g none) (.inl rfl));have n2_:=Z (below_step pB hb);have n3_:=Z (hbox);have n4_:=Z ((pS hg:w.heap.size≤gb140));have n5_:=Z ((Nat.le_trans HW0.out (pS hg:w.heap.size≤gb140):w0.heap.size≤gb140));have n6_:=Z ((pL71 hg (show IsS71 w0 _ g s0_0 s0_1 from pI):g ≠ gb140));have n7_:=Z ((pM71 hg (show IsS71 w0 _ g s0_0 s0_1 from pI):gb140 ≠ g));clear HI0;clear HK;clear HB;have HI0:=n0_;have HK:=n1_;have HB:=n2_;have BK140:=n3_;have GW140:=n4_;have GE140:=n5_;have NB0_140:=n6_;have NB140_0:=n7_;clear n0_ n1_ n2_ n3_ n4_ n5_ n6_ n7_;clear hb hbox hg)|((with_reducible refine gate_callee (f:=79) rfl ?_);refine goesL_ (some 11) rfl rfl Try.func79 (by kernel_rfl) rfl #[.pointer (some ⟨g,0,none⟩),.int .i64 a1,.int .i64 a2] rfl pG ?_;(with_reducible refine (trustquorummake_trust.calls k g s0_0 s0_1 a1 a2 t141 t142 t145 t148 w0 _ ?side1 ?side2 A4.out).mono ?_);(case side1=>exact pI);(case side2=>exact pB);rintro e w8 ⟨v143,v146,rfl,ho0,ho1,hi,hb,hk⟩;refine ⟨_,rfl,?_⟩;have n0_:=Z (KeepBut.blk hk (g':=gb140) (o:=.cells #[.int .i64 0,.slice none 0 0,.slice none 0 0] 32 (0,0)) (pK BK140) NB140_0.out (by simp));have n1_:=Z (Kd.R_lower ho0 (keep_size (w:=w) (g:=g) (row:=none) pH));have n2_:=Z (Kd.R_lower (Kd.R_newB ho1 (g:=gb140) (o:=.cells #[.int .i64 0,.slice none 0 0,.slice none 0 0] 32 (0,0)) (pK BK140)) (keep_size (w:=w) (g:=g) (row:=none) pH));have n3_:=Z (KeepBut.trans pH hk (.inl rfl));have n4_:=Z (hb);have n5_:=Z (hi);clear BK140;clear HK;clear HB;clear HI0;have BK140:=n0_;have HO144:=n1_;have HO147:=n2_;have HK:=n3_;have HB:=n4_;have HI0:=n5_;clear n0_ n1_ n2_ n3_ n4_ n5_;(try clear hb);(try clear hb2);(try clear hk);(try clear hi);(try clear ho0);(try clear ho1))|((with_reducible refine gate_dst (N:=7) rfl ?_);refine box_event ?hg (N:=7) ?hd (cs:=#[.int .i64 0,.slice none 0 0,.slice none 0 0]) (t:=32) ?hr ?_;(case hd=>rfl);(case hg=>rfl);(case hr=>first|(go_simp;done)|(go_simp;rfl));intro gb149 hg w9 hbox hb;have n0_:=Z (Kd.R_below (pR HO144) hb);have n1_:=Z (Kd.R_below (Kd.R_elderB (pR HO147) gb149 (Nat.le_of_eq hg.symm)) hb);have n2_:=Z (IsS71.below pI hb);have n3_:=Z (blk_below (g:=gb140) (o:=.cells #[.int .i64 0,.slice none 0 0,.slice none 0 0] 32 (0,0)) (pK BK140) hb);have n4_:=Z (KeepBut.trans pH (KeepBut.of_below hb g none) (.inl rfl));have n5_:=Z (below_step pB hb);have n6_:=Z (hbox);have n7_:=Z ((pS hg:w.heap.size≤gb149));have n8_:=Z ((Nat.le_trans HW0.out (pS hg:w.heap.size≤gb149):w0.heap.size≤gb149));have n9_:=Z ((pL hg (pK BK140):gb140 ≠ gb149));have n10_:=Z ((pM hg (pK BK140):gb149 ≠ gb140));have n11_:=Z ((pL71 hg (show IsS71 w0 _ g s0_0 t148 from pI):g ≠ gb149));have n12_:=Z ((pM71 hg (show IsS71 w0 _ g s0_0 t148 from pI):gb149 ≠ g));clear HO144;clear HO147;clear HI0;clear BK140;clear HK;clear HB;have HO144:=n0_;have HO147:=n1_;have HI0:=n2_;have BK140:=n3_;have HK:=n4_;have HB:=n5_;have BK149:=n6_;have GW149:=n7_;have GE149:=n8_;have NB140_149:=n9_;have NB149_140:=n10_;have NB0_149:=n11_;have NB149_0:=n12_;clear n0_ n1_ n2_ n3_ n4_ n5_ n6_ n7_ n8_ n9_ n10_ n11_ n12_;clear hb hbox hg;have hnb10:=NB149_140.out;have hnc10:=NB140_149.out;have hnb11:=NB149_0.out;have hnc11:=NB0_149.out;have hcz12_0:w9.cell? ⟨gb149,0,none⟩=some (.int .i64 0):=(kC BK149.out 0).trans rfl;have hcz12_1:w9.cell? ⟨gb149,1,none⟩=some (.slice none 0 0):=(kC BK149.out 1).trans rfl;have hcz12_2:w9.cell? ⟨gb149,2,none⟩=some (.slice none 0 0):=(kC BK149.out 2).trans rfl;have hfz12_0:=kF BK149.out 0;have hfz12_1:=kF BK149.out 1;have hfz12_2:=kF BK149.out 2;obtain ⟨Ao13,co13,eo13⟩:=Kd.R_slice HO144.out;subst eo13;obtain ⟨Ao14,co14,eo14⟩:=Kd.R_slice HO147.out;subst eo14)|((with_reducible refine gate_callee (f:=56) rfl ?_);refine goesL_ (some 13) rfl rfl Try.func56 (by kernel_rfl) rfl #[.agg #[.int .i64 t141,.slice Ao13 t142.length co13,.slice Ao14 t145.length co14]] rfl pG ?_;(with_reducible refine (trustquorumref02_Valid.calls k t141 _ _ t142 _ _ t145 t150 _ ?side1 ?side2 ?side3 ?side4 A5.out).mono ?_);(case side1=>refine (Kd.R_reads' (e:=3) (base:=w.heap.size) (ok:=fun k_=>True) (n:=t142.length) (c:=co13) ?_).2.2;exact (by (with_reducible repeat (first|apply Kd.R_alloc|apply Kd.R_drewN|apply Kd.R_drew));exact (Kd.R_mono (Kd.R_far (p:=⟨gb149,2,none⟩) (Kd.R_far (p:=⟨gb149,1,none⟩) (Kd.R_far (p:=⟨gb149,0,none⟩) (Kd.R_types HO144.out BK149.out (by decide)) (fun _ hk=>hk.2) (.int .i64 t141)) (fun _ hk=>hk.2) (.slice Ao13 t142.length co13)) (fun _ hk=>hk.2) (.slice Ao14 t145.length co14)) (fun _ h_=>h_.1))));(case side2=>exact (Kd.R_reads' HO144.out).2.1);(case side3=>refine (Kd.R_reads' (e:=32) (base:=w.heap.size) (ok:=fun k_=>((some k_ ≠ (.slice Ao13 t142.length co13:Value).ownBlock∧k_ ≠ gb140)∧k_ ≠ gb149)) (n:=t145.length) (c:=co14) ?_).2.2;exact (by (with_reducible repeat (first|apply Kd.R_alloc|apply Kd.R_drewN|apply Kd.R_drew));exact (Kd.R_mono (Kd.R_far (p:=⟨gb149,2,none⟩) (Kd.R_far (p:=⟨gb149,1,none⟩) (Kd.R_far (p:=⟨gb149,0,none⟩) (Kd.R_mono HO147.out (fun k_ hk=>(⟨hk,hk.2⟩:_∧k_ ≠ gb149))) (fun _ hk=>hk.2) (.int .i64 t141)) (fun _ hk=>hk.2) (.slice Ao13 t142.length co13)) (fun _ hk=>hk.2) (.slice Ao14 t145.length co14)) (fun _ h_=>h_.1))));(case side4=>exact (Kd.R_reads' HO147.out).2.1);rintro e w15 ⟨rfl,hb⟩;refine ⟨_,rfl,?_⟩;have n0_:=Z (Kd.R_below (by (with_reducible repeat (first|apply Kd.R_alloc|apply Kd.R_drewN|apply Kd.R_drew));exact (Kd.R_mono (Kd.R_far (p:=⟨gb149,2,none⟩) (Kd.R_far (p:=⟨gb149,1,none⟩) (Kd.R_far (p:=⟨gb149,0,none⟩) (Kd.R_types HO144.out BK149.out (by decide)) (fun _ hk=>hk.2) (.int .i64 t141)) (fun _ hk=>hk.2) (.slice Ao13 t142.length co13)) (fun _ hk=>hk.2) (.slice Ao14 t145.length co14)) (fun _ h_=>h_.1))) hb);have n1_:=Z (Kd.R_below (by (with_reducible repeat (first|apply Kd.R_alloc|apply Kd.R_drewN|apply Kd.R_drew));exact (Kd.R_mono (Kd.R_far (p:=⟨gb149,2,none⟩) (Kd.R_far (p:=⟨gb149,1,none⟩) (Kd.R_far (p:=⟨gb149,0,none⟩) (Kd.R_mono HO147.out (fun k_ hk=>(⟨hk,hk.2⟩:_∧k_ ≠ gb149))) (fun _ hk=>hk.2) (.int .i64 t141)) (fun _ hk=>hk.2) (.slice Ao13 t142.length co13)) (fun _ hk=>hk.2) (.slice Ao14 t145.length co14)) (fun _ h_=>h_.1))) hb);have n2_:=Z (IsS71.below (show IsS71 w0 (((w9.setCell ⟨gb149,0,none⟩ (.int .i64 t141)).setCell ⟨gb149,1,none⟩ (.slice Ao13 t142.length co13)).setCell ⟨gb149,2,none⟩ (.slice Ao14 t145.length co14)) g s0_0 t148 from pI) hb);have n3_:=Z (blk_below (g:=gb140) (o:=.cells #[.int .i64 0,.slice none 0 0,.slice none 0 0] 32 (0,0)) (by (with_reducible repeat (first|refine kN ?_ _|refine kD ?_|refine kA ?_ _));refine blk_far ?_ NB140_149.out _;(with_reducible repeat (first|refine kN ?_ _|refine kD ?_|refine kA ?_ _));refine blk_far ?_ NB140_149.out _;(with_reducible repeat (first|refine kN ?_ _|refine kD ?_|refine kA ?_ _));refine blk_far ?_ NB140_149.out _;(with_reducible repeat (first|refine kN ?_ _|refine kD ?_|refine kA ?_ _));exact BK140.out) hb);have n4_:=Z (blk_below (g:=gb149) (o:=.cells #[.int .i64 t141,.slice Ao13 t142.length co13,.slice Ao14 t145.length co14] 32 (0,0)) (by (with_reducible repeat (first|refine kN ?_ _|refine kD ?_|refine kA ?_ _));refine blk_put (cs:=#[.int .i64 t141,.slice Ao13 t142.length co13,.slice none 0 0]) ?_ 2 _ rfl;(with_reducible repeat (first|refine kN ?_ _|refine kD ?_|refine kA ?_ _));refine blk_put (cs:=#[.int .i64 t141,.slice none 0 0,.slice none 0 0]) ?_ 1 _ rfl;(with_reducible repeat (first|refine kN ?_ _|refine kD ?_|refine kA ?_ _));refine blk_put (cs:=#[.int .i64 0,.slice none 0 0,.slice none 0 0]) ?_ 0 _ rfl;(with_reducible repeat (first|refine kN ?_ _|refine kD ?_|refine kA ?_ _));exact BK149.out) hb);have n5_:=Z (KeepBut.trans pH (KeepBut.of_below hb g none) (.inl rfl));have n6_:=Z (below_step pB hb);clear HO144;clear HO147;clear HI0;clear BK140;clear BK149;clear HK;clear HB;have HO144:=n0_;have HO147:=n1_;have HI0:=n2_;have BK140:=n3_;have BK149:=n4_;have HK:=n5_;have HB:=n6_;clear n0_ n1_ n2_ n3_ n4_ n5_ n6_;(try clear hb);(try clear hb2);(try clear hk);(try clear hi);have hcz16_0:w15.cell? ⟨gb149,0,none⟩=some (.int .i64 t141):=(kC BK149.out 0).trans rfl;have hcz16_1:w15.cell? ⟨gb149,1,none⟩=some (.slice Ao13 t142.length co13):=(kC BK149.out 1).trans rfl;have hcz16_2:w15.cell? ⟨gb149,2,none⟩=some (.slice Ao14 t145.length co14):=(kC BK149.out 2).trans rfl;have hfz16_0:=kF BK149.out 0;have hfz16_1:=kF BK149.out 1;have hfz16_2:=kF BK149.out 2;have hnb17:=NB140_0.out;have hnc17:=NB0_140.out;have hcz18_0:w15.cell? ⟨gb140,0,none⟩=some (.int .i64 0):=(kC BK140.out 0).trans rfl;have hcz18_1:w15.cell? ⟨gb140,1,none⟩=some (.slice none 0 0):=(kC BK140.out 1).trans rfl;have hcz18_2:w15.cell? ⟨gb140,2,none⟩=some (.slice none 0 0):=(kC BK140.out 2).trans rfl;have hfz18_0:=kF BK140.out 0;have hfz18_1:=kF BK140.out 1;have hfz18_2:=kF BK140.out 2))
  refine bodyPost_ret (results_cell_row rfl _ _ gb140 32 #[.int .i64 t141,.slice Ao13 t142.length co13,.slice Ao14 t145.length co14] (0,0) _ rfl (by (with_reducible repeat (first|refine kN ?_ _|refine kD ?_|refine kA ?_ _));refine blk_put (cs:=#[.int .i64 t141,.slice Ao13 t142.length co13,.slice none 0 0]) ?_ 2 _ rfl;(with_reducible repeat (first|refine kN ?_ _|refine kD ?_|refine kA ?_ _));refine blk_put (cs:=#[.int .i64 t141,.slice none 0 0,.slice none 0 0]) ?_ 1 _ rfl;(with_reducible repeat (first|refine kN ?_ _|refine kD ?_|refine kA ?_ _));refine blk_put (cs:=#[.int .i64 0,.slice none 0 0,.slice none 0 0]) ?_ 0 _ rfl;(with_reducible repeat (first|refine kN ?_ _|refine kD ?_|refine kA ?_ _));exact BK140.out) Try.underlying32 rfl (by kernel_rfl)) rfl ?_
  exact ⟨_,_,pF,by (with_reducible repeat (first|apply Kd.R_alloc|apply Kd.R_drewN|apply Kd.R_drew));exact Kd.R_mono (Kd.R_far (p:=⟨gb140,2,none⟩) (Kd.R_far (p:=⟨gb140,1,none⟩) (Kd.R_far (p:=⟨gb140,0,none⟩) (Kd.R_types HO144.out BK140.out (by decide)) (fun _ hk=>hk.2) (.int .i64 t141)) (fun _ hk=>hk.2) (.slice Ao13 t142.length co13)) (fun _ hk=>hk.2) (.slice Ao14 t145.length co14)) (fun _ hk=>trivial),by (with_reducible repeat (first|apply Kd.R_alloc|apply Kd.R_drewN|apply Kd.R_drew));exact Kd.R_mono (Kd.R_far (p:=⟨gb140,2,none⟩) (Kd.R_far (p:=⟨gb140,1,none⟩) (Kd.R_far (p:=⟨gb140,0,none⟩) (Kd.R_mono HO147.out (fun k_ hk=>(⟨hk,hk.1.2⟩:_∧k_ ≠ gb140))) (fun _ hk=>hk.2) (.int .i64 t141)) (fun _ hk=>hk.2) (.slice Ao13 t142.length co13)) (fun _ hk=>hk.2) (.slice Ao14 t145.length co14)) (fun _ hk=>hk.1.1.1),pI,pB,pH⟩
 ·rw [if_neg c6] at H
  have c6b0:(t150 == 0)=false:=beq_eq_false_iff_ne.mpr c6
  have c6b1:(t150 != 0)=true:=bne_iff_ne.mpr c6
  replace H:=Option.bind_eq_some_iff.mp H
  obtain ⟨⟨t151,t152⟩,A190,H⟩:=H
  try dsimp only at H
  have A19:=Z A190
  clear A190
  obtain ⟨y153,hy153⟩:∃ y_:List Int,y_=(([t151]:List Int)):=⟨_,rfl⟩
  first|rw [← hy153] at H|(replace H:=(Option.bind_some _ _).symm.trans H;rw [← hy153] at H)
  have Ny153:=Z hy153
  clear hy153
  simp only [Option.some.injEq,Prod.mk.injEq] at H
  obtain ⟨rfl,rfl,rfl,rfl⟩:=H
  go_enter Try.func45,Try.ntmps45
  go_wp2_with (first|((with_reducible refine gate_dst (N:=6) rfl ?_);refine box_event ?hg (N:=6) ?hd (cs:=#[.int .i64 0,.slice none 0 0,.slice none 0 0]) (t:=32) ?hr ?_;(case hd=>rfl);(case hg=>rfl);(case hr=>first|(go_simp;done)|(go_simp;rfl));intro gb140 hg w20 hbox hb;have n0_:=Z (IsS71.below pI hb);have n1_:=Z (KeepBut.trans pH (KeepBut.of_below hb g none) (.inl rfl));have n2_:=Z (below_step pB hb);have n3_:=Z (hbox);have n4_:=Z ((pS hg:w.heap.size≤gb140));have n5_:=Z ((Nat.le_trans HW0.out (pS hg:w.heap.size≤gb140):w0.heap.size≤gb140));have n6_:=Z ((pL71 hg (show IsS71 w0 _ g s0_0 s0_1 from pI):g ≠ gb140));have n7_:=Z ((pM71 hg (show IsS71 w0 _ g s0_0 s0_1 from pI):gb140 ≠ g));clear HI0;clear HK;clear HB;have HI0:=n0_;have HK:=n1_;have HB:=n2_;have BK140:=n3_;have GW140:=n4_;have GE140:=n5_;have NB0_140:=n6_;have NB140_0:=n7_;clear n0_ n1_ n2_ n3_ n4_ n5_ n6_ n7_;clear hb hbox hg)|((with_reducible refine gate_callee (f:=79) rfl ?_);refine goesL_ (some 11) rfl rfl Try.func79 (by kernel_rfl) rfl #[.pointer (some ⟨g,0,none⟩),.int .i64 a1,.int .i64 a2] rfl pG ?_;(with_reducible refine (trustquorummake_trust.calls k g s0_0 s0_1 a1 a2 t141 t142 t145 t148 w0 _ ?side1 ?side2 A4.out).mono ?_);(case side1=>exact pI);(case side2=>exact pB);rintro e w21 ⟨v143,v146,rfl,ho0,ho1,hi,hb,hk⟩;refine ⟨_,rfl,?_⟩;have n0_:=Z (KeepBut.blk hk (g':=gb140) (o:=.cells #[.int .i64 0,.slice none 0 0,.slice none 0 0] 32 (0,0)) (pK BK140) NB140_0.out (by simp));have n1_:=Z (Kd.R_lower ho0 (keep_size (w:=w) (g:=g) (row:=none) pH));have n2_:=Z (Kd.R_lower (Kd.R_newB ho1 (g:=gb140) (o:=.cells #[.int .i64 0,.slice none 0 0,.slice none 0 0] 32 (0,0)) (pK BK140)) (keep_size (w:=w) (g:=g) (row:=none) pH));have n3_:=Z (KeepBut.trans pH hk (.inl rfl));have n4_:=Z (hb);have n5_:=Z (hi);clear BK140;clear HK;clear HB;clear HI0;have BK140:=n0_;have HO144:=n1_;have HO147:=n2_;have HK:=n3_;have HB:=n4_;have HI0:=n5_;clear n0_ n1_ n2_ n3_ n4_ n5_;(try clear hb);(try clear hb2);(try clear hk);(try clear hi);(try clear ho0);(try clear ho1))|((with_reducible refine gate_dst (N:=7) rfl ?_);refine box_event ?hg (N:=7) ?hd (cs:=#[.int .i64 0,.slice none 0 0,.slice none 0 0]) (t:=32) ?hr ?_;(case hd=>rfl);(case hg=>rfl);(case hr=>first|(go_simp;done)|(go_simp;rfl));intro gb149 hg w22 hbox hb;have n0_:=Z (Kd.R_below (pR HO144) hb);have n1_:=Z (Kd.R_below (Kd.R_elderB (pR HO147) gb149 (Nat.le_of_eq hg.symm)) hb);have n2_:=Z (IsS71.below pI hb);have n3_:=Z (blk_below (g:=gb140) (o:=.cells #[.int .i64 0,.slice none 0 0,.slice none 0 0] 32 (0,0)) (pK BK140) hb);have n4_:=Z (KeepBut.trans pH (KeepBut.of_below hb g none) (.inl rfl));have n5_:=Z (below_step pB hb);have n6_:=Z (hbox);have n7_:=Z ((pS hg:w.heap.size≤gb149));have n8_:=Z ((Nat.le_trans HW0.out (pS hg:w.heap.size≤gb149):w0.heap.size≤gb149));have n9_:=Z ((pL hg (pK BK140):gb140 ≠ gb149));have n10_:=Z ((pM hg (pK BK140):gb149 ≠ gb140));have n11_:=Z ((pL71 hg (show IsS71 w0 _ g s0_0 t148 from pI):g ≠ gb149));have n12_:=Z ((pM71 hg (show IsS71 w0 _ g s0_0 t148 from pI):gb149 ≠ g));clear HO144;clear HO147;clear HI0;clear BK140;clear HK;clear HB;have HO144:=n0_;have HO147:=n1_;have HI0:=n2_;have BK140:=n3_;have HK:=n4_;have HB:=n5_;have BK149:=n6_;have GW149:=n7_;have GE149:=n8_;have NB140_149:=n9_;have NB149_140:=n10_;have NB0_149:=n11_;have NB149_0:=n12_;clear n0_ n1_ n2_ n3_ n4_ n5_ n6_ n7_ n8_ n9_ n10_ n11_ n12_;clear hb hbox hg;have hnb23:=NB149_140.out;have hnc23:=NB140_149.out;have hnb24:=NB149_0.out;have hnc24:=NB0_149.out;have hcz25_0:w22.cell? ⟨gb149,0,none⟩=some (.int .i64 0):=(kC BK149.out 0).trans rfl;have hcz25_1:w22.cell? ⟨gb149,1,none⟩=some (.slice none 0 0):=(kC BK149.out 1).trans rfl;have hcz25_2:w22.cell? ⟨gb149,2,none⟩=some (.slice none 0 0):=(kC BK149.out 2).trans rfl;have hfz25_0:=kF BK149.out 0;have hfz25_1:=kF BK149.out 1;have hfz25_2:=kF BK149.out 2;obtain ⟨Ao26,co26,eo26⟩:=Kd.R_slice HO144.out;subst eo26;obtain ⟨Ao27,co27,eo27⟩:=Kd.R_slice HO147.out;subst eo27)|((with_reducible refine gate_callee (f:=56) rfl ?_);refine goesL_ (some 13) rfl rfl Try.func56 (by kernel_rfl) rfl #[.agg #[.int .i64 t141,.slice Ao26 t142.length co26,.slice Ao27 t145.length co27]] rfl pG ?_;(with_reducible refine (trustquorumref02_Valid.calls k t141 _ _ t142 _ _ t145 t150 _ ?side1 ?side2 ?side3 ?side4 A5.out).mono ?_);(case side1=>refine (Kd.R_reads' (e:=3) (base:=w.heap.size) (ok:=fun k_=>True) (n:=t142.length) (c:=co26) ?_).2.2;exact (by (with_reducible repeat (first|apply Kd.R_alloc|apply Kd.R_drewN|apply Kd.R_drew));exact (Kd.R_mono (Kd.R_far (p:=⟨gb149,2,none⟩) (Kd.R_far (p:=⟨gb149,1,none⟩) (Kd.R_far (p:=⟨gb149,0,none⟩) (Kd.R_types HO144.out BK149.out (by decide)) (fun _ hk=>hk.2) (.int .i64 t141)) (fun _ hk=>hk.2) (.slice Ao26 t142.length co26)) (fun _ hk=>hk.2) (.slice Ao27 t145.length co27)) (fun _ h_=>h_.1))));(case side2=>exact (Kd.R_reads' HO144.out).2.1);(case side3=>refine (Kd.R_reads' (e:=32) (base:=w.heap.size) (ok:=fun k_=>((some k_ ≠ (.slice Ao26 t142.length co26:Value).ownBlock∧k_ ≠ gb140)∧k_ ≠ gb149)) (n:=t145.length) (c:=co27) ?_).2.2;exact (by (with_reducible repeat (first|apply Kd.R_alloc|apply Kd.R_drewN|apply Kd.R_drew));exact (Kd.R_mono (Kd.R_far (p:=⟨gb149,2,none⟩) (Kd.R_far (p:=⟨gb149,1,none⟩) (Kd.R_far (p:=⟨gb149,0,none⟩) (Kd.R_mono HO147.out (fun k_ hk=>(⟨hk,hk.2⟩:_∧k_ ≠ gb149))) (fun _ hk=>hk.2) (.int .i64 t141)) (fun _ hk=>hk.2) (.slice Ao26 t142.length co26)) (fun _ hk=>hk.2) (.slice Ao27 t145.length co27)) (fun _ h_=>h_.1))));(case side4=>exact (Kd.R_reads' HO147.out).2.1);rintro e w28 ⟨rfl,hb⟩;refine ⟨_,rfl,?_⟩;have n0_:=Z (Kd.R_below (by (with_reducible repeat (first|apply Kd.R_alloc|apply Kd.R_drewN|apply Kd.R_drew));exact (Kd.R_mono (Kd.R_far (p:=⟨gb149,2,none⟩) (Kd.R_far (p:=⟨gb149,1,none⟩) (Kd.R_far (p:=⟨gb149,0,none⟩) (Kd.R_types HO144.out BK149.out (by decide)) (fun _ hk=>hk.2) (.int .i64 t141)) (fun _ hk=>hk.2) (.slice Ao26 t142.length co26)) (fun _ hk=>hk.2) (.slice Ao27 t145.length co27)) (fun _ h_=>h_.1))) hb);have n1_:=Z (Kd.R_below (by (with_reducible repeat (first|apply Kd.R_alloc|apply Kd.R_drewN|apply Kd.R_drew));exact (Kd.R_mono (Kd.R_far (p:=⟨gb149,2,none⟩) (Kd.R_far (p:=⟨gb149,1,none⟩) (Kd.R_far (p:=⟨gb149,0,none⟩) (Kd.R_mono HO147.out (fun k_ hk=>(⟨hk,hk.2⟩:_∧k_ ≠ gb149))) (fun _ hk=>hk.2) (.int .i64 t141)) (fun _ hk=>hk.2) (.slice Ao26 t142.length co26)) (fun _ hk=>hk.2) (.slice Ao27 t145.length co27)) (fun _ h_=>h_.1))) hb);have n2_:=Z (IsS71.below (show IsS71 w0 (((w22.setCell ⟨gb149,0,none⟩ (.int .i64 t141)).setCell ⟨gb149,1,none⟩ (.slice Ao26 t142.length co26)).setCell ⟨gb149,2,none⟩ (.slice Ao27 t145.length co27)) g s0_0 t148 from pI) hb);have n3_:=Z (blk_below (g:=gb140) (o:=.cells #[.int .i64 0,.slice none 0 0,.slice none 0 0] 32 (0,0)) (by (with_reducible repeat (first|refine kN ?_ _|refine kD ?_|refine kA ?_ _));refine blk_far ?_ NB140_149.out _;(with_reducible repeat (first|refine kN ?_ _|refine kD ?_|refine kA ?_ _));refine blk_far ?_ NB140_149.out _;(with_reducible repeat (first|refine kN ?_ _|refine kD ?_|refine kA ?_ _));refine blk_far ?_ NB140_149.out _;(with_reducible repeat (first|refine kN ?_ _|refine kD ?_|refine kA ?_ _));exact BK140.out) hb);have n4_:=Z (blk_below (g:=gb149) (o:=.cells #[.int .i64 t141,.slice Ao26 t142.length co26,.slice Ao27 t145.length co27] 32 (0,0)) (by (with_reducible repeat (first|refine kN ?_ _|refine kD ?_|refine kA ?_ _));refine blk_put (cs:=#[.int .i64 t141,.slice Ao26 t142.length co26,.slice none 0 0]) ?_ 2 _ rfl;(with_reducible repeat (first|refine kN ?_ _|refine kD ?_|refine kA ?_ _));refine blk_put (cs:=#[.int .i64 t141,.slice none 0 0,.slice none 0 0]) ?_ 1 _ rfl;(with_reducible repeat (first|refine kN ?_ _|refine kD ?_|refine kA ?_ _));refine blk_put (cs:=#[.int .i64 0,.slice none 0 0,.slice none 0 0]) ?_ 0 _ rfl;(with_reducible repeat (first|refine kN ?_ _|refine kD ?_|refine kA ?_ _));exact BK149.out) hb);have n5_:=Z (KeepBut.trans pH (KeepBut.of_below hb g none) (.inl rfl));have n6_:=Z (below_step pB hb);clear HO144;clear HO147;clear HI0;clear BK140;clear BK149;clear HK;clear HB;have HO144:=n0_;have HO147:=n1_;have HI0:=n2_;have BK140:=n3_;have BK149:=n4_;have HK:=n5_;have HB:=n6_;clear n0_ n1_ n2_ n3_ n4_ n5_ n6_;(try clear hb);(try clear hb2);(try clear hk);(try clear hi))|((with_reducible refine gate_callee (f:=16) rfl ?_);refine goesL_ (some 17) rfl rfl Try.func16 (by kernel_rfl) rfl #[.pointer (some ⟨g,0,none⟩),.int .i64 a1] rfl pG ?_;(with_reducible refine (trustquorummake_Tape_N.calls g s0_0 t148 a1 t151 t152 w0 _ ?side1 ?side2 A19.out).mono ?_);(case side1=>exact pI);(case side2=>exact pB);rintro e w29 ⟨rfl,hi,hb,hk⟩;refine ⟨_,rfl,?_⟩;have n0_:=Z (KeepBut.blk hk (g':=gb140) (o:=.cells #[.int .i64 0,.slice none 0 0,.slice none 0 0] 32 (0,0)) (pK BK140) NB140_0.out (by simp));have n1_:=Z (Kd.R_mono (Kd.R_keep (IsS71.apart (show IsS71 w0 _ g s0_0 t148 from pI) (pR HO144) (by decide)) hk (fun _ h=>h.2)) (fun _ h=>h.1));have n2_:=Z (Kd.R_mono (Kd.R_keep (IsS71.apart (show IsS71 w0 _ g s0_0 t148 from pI) (pR HO147) (by decide)) hk (fun _ h=>h.2)) (fun _ h=>h.1));have n3_:=Z (KeepBut.blk hk (g':=gb149) (o:=.cells #[.int .i64 t141,.slice Ao26 t142.length co26,.slice Ao27 t145.length co27] 32 (0,0)) (pK BK149) NB149_0.out (by simp));have n4_:=Z (KeepBut.trans pH hk (.inl rfl));have n5_:=Z (hb);have n6_:=Z (hi);clear BK140;clear HO144;clear HO147;clear BK149;clear HK;clear HB;clear HI0;have BK140:=n0_;have HO144:=n1_;have HO147:=n2_;have BK149:=n3_;have HK:=n4_;have HB:=n5_;have HI0:=n6_;clear n0_ n1_ n2_ n3_ n4_ n5_ n6_;(try clear hb);(try clear hb2);(try clear hk);(try clear hi))|((with_reducible refine gate_dst (N:=18) rfl ?_);refine Kd.R_lit (Kd.int .i64) _ 3 ?hg (N:=18) ?hd (xs:=([t151]:List Int)) (inner:=[.int .i64 t151]) (ok:=fun _=>True) (okp:=fun _=>True) ?hr ?hp (fun _ hk=>hk) trivial (Below.refl _ _) (Nat.le_refl _) (by simp) ?_;(case hd=>rfl);(case hg=>rfl);(case hr=>first|(go_simp;done)|(go_simp;rfl));(case hp=>exact (Reps.one (show Kd.M (Kd.int .i64) _ _ _ t151 [.int .i64 t151] from rfl) (Reps.none _ _)));intro v154 w30 ho31 hb hg_ hnew_;clear hg_ hnew_;(first|rw [← Ny153.out] at ho31|(simp only [Int.reduceToNat] at ho31;rw [← Ny153.out] at ho31));have n0_:=Z (Kd.R_elder' (pR HO144) (Kd.R_base ho31) hb);have n1_:=Z (Kd.R_elder' (pR HO147) (Kd.R_base ho31) hb);have n2_:=Z (Kd.R_lower (Kd.R_new' ho31 (Kd.R_lt (pR HO144))) (keep_size (w:=w) (g:=g) (row:=none) pH));have n3_:=Z (IsS71.below pI hb);have n4_:=Z (blk_below (g:=gb140) (o:=.cells #[.int .i64 0,.slice none 0 0,.slice none 0 0] 32 (0,0)) (pK BK140) hb);have n5_:=Z (blk_below (g:=gb149) (o:=.cells #[.int .i64 t141,.slice Ao26 t142.length co26,.slice Ao27 t145.length co27] 32 (0,0)) (pK BK149) hb);have n6_:=Z (KeepBut.trans pH (KeepBut.of_below hb g none) (.inl rfl));have n7_:=Z (below_step pB hb);clear HO144;clear HO147;clear HI0;clear BK140;clear BK149;clear HK;clear HB;have HO144:=n0_;have HO147:=n1_;have HO155:=n2_;have HI0:=n3_;have BK140:=n4_;have BK149:=n5_;have HK:=n6_;have HB:=n7_;clear n0_ n1_ n2_ n3_ n4_ n5_ n6_ n7_;clear hb ho31;obtain ⟨Ao32,co32,eo32⟩:=Kd.R_slice HO155.out;subst eo32;have hnb33:=NB140_0.out;have hnc33:=NB0_140.out;have hcz34_0:w30.cell? ⟨gb140,0,none⟩=some (.int .i64 0):=(kC BK140.out 0).trans rfl;have hcz34_1:w30.cell? ⟨gb140,1,none⟩=some (.slice none 0 0):=(kC BK140.out 1).trans rfl;have hcz34_2:w30.cell? ⟨gb140,2,none⟩=some (.slice none 0 0):=(kC BK140.out 2).trans rfl;have hfz34_0:=kF BK140.out 0;have hfz34_1:=kF BK140.out 1;have hfz34_2:=kF BK140.out 2))
  refine bodyPost_ret (results_cell_row rfl _ _ gb140 32 #[.int .i64 1,.slice Ao32 y153.length co32,.slice none 0 0] (0,0) _ rfl (by (with_reducible repeat (first|refine kN ?_ _|refine kD ?_|refine kA ?_ _));refine blk_put (cs:=#[.int .i64 1,.slice Ao32 y153.length co32,.slice none 0 0]) ?_ 2 _ rfl;(with_reducible repeat (first|refine kN ?_ _|refine kD ?_|refine kA ?_ _));refine blk_put (cs:=#[.int .i64 1,.slice none 0 0,.slice none 0 0]) ?_ 1 _ rfl;(with_reducible repeat (first|refine kN ?_ _|refine kD ?_|refine kA ?_ _));refine blk_put (cs:=#[.int .i64 0,.slice none 0 0,.slice none 0 0]) ?_ 0 _ rfl;(with_reducible repeat (first|refine kN ?_ _|refine kD ?_|refine kA ?_ _));exact BK140.out) Try.underlying32 rfl (by kernel_rfl)) rfl ?_
  exact ⟨_,_,pF,by (with_reducible repeat (first|apply Kd.R_alloc|apply Kd.R_drewN|apply Kd.R_drew));exact Kd.R_mono (Kd.R_far (p:=⟨gb140,2,none⟩) (Kd.R_far (p:=⟨gb140,1,none⟩) (Kd.R_far (p:=⟨gb140,0,none⟩) (Kd.R_types HO155.out BK140.out (by decide)) (fun _ hk=>hk.2) (.int .i64 1)) (fun _ hk=>hk.2) (.slice Ao32 y153.length co32)) (fun _ hk=>hk.2) (.slice none 0 0)) (fun _ hk=>trivial),pN,pI,pB,pH⟩
theorem R_emptyOf {α:Type} {d:Kd α} {e:Nat} {w:World} {base:Nat} {ok ok':Nat→Prop} {v:Value} {xs:List α} (hx:xs=[]) (h:d.R e w base ok v xs) (hok:∀ k,v.ownBlock=some k→ok' k):d.R e w base ok' v xs:=by
 subst hx
 obtain ⟨_,inner,ho,hr⟩:=h
 exact ⟨hok,inner,ho,⟨hr.1,fun j p hj=>by simp at hj⟩⟩
theorem R_other {W:World} {base:Nat} {ok ok':Nat→Prop} {v u:Value} {xs:List S32} {ys:List Int} (h:k32.R 32 W base ok v xs) (hu:(Kd.int .i64).R 3 W base ok' u ys):∀ k,v.ownBlock=some k→some k ≠ u.ownBlock:=by
 intro k hk he
 obtain ⟨c1,h1⟩:=Kd.R_typed h k hk
 obtain ⟨c2,h2⟩:=Kd.R_typed hu k he.symm
 rw [h1] at h2
 injection h2 with h2
 injection h2 with _ h2
 exact absurd h2 (by decide)
theorem rd_T32_mem {xs:List S32} {i:Int} (h0:0≤i) (h1:i < (xs.length:Int)):rd_T32 xs i∈xs:=by
 unfold rd_T32
 have h2:i.toNat < xs.length:=by omega
 rw [List.getD_eq_getElem?_getD,List.getElem?_eq_getElem h2]
 exact List.getElem_mem h2
mutual
def trustquorummake_group.l0:Nat→Int→Int→List (S32)→Int→List Int→Int→Option (Int × List Int × (List (S32)) × Int)
 | 0,_,_,_,_,_,_=>none
 | k+1,x1,x2,x7,x8,x1000,x1001=>if x8 < 3 then (trustquorummake_group.l1 k x1 x2 x7 x8 x8 x1000 x1001 1 ([]:List Int)) else ((trustquorummake_Tape_N.f x1000 x1001 4).bind fun bt186=>(if bt186.1=0 then (if (x7.length:Int)=0 then (none) else (if 0≤(Int.tmod x2 (x7.length:Int)) then (if (Int.tmod x2 (x7.length:Int)) < (x7.length:Int) then (some ((rd_T32 x7 (Int.tmod x2 (x7.length:Int))).f0,(rd_T32 x7 (Int.tmod x2 (x7.length:Int))).f1,(rd_T32 x7 (Int.tmod x2 (x7.length:Int))).f2,bt186.2)) else (none)) else (none))) else ((trustquorummake_Tape_Range.f x1000 bt186.2 (mx 1 (wrap64 ((x7.length:Int) - 1))) (x7.length:Int)).bind fun bt189=>(some (bt189.1,([]:List Int),x7,bt189.2)))))
def trustquorummake_group.l1:Nat→Int→Int→List (S32)→Int→Int→List Int→Int→Int→List Int→Option (Int × List Int × (List (S32)) × Int)
 | 0,_,_,_,_,_,_,_,_,_=>none
 | k+1,x1,x2,x7,x8,x10,x1000,x1001,x178000,x178001=>if x10 < x1 then (if x178001.length < 17592186044416 then (trustquorummake_group.l1 k x1 x2 x7 x8 (wrap64 (x10+3)) x1000 x1001 x178000 (x178001++[x10])) else (none)) else (if (x178001.length:Int) > 0 then ((trustquorummake_Tape_Range.f x1000 x1001 1 (x178001.length:Int)).bind fun bt181=>(if x7.length < 2513169434916 then (trustquorummake_group.l0 k x1 x2 (x7++[(⟨bt181.1,x178001,([]:List (S32))⟩:S32)]) (wrap64 (x8+1)) x1000 bt181.2) else (none))) else (trustquorummake_group.l0 k x1 x2 x7 (wrap64 (x8+1)) x1000 x1001))
end
def trustquorummake_group.f (k:Nat) (s0_0:List Int) (s0_1:Int) (a1:Int) (a2:Int):Option (Int × List Int × (List (S32)) × Int):=trustquorummake_group.l0 k a1 a2 ([]:List (S32)) 0 s0_0 s0_1
set_option maxHeartbeats 8000000 in
set_option maxRecDepth 100000 in
theorem trustquorummake_group.calls (k:Nat) (g:Nat) (s0_0:List Int) (s0_1:Int) (a1:Int) (a2:Int) (r1:Int) (r2:List Int) (r3:List (S32)) (r4:Int) (w0 w:World) (hI:IsS71 w0 w g s0_0 s0_1) (hB:Below w0.heap.size w0 w) (h:trustquorummake_group.f k s0_0 s0_1 a1 a2=some (r1,r2,r3,r4)) :
  Calls Try.prog 54 #[.pointer (some ⟨g,0,none⟩),.int .i64 a1,.int .i64 a2] w fun e w'=>∃ v1_ v2_:Value,e=.returned (.agg #[.int .i64 r1,v1_,v2_])∧Kd.R (Kd.int .i64) 3 w' w.heap.size (fun _=>True) v1_ r2∧Kd.R k32 32 w' w.heap.size (fun k_=>some k_ ≠ (v1_:Value).ownBlock) v2_ r3∧IsS71 w0 w' g s0_0 r4∧Below w0.heap.size w0 w'∧KeepBut w w' g none:=by
 have hu32:=Try.underlying32
 have HI0:=Z hI
 have HK:=Z (KeepBut.refl w g none)
 have HL:=Z hB.size
 clear hI
 have HW0:=Z hB.size
 have HB:=Z hB
 clear hB
 have H:(trustquorummake_group.l0 k a1 a2 ([]:List (S32)) 0 s0_0 s0_1)=some (r1,r2,r3,r4):=h
 clear h
 have H':=Z H
 clear H
 go_enter Try.func54,Try.ntmps54
 go_wp2_with (first|((with_reducible refine gate_dst (N:=6) rfl ?_);refine box_event ?hg (N:=6) ?hd (cs:=#[.int .i64 0,.slice none 0 0,.slice none 0 0]) (t:=32) ?hr ?_;(case hd=>rfl);(case hg=>rfl);(case hr=>first|(go_simp;done)|(go_simp;rfl));intro gb176 hg w4 hbox hb;have n0_:=Z (IsS71.below pI hb);have n1_:=Z (KeepBut.trans pH (KeepBut.of_below hb g none) (.inl rfl));have n2_:=Z (below_step pB hb);have n3_:=Z (hbox);have n4_:=Z ((pS hg:w.heap.size≤gb176));have n5_:=Z ((Nat.le_trans HW0.out (pS hg:w.heap.size≤gb176):w0.heap.size≤gb176));have n6_:=Z ((pL71 hg (show IsS71 w0 _ g s0_0 s0_1 from pI):g ≠ gb176));have n7_:=Z ((pM71 hg (show IsS71 w0 _ g s0_0 s0_1 from pI):gb176 ≠ g));clear HI0;clear HK;clear HB;have HI0:=n0_;have HK:=n1_;have HB:=n2_;have BK176:=n3_;have GW176:=n4_;have GE176:=n5_;have NB0_176:=n6_;have NB176_0:=n7_;clear n0_ n1_ n2_ n3_ n4_ n5_ n6_ n7_;clear hb hbox hg))
 go_loopg [7,8] k (fun kq v7 v8 w'=>∃ (x7_1:List (S32)) (x8_1:Int) (x1001_1:Int),v8=.int .i64 x8_1∧Aside0 (trustquorummake_group.l0 kq a1 a2 x7_1 x8_1 s0_0 x1001_1=some (r1,r2,r3,r4))∧Aside0 (kq≤k)∧Aside0 (Kd.R k32 32 w' w.heap.size (fun k_=>k_ ≠ gb176) v7 x7_1)∧Aside0 (w'.heap[gb176]?=some (.cells #[.int .i64 0,(.slice none 0 0),(.slice none 0 0)] 32 (0,0)))∧Aside0 (IsS71 w0 w' g s0_0 x1001_1)∧Aside0 (KeepBut w w' g none)∧Aside0 (Below w0.heap.size w0 w')∧Aside0 (∀ y_∈x7_1,y_.f2=([]:List S32)))
 case atStart=>exact ⟨(([]:List (S32))),(0),(s0_1),pE,H',⟨Nat.le_refl _⟩,⟨pN⟩,⟨pK BK176⟩,⟨pI⟩,⟨pH⟩,⟨pB⟩,⟨by simp⟩⟩
 case round =>
  clear H'
  try clear p2
  obtain ⟨x7_1,x8_1,x1001_1,rfl,HA,HK1,HO_7,BK176,HI0,HK,HB,HEX⟩:=hrel
  cases gk with
  | zero=>exact absurd HA.out (by simp [trustquorummake_group.l0])
  | succ k1 =>
   have H:=HA.out
   clear HA
   simp only [trustquorummake_group.l0] at H
   by_cases c5:x8_1 < 3
   ·rw [if_pos c5] at H
    have c5b0:decide (x8_1 < 3)=true:=decide_eq_true c5
    clear c5
    have H':=Z H
    clear H
    go_wp2_with (first|((with_reducible refine gate_dst (N:=9) rfl ?_);refine box_event ?hg (N:=9) ?hd (cs:=#[.int .i64 0,.slice none 0 0,.slice none 0 0]) (t:=32) ?hr ?_;(case hd=>rfl);(case hg=>rfl);(case hr=>first|(go_simp;done)|(go_simp;rfl));intro gb177 hg w6 hbox hb;have n0_:=Z (Kd.R_below (Kd.R_elderB (pR HO_7) gb177 (Nat.le_of_eq hg.symm)) hb);have n1_:=Z (blk_below (g:=gb176) (o:=.cells #[.int .i64 0,.slice none 0 0,.slice none 0 0] 32 (0,0)) (pK BK176) hb);have n2_:=Z (IsS71.below pI hb);have n3_:=Z (KeepBut.trans pH (KeepBut.of_below hb g none) (.inl rfl));have n4_:=Z (below_step pB hb);have n5_:=Z (hbox);have n6_:=Z ((pS hg:w.heap.size≤gb177));have n7_:=Z ((Nat.le_trans HW0.out (pS hg:w.heap.size≤gb177):w0.heap.size≤gb177));have n8_:=Z ((pL hg (pK BK176):gb176 ≠ gb177));have n9_:=Z ((pM hg (pK BK176):gb177 ≠ gb176));have n10_:=Z ((pL71 hg (show IsS71 w0 _ g s0_0 x1001_1 from pI):g ≠ gb177));have n11_:=Z ((pM71 hg (show IsS71 w0 _ g s0_0 x1001_1 from pI):gb177 ≠ g));clear HO_7;clear BK176;clear HI0;clear HK;clear HB;have HO_7:=n0_;have BK176:=n1_;have HI0:=n2_;have HK:=n3_;have HB:=n4_;have BK177:=n5_;have GW177:=n6_;have GE177:=n7_;have NB176_177:=n8_;have NB177_176:=n9_;have NB0_177:=n10_;have NB177_0:=n11_;clear n0_ n1_ n2_ n3_ n4_ n5_ n6_ n7_ n8_ n9_ n10_ n11_;clear hb hbox hg;have hnb7:=NB177_176.out;have hnc7:=NB176_177.out;have hnb8:=NB177_0.out;have hnc8:=NB0_177.out;have hcz9_0:w6.cell? ⟨gb177,0,none⟩=some (.int .i64 0):=(kC BK177.out 0).trans rfl;have hcz9_1:w6.cell? ⟨gb177,1,none⟩=some (.slice none 0 0):=(kC BK177.out 1).trans rfl;have hcz9_2:w6.cell? ⟨gb177,2,none⟩=some (.slice none 0 0):=(kC BK177.out 2).trans rfl;have hfz9_0:=kF BK177.out 0;have hfz9_1:=kF BK177.out 1;have hfz9_2:=kF BK177.out 2))
    go_loopg [10] k1 (fun kq v10 w'=>∃ (x10_2:Int) (x178001_2:List Int) (u178001:Value),v10=.int .i64 x10_2∧Aside0 (trustquorummake_group.l1 kq a1 a2 x7_1 x8_1 x10_2 s0_0 x1001_1 1 x178001_2=some (r1,r2,r3,r4))∧Aside0 (kq≤k1)∧Aside0 (Kd.R k32 32 w' w.heap.size (fun k_=>some k_ ≠ (u178001:Value).ownBlock∧k_ ≠ gb176∧k_ ≠ gb177) u7 x7_1)∧Aside0 (Kd.R (Kd.int .i64) 3 w' w.heap.size (fun _=>True) u178001 x178001_2)∧Aside0 (w'.heap[gb176]?=some (.cells #[.int .i64 0,(.slice none 0 0),(.slice none 0 0)] 32 (0,0)))∧Aside0 (w'.heap[gb177]?=some (.cells #[.int .i64 1,u178001,(.slice none 0 0)] 32 (0,0)))∧Aside0 (IsS71 w0 w' g s0_0 x1001_1)∧Aside0 (KeepBut w w' g none)∧Aside0 (Below w0.heap.size w0 w'))
    case atStart=>exact ⟨(x8_1),(([]:List Int)),(.slice none 0 0),pE,H',⟨Nat.le_refl _⟩,⟨by (with_reducible repeat (first|apply Kd.R_alloc|apply Kd.R_drewN|apply Kd.R_drew));exact Kd.R_mono (Kd.R_far (p:=⟨gb177,2,none⟩) (Kd.R_far (p:=⟨gb177,1,none⟩) (Kd.R_far (p:=⟨gb177,0,none⟩) (Kd.R_mono HO_7.out (fun k_ hk=>(⟨hk,hk.2⟩:_∧k_ ≠ gb177))) (fun _ hk=>hk.2) (.int .i64 1)) (fun _ hk=>hk.2) (.slice none 0 0)) (fun _ hk=>hk.2) (.slice none 0 0)) (fun _ hk=>⟨(by simp [Value.ownBlock]),⟨hk.1.1,hk.1.2⟩⟩)⟩,⟨pN⟩,⟨by (with_reducible repeat (first|refine kN ?_ _|refine kD ?_|refine kA ?_ _));refine blk_far ?_ NB176_177.out _;(with_reducible repeat (first|refine kN ?_ _|refine kD ?_|refine kA ?_ _));refine blk_far ?_ NB176_177.out _;(with_reducible repeat (first|refine kN ?_ _|refine kD ?_|refine kA ?_ _));refine blk_far ?_ NB176_177.out _;(with_reducible repeat (first|refine kN ?_ _|refine kD ?_|refine kA ?_ _));exact BK176.out⟩,⟨by (with_reducible repeat (first|refine kN ?_ _|refine kD ?_|refine kA ?_ _));refine blk_put (cs:=#[.int .i64 1,.slice none 0 0,.slice none 0 0]) ?_ 2 _ rfl;(with_reducible repeat (first|refine kN ?_ _|refine kD ?_|refine kA ?_ _));refine blk_put (cs:=#[.int .i64 1,.slice none 0 0,.slice none 0 0]) ?_ 1 _ rfl;(with_reducible repeat (first|refine kN ?_ _|refine kD ?_|refine kA ?_ _));refine blk_put (cs:=#[.int .i64 0,.slice none 0 0,.slice none 0 0]) ?_ 0 _ rfl;(with_reducible repeat (first|refine kN ?_ _|refine kD ?_|refine kA ?_ _));exact BK177.out⟩,⟨pI⟩,⟨pH⟩,⟨pB⟩⟩
    case round =>
     clear H'
     try clear p2
     try clear c5
     try clear c5b0
     try clear c7
     try clear c8
     try clear hcz9_0
     try clear hcz9_1
     try clear hcz9_2
     try clear hfz9_0
     try clear hfz9_1
     try clear hfz9_2
     obtain ⟨x10_2,x178001_2,u178001,rfl,HA,HK2,HO_7,HO_178001,BK176,BK177,HI0,HK,HB⟩:=hrel
     cases gk with
     | zero=>exact absurd HA.out (by simp [trustquorummake_group.l1])
     | succ k2 =>
      have H:=HA.out
      clear HA
      simp only [trustquorummake_group.l1] at H
      by_cases c10:x10_2 < a1
      ·rw [if_pos c10] at H
       have c10b0:decide (x10_2 < a1)=true:=decide_eq_true c10
       clear c10
       by_cases c11:x178001_2.length < 17592186044416
       ·rw [if_pos c11] at H
        have LMc11:=Z c11
        clear c11
        obtain ⟨y178,hy178⟩:∃ y_:List Int,y_=(x178001_2++[x10_2]):=⟨_,rfl⟩
        first|rw [← hy178] at H|(replace H:=(Option.bind_some _ _).symm.trans H;rw [← hy178] at H)
        have Ny178:=Z hy178
        clear hy178
        have H':=Z H
        clear H
        have hnb12:=NB177_176.out
        have hnc12:=NB176_177.out
        have hnb13:=NB177_0.out
        have hnc13:=NB0_177.out
        have hcz14_0:wr.cell? ⟨gb177,0,none⟩=some (.int .i64 1):=(kC BK177.out 0).trans rfl
        have hcz14_1:wr.cell? ⟨gb177,1,none⟩=some (u178001):=(kC BK177.out 1).trans rfl
        have hcz14_2:wr.cell? ⟨gb177,2,none⟩=some (.slice none 0 0):=(kC BK177.out 2).trans rfl
        have hfz14_0:=kF BK177.out 0
        have hfz14_1:=kF BK177.out 1
        have hfz14_2:=kF BK177.out 2
        go_wp2_with (first|((with_reducible refine gate_builtin (b:=.append) (xs:=#[.tmp 23,.tmp 25]) rfl ?_);at_builtin;refine Kd.R_append (Kd.int .i64) w.heap.size rfl (.tmp 23) (.tmp 25) 22 3 (.int .i64 0) 8 rfl Try.underlying22 info3 rfl (by decide) (by omega) u178001 x178001_2 x10_2 [.int .i64 x10_2] (fun _=>True) (fun _=>False) rfl rfl ?aP (fun _ hk=>hk.elim) ?aF ?aO (Below.refl _ _) ?aS ?aL ?_;(case aP=>exact rfl);(case aF=>exact (fun _ _=>trivial));(case aO=>exact (pR HO_178001));(case aS=>exact (keep_size (w:=w) (g:=g) (row:=none) pH));(case aL=>have:=LMc11.out;omega);intro v179 w15 ho hb hg hat;rw [← Ny178.out] at ho;have n0_:=Z (Kd.R_after (ok:=(fun k_=>k_ ≠ gb176∧k_ ≠ gb177)) (by (with_reducible repeat (first|apply Kd.R_alloc|apply Kd.R_drewN|apply Kd.R_drew));exact Kd.R_mono HO_7.out (fun _ hk=>⟨⟨hk.2.1,hk.2.2⟩,hk.1⟩)) hg hat);have n1_:=Z (blk_grown (g:=gb176) (o:=.cells #[.int .i64 0,.slice none 0 0,.slice none 0 0] 32 (0,0)) (pK BK176) hg (Kd.R_ne HO_178001.out BK176.out (by decide)));have n2_:=Z (blk_grown (g:=gb177) (o:=.cells #[.int .i64 1,u178001,.slice none 0 0] 32 (0,0)) (pK BK177) hg (Kd.R_ne HO_178001.out BK177.out (by decide)));have n3_:=Z (IsS71.grown pI hg (IsS71.own_ne HI0.out HO_178001.out (by decide)));have n4_:=Z (below_weaken pB HL.out hb);have n5_:=Z (KeepBut.trans pH (KeepBut.of_grown hg g) (Kd.R_base2 HO_178001.out));have n6_:=Z (ho);clear HO_7;clear BK176;clear BK177;clear HI0;clear HB;clear HK;clear HO_178001;have HO_7:=n0_;have BK176:=n1_;have BK177:=n2_;have HI0:=n3_;have HB:=n4_;have HK:=n5_;have HO180:=n6_;clear n0_ n1_ n2_ n3_ n4_ n5_ n6_;clear ho hb hg hat;obtain ⟨Ao16,co16,eo16⟩:=Kd.R_slice HO180.out;subst eo16;have hcz17_0:w15.cell? ⟨gb177,0,none⟩=some (.int .i64 1):=(kC BK177.out 0).trans rfl;have hcz17_1:w15.cell? ⟨gb177,1,none⟩=some (u178001):=(kC BK177.out 1).trans rfl;have hcz17_2:w15.cell? ⟨gb177,2,none⟩=some (.slice none 0 0):=(kC BK177.out 2).trans rfl;have hfz17_0:=kF BK177.out 0;have hfz17_1:=kF BK177.out 1;have hfz17_2:=kF BK177.out 2))
        go_roundg k2
        case measure=>have:=HK1.out;have:=HK2.out;omega
        case rel=>exact ⟨(wrap64 (x10_2+3)),(y178),(.slice Ao16 y178.length co16),pE,H',⟨by have:=HK1.out;have:=HK2.out;omega⟩,⟨by (with_reducible repeat (first|apply Kd.R_alloc|apply Kd.R_drewN|apply Kd.R_drew));exact Kd.R_mono (Kd.R_far (p:=⟨gb177,1,none⟩) (Kd.R_mono HO_7.out (fun k_ hk=>(⟨hk,hk.1.2⟩:_∧k_ ≠ gb177))) (fun _ hk=>hk.2) (.slice Ao16 y178.length co16)) (fun _ hk=>⟨hk.1.2,⟨hk.1.1.1,hk.1.1.2⟩⟩)⟩,⟨by (with_reducible repeat (first|apply Kd.R_alloc|apply Kd.R_drewN|apply Kd.R_drew));exact Kd.R_mono (Kd.R_far (p:=⟨gb177,1,none⟩) (Kd.R_types HO180.out BK177.out (by decide)) (fun _ hk=>hk.2) (.slice Ao16 y178.length co16)) (fun _ hk=>trivial)⟩,⟨by (with_reducible repeat (first|refine kN ?_ _|refine kD ?_|refine kA ?_ _));refine blk_far ?_ NB176_177.out _;(with_reducible repeat (first|refine kN ?_ _|refine kD ?_|refine kA ?_ _));exact BK176.out⟩,⟨by (with_reducible repeat (first|refine kN ?_ _|refine kD ?_|refine kA ?_ _));refine blk_put (cs:=#[.int .i64 1,u178001,.slice none 0 0]) ?_ 1 _ rfl;(with_reducible repeat (first|refine kN ?_ _|refine kD ?_|refine kA ?_ _));exact BK177.out⟩,⟨pI⟩,⟨pH⟩,⟨pB⟩⟩
       ·rw [if_neg c11] at H
        exact absurd H (by simp)
      ·rw [if_neg c10] at H
       have c10b0:decide (x10_2 < a1)=false:=decide_eq_false c10
       clear c10
       by_cases c18:(x178001_2.length:Int) > 0
       ·rw [if_pos c18] at H
        have c18b0:decide (0 < (x178001_2.length:Int))=true:=decide_eq_true c18
        have c18b1:decide (0 < x178001_2.length)=true:=decide_eq_true (by omega)
        clear c18
        replace H:=Option.bind_eq_some_iff.mp H
        obtain ⟨⟨t181,t182⟩,A190,H⟩:=H
        try dsimp only at H
        have A19:=Z A190
        clear A190
        by_cases c20:x7_1.length < 2513169434916
        ·rw [if_pos c20] at H
         have LMc20:=Z c20
         clear c20
         obtain ⟨y183,hy183⟩:∃ y_:List (S32),y_=(x7_1++[(⟨t181,x178001_2,([]:List (S32))⟩:S32)]):=⟨_,rfl⟩
         first|rw [← hy183] at H|(replace H:=(Option.bind_some _ _).symm.trans H;rw [← hy183] at H)
         have Ny183:=Z hy183
         clear hy183
         have H':=Z H
         clear H
         have hnb21:=NB177_176.out
         have hnc21:=NB176_177.out
         have hnb22:=NB177_0.out
         have hnc22:=NB0_177.out
         have hcz23_0:wr.cell? ⟨gb177,0,none⟩=some (.int .i64 1):=(kC BK177.out 0).trans rfl
         have hcz23_1:wr.cell? ⟨gb177,1,none⟩=some (u178001):=(kC BK177.out 1).trans rfl
         have hcz23_2:wr.cell? ⟨gb177,2,none⟩=some (.slice none 0 0):=(kC BK177.out 2).trans rfl
         have hfz23_0:=kF BK177.out 0
         have hfz23_1:=kF BK177.out 1
         have hfz23_2:=kF BK177.out 2
         obtain ⟨Ao24,co24,eo24⟩:=Kd.R_slice HO_178001.out
         subst eo24
         go_wp2_with (first|((with_reducible refine gate_callee (f:=44) rfl ?_);refine goesL_ (some 36) rfl rfl Try.func44 (by kernel_rfl) rfl #[.pointer (some ⟨g,0,none⟩),.int .i64 1,.int .i64 (x178001_2.length:Int)] rfl pG ?_;(with_reducible refine (trustquorummake_Tape_Range.calls g s0_0 x1001_1 1 (x178001_2.length:Int) t181 t182 w0 _ ?side1 ?side2 A19.out).mono ?_);(case side1=>exact pI);(case side2=>exact pB);rintro e w25 ⟨rfl,hi,hb,hk⟩;refine ⟨_,rfl,?_⟩;have n0_:=Z (Kd.R_mono (Kd.R_keep (IsS71.apart (show IsS71 w0 _ g s0_0 x1001_1 from pI) (pR HO_7) (by decide)) hk (fun _ h=>h.2)) (fun _ h=>h.1));have n1_:=Z (Kd.R_mono (Kd.R_keep (IsS71.apart (show IsS71 w0 _ g s0_0 x1001_1 from pI) (pR HO_178001) (by decide)) hk (fun _ h=>h.2)) (fun _ h=>h.1));have n2_:=Z (KeepBut.blk hk (g':=gb176) (o:=.cells #[.int .i64 0,.slice none 0 0,.slice none 0 0] 32 (0,0)) (pK BK176) NB176_0.out (by simp));have n3_:=Z (KeepBut.blk hk (g':=gb177) (o:=.cells #[.int .i64 1,.slice Ao24 x178001_2.length co24,.slice none 0 0] 32 (0,0)) (pK BK177) NB177_0.out (by simp));have n4_:=Z (KeepBut.trans pH hk (.inl rfl));have n5_:=Z (hb);have n6_:=Z (hi);clear HO_7;clear HO_178001;clear BK176;clear BK177;clear HK;clear HB;clear HI0;have HO_7:=n0_;have HO_178001:=n1_;have BK176:=n2_;have BK177:=n3_;have HK:=n4_;have HB:=n5_;have HI0:=n6_;clear n0_ n1_ n2_ n3_ n4_ n5_ n6_;(try clear hb);(try clear hb2);(try clear hk);(try clear hi);have hcz26_0:w25.cell? ⟨gb177,0,none⟩=some (.int .i64 1):=(kC BK177.out 0).trans rfl;have hcz26_1:w25.cell? ⟨gb177,1,none⟩=some (.slice Ao24 x178001_2.length co24):=(kC BK177.out 1).trans rfl;have hcz26_2:w25.cell? ⟨gb177,2,none⟩=some (.slice none 0 0):=(kC BK177.out 2).trans rfl;have hfz26_0:=kF BK177.out 0;have hfz26_1:=kF BK177.out 1;have hfz26_2:=kF BK177.out 2)|((with_reducible refine gate_store (t:=3) (p:=37) rfl ?_);refine store_event (t:=3) (p:=37) (v:=?vo_w27) (w1:=(w25.setCell ⟨gb177,0,none⟩ (.int .i64 t181))) ?hg ?ho ?hn ?hr ?_;(case ho=>rfl);(case hg=>rfl);(case hn=>rfl);(case hr=>first|(go_simp;done)|(go_simp;rfl));intro w27 hw;have n0_:Aside0 (Kd.R k32 32 w27 w.heap.size (fun k_=>some k_ ≠ (.slice Ao24 x178001_2.length co24:Value).ownBlock∧k_ ≠ gb176∧k_ ≠ gb177) u7 x7_1):=⟨(by rw [hw];exact (by (with_reducible repeat (first|apply Kd.R_alloc|apply Kd.R_drewN|apply Kd.R_drew));exact Kd.R_mono (Kd.R_far (p:=⟨gb177,0,none⟩) (Kd.R_mono HO_7.out (fun k_ hk=>(⟨hk,hk.2.2⟩:_∧k_ ≠ gb177))) (fun _ hk=>hk.2) (.int .i64 t181)) (fun _ hk=>⟨hk.1.1,⟨hk.1.2.1,hk.1.2.2⟩⟩)))⟩;have n1_:Aside0 (Kd.R (Kd.int .i64) 3 w27 w.heap.size (fun _=>True) (.slice Ao24 x178001_2.length co24) x178001_2):=⟨(by rw [hw];exact (by (with_reducible repeat (first|apply Kd.R_alloc|apply Kd.R_drewN|apply Kd.R_drew));exact Kd.R_mono (Kd.R_far (p:=⟨gb177,0,none⟩) (Kd.R_types HO_178001.out BK177.out (by decide)) (fun _ hk=>hk.2) (.int .i64 t181)) (fun _ hk=>trivial)))⟩;have n2_:Aside0 (w27.heap[gb176]?=some (.cells #[.int .i64 0,.slice none 0 0,.slice none 0 0] 32 (0,0))):=⟨(by rw [hw];exact (by (with_reducible repeat (first|refine kN ?_ _|refine kD ?_|refine kA ?_ _));refine blk_far ?_ NB176_177.out _;(with_reducible repeat (first|refine kN ?_ _|refine kD ?_|refine kA ?_ _));exact BK176.out))⟩;have n3_:Aside0 (w27.heap[gb177]?=some (.cells #[.int .i64 t181,.slice Ao24 x178001_2.length co24,.slice none 0 0] 32 (0,0))):=⟨(by rw [hw];exact (by (with_reducible repeat (first|refine kN ?_ _|refine kD ?_|refine kA ?_ _));refine blk_put (cs:=#[.int .i64 1,.slice Ao24 x178001_2.length co24,.slice none 0 0]) ?_ 0 _ rfl;(with_reducible repeat (first|refine kN ?_ _|refine kD ?_|refine kA ?_ _));exact BK177.out))⟩;have n4_:Aside0 (IsS71 w0 w27 g s0_0 t182):=⟨(by rw [hw];exact pI)⟩;have n5_:Aside0 (KeepBut w w27 g none):=⟨(by rw [hw];exact pH)⟩;have n6_:Aside0 (Below w0.heap.size w0 w27):=⟨(by rw [hw];exact pB)⟩;clear hw;clear HO_7;clear HO_178001;clear BK176;clear BK177;clear HI0;clear HK;clear HB;have HO_7:=n0_;have HO_178001:=n1_;have BK176:=n2_;have BK177:=n3_;have HI0:=n4_;have HK:=n5_;have HB:=n6_;clear n0_ n1_ n2_ n3_ n4_ n5_ n6_;have hcz28_0:w27.cell? ⟨gb177,0,none⟩=some (.int .i64 t181):=(kC BK177.out 0).trans rfl;have hcz28_1:w27.cell? ⟨gb177,1,none⟩=some (.slice Ao24 x178001_2.length co24):=(kC BK177.out 1).trans rfl;have hcz28_2:w27.cell? ⟨gb177,2,none⟩=some (.slice none 0 0):=(kC BK177.out 2).trans rfl;have hfz28_0:=kF BK177.out 0;have hfz28_1:=kF BK177.out 1;have hfz28_2:=kF BK177.out 2)|((with_reducible refine gate_builtin (b:=.append) (xs:=#[.tmp 38,.tmp 40]) rfl ?_);at_builtin;refine Kd.R_append k32 w.heap.size rfl (.tmp 38) (.tmp 40) 30 32 (.agg #[(.int .i64 0),(.slice none 0 0),(.slice none 0 0)]) 56 rfl Try.underlying30 info32 rfl (by decide) (by omega) u7 x7_1 (⟨t181,x178001_2,([]:List (S32))⟩:S32) [.int .i64 t181,.slice Ao24 x178001_2.length co24,.slice none 0 0] (fun k_=>k_ ≠ gb176∧k_ ≠ gb177) (fun k_=>((fun k_=>k_ ≠ gb176∧k_ ≠ gb177)) k_∧some k_ ≠ (u7:Value).ownBlock) rfl rfl ?aP (fun _ hk=>hk) ?aF ?aO (Below.refl _ _) ?aS ?aL ?_;(case aP=>exact k32_mkM _ _ _ (⟨t181,x178001_2,([]:List (S32))⟩:S32) (Kd.R_mono (Kd.R_types (Kd.R_types (Kd.R_apart' (HO_178001.out) (Kd.R_typed HO_7.out) (by decide)) BK176.out (by decide)) BK177.out (by decide)) (fun k_ hk=>⟨⟨hk.1.2,hk.2⟩,hk.1.1.2⟩)) (Kd.R_nil _ _ _ _ _));(case aF=>exact (fun k_ hk=>⟨Kd.freshB (g:=gb176) (o:=.cells #[.int .i64 0,.slice none 0 0,.slice none 0 0] 32 (0,0)) (pK BK176) k_ hk,Kd.freshB (g:=gb177) (o:=.cells #[.int .i64 t181,.slice Ao24 x178001_2.length co24,.slice none 0 0] 32 (0,0)) (pK BK177) k_ hk⟩));(case aO=>exact (by (with_reducible repeat (first|apply Kd.R_alloc|apply Kd.R_drewN|apply Kd.R_drew));exact Kd.R_mono HO_7.out (fun _ hk=>⟨hk.2.1,hk.2.2⟩)));(case aS=>exact (keep_size (w:=w) (g:=g) (row:=none) pH));(case aL=>have:=LMc20.out;omega);intro v184 w29 ho hb hg hat;rw [← Ny183.out] at ho;have n0_:=Z (blk_grown (g:=gb176) (o:=.cells #[.int .i64 0,.slice none 0 0,.slice none 0 0] 32 (0,0)) (pK BK176) hg (Kd.R_away HO_7.out (fun _ hk=>hk.2.1)));have n1_:=Z (blk_grown (g:=gb177) (o:=.cells #[.int .i64 t181,.slice Ao24 x178001_2.length co24,.slice none 0 0] 32 (0,0)) (pK BK177) hg (Kd.R_away HO_7.out (fun _ hk=>hk.2.2)));have n2_:=Z (IsS71.grown pI hg (IsS71.own_ne HI0.out HO_7.out (by decide)));have n3_:=Z (below_weaken pB HL.out hb);have n4_:=Z (KeepBut.trans pH (KeepBut.of_grown hg g) (Kd.R_base2 HO_7.out));have n5_:=Z (ho);clear BK176;clear BK177;clear HI0;clear HB;clear HK;clear HO_7;clear HO_178001;have BK176:=n0_;have BK177:=n1_;have HI0:=n2_;have HB:=n3_;have HK:=n4_;have HO185:=n5_;clear n0_ n1_ n2_ n3_ n4_ n5_;clear ho hb hg hat))
         go_roundg k2
         case measure=>have:=HK1.out;have:=HK2.out;omega
         case rel=>exact ⟨(y183),(wrap64 (x8_1+1)),(t182),pE,H',⟨by have:=HK1.out;have:=HK2.out;omega⟩,⟨by (with_reducible repeat (first|apply Kd.R_alloc|apply Kd.R_drewN|apply Kd.R_drew));exact Kd.R_mono HO185.out (fun _ hk=>hk.1)⟩,⟨pK BK176⟩,⟨pI⟩,⟨pH⟩,⟨pB⟩,⟨by have h_:=HEX.out;intro y_ hy_;first|exact h_ y_ hy_|(rw [Ny183.out] at hy_;rcases List.mem_append.1 hy_ with hy_|hy_;exact h_ y_ hy_;simp at hy_;rw [hy_])⟩⟩
        ·rw [if_neg c20] at H
         exact absurd H (by simp)
       ·rw [if_neg c18] at H
        have c18b0:decide (0 < (x178001_2.length:Int))=false:=decide_eq_false c18
        have c18b1:decide (0 < x178001_2.length)=false:=decide_eq_false (by omega)
        clear c18
        have H':=Z H
        clear H
        have hnb30:=NB177_176.out
        have hnc30:=NB176_177.out
        have hnb31:=NB177_0.out
        have hnc31:=NB0_177.out
        have hcz32_0:wr.cell? ⟨gb177,0,none⟩=some (.int .i64 1):=(kC BK177.out 0).trans rfl
        have hcz32_1:wr.cell? ⟨gb177,1,none⟩=some (u178001):=(kC BK177.out 1).trans rfl
        have hcz32_2:wr.cell? ⟨gb177,2,none⟩=some (.slice none 0 0):=(kC BK177.out 2).trans rfl
        have hfz32_0:=kF BK177.out 0
        have hfz32_1:=kF BK177.out 1
        have hfz32_2:=kF BK177.out 2
        obtain ⟨Ao33,co33,eo33⟩:=Kd.R_slice HO_178001.out
        subst eo33
        go_wp2
        go_roundg k2
        case measure=>have:=HK1.out;have:=HK2.out;omega
        case rel=>exact ⟨(x7_1),(wrap64 (x8_1+1)),(x1001_1),pE,H',⟨by have:=HK1.out;have:=HK2.out;omega⟩,⟨by (with_reducible repeat (first|apply Kd.R_alloc|apply Kd.R_drewN|apply Kd.R_drew));exact Kd.R_mono HO_7.out (fun _ hk=>hk.2.1)⟩,⟨pK BK176⟩,⟨pI⟩,⟨pH⟩,⟨pB⟩,⟨by have h_:=HEX.out;intro y_ hy_;first|exact h_ y_ hy_|(rw [Ny183.out] at hy_;rcases List.mem_append.1 hy_ with hy_|hy_;exact h_ y_ hy_;simp at hy_;rw [hy_])⟩⟩
   ·rw [if_neg c5] at H
    have c5b0:decide (x8_1 < 3)=false:=decide_eq_false c5
    clear c5
    replace H:=Option.bind_eq_some_iff.mp H
    obtain ⟨⟨t186,t187⟩,A340,H⟩:=H
    try dsimp only at H
    have A34:=Z A340
    clear A340
    by_cases c35:t186=0
    ·rw [if_pos c35] at H
     have c35b0:(t186 == 0)=true:=beq_iff_eq.mpr c35
     have c35b1:(t186 != 0)=false:=bne_eq_false_iff_eq.mpr c35
     clear c35
     by_cases c36:(x7_1.length:Int)=0
     ·rw [if_pos c36] at H
      exact absurd H (by simp)
     ·rw [if_neg c36] at H
      have c36b0:((x7_1.length:Int) == 0)=false:=beq_eq_false_iff_ne.mpr c36
      have c36b1:((x7_1.length:Int) != 0)=true:=bne_iff_ne.mpr c36
      have c36b2:¬ (x7_1=[]):=fun h_=>c36 (by rw [h_];rfl)
      obtain ⟨ji37,hji37⟩:∃ j_:Int,(Int.tmod a2 (x7_1.length:Int))=j_:=⟨_,rfl⟩
      replace H:(if 0≤(ji37) then (if (ji37) < (x7_1.length:Int) then (some ((rd_T32 x7_1 (ji37)).f0,(rd_T32 x7_1 (ji37)).f1,(rd_T32 x7_1 (ji37)).f2,t187)) else (none)) else (none))=some (r1,r2,r3,r4):=by first|(rw [hji37] at H;exact H)|(simp only [hji37] at H ⊢;exact H)
      (try rw [hji37] at A34)
      by_cases c38:0≤(ji37)
      ·rw [if_pos c38] at H
       have c38b0:decide (0≤(ji37))=true:=decide_eq_true c38
       clear c38
       by_cases c39:(ji37) < (x7_1.length:Int)
       ·rw [if_pos c39] at H
        have c39b0:decide ((ji37) < (x7_1.length:Int))=true:=decide_eq_true c39
        clear c39
        simp only [Option.some.injEq,Prod.mk.injEq] at H
        obtain ⟨rfl,rfl,rfl,rfl⟩:=H
        go_wp2_with (first|((with_reducible refine gate_callee (f:=16) rfl ?_);refine goesL_ (some 43) rfl rfl Try.func16 (by kernel_rfl) rfl #[.pointer (some ⟨g,0,none⟩),.int .i64 4] rfl pG ?_;(with_reducible refine (trustquorummake_Tape_N.calls g s0_0 x1001_1 4 t186 t187 w0 _ ?side1 ?side2 A34.out).mono ?_);(case side1=>exact pI);(case side2=>exact pB);rintro e w40 ⟨rfl,hi,hb,hk⟩;refine ⟨_,rfl,?_⟩;have n0_:=Z (Kd.R_mono (Kd.R_keep (IsS71.apart (show IsS71 w0 _ g s0_0 x1001_1 from pI) (pR HO_7) (by decide)) hk (fun _ h=>h.2)) (fun _ h=>h.1));have n1_:=Z (KeepBut.blk hk (g':=gb176) (o:=.cells #[.int .i64 0,.slice none 0 0,.slice none 0 0] 32 (0,0)) (pK BK176) NB176_0.out (by simp));have n2_:=Z (KeepBut.trans pH hk (.inl rfl));have n3_:=Z (hb);have n4_:=Z (hi);clear HO_7;clear BK176;clear HK;clear HB;clear HI0;have HO_7:=n0_;have BK176:=n1_;have HK:=n2_;have HB:=n3_;have HI0:=n4_;clear n0_ n1_ n2_ n3_ n4_;(try clear hb);(try clear hb2);(try clear hk);(try clear hi);obtain ⟨Ao41,co41,eo41⟩:=Kd.R_slice HO_7.out;subst eo41;have p188:0≤((ji37):Int):=of_decide_eq_true (by first|(with_reducible assumption)|assumption);have q188:(ji37) < (x7_1.length:Int):=of_decide_eq_true (by first|(with_reducible assumption)|assumption);obtain ⟨ad188,A188_1,c188_1,A188_2,c188_2,e188,hx188_0,hx188_1,hx188_2,hl188_1,hi188_1,hl188_2,hi188_2⟩:=at_T32 (Kd.R_reads' HO_7.out).2.2 (ji37) p188 q188;cases e188;obtain ⟨ce188,hce188,hMe188,hcc188⟩:=Kd.R_get HO_7.out z32 (ji37) p188 (by first|exact q188|exact of_decide_eq_true (by first|(with_reducible assumption)|assumption)|(have e_:=(Kd.R_reads' HO_7.out).1;omega));obtain ⟨ve188_1,ve188_2,rfl,ge188_1,ge188_2⟩:=k32_openM hMe188;have hv188_1:=hcc188 1 _ rfl;rw [add_field _ _ 1 (by omega)] at hv188_1;replace hv188_1:=Option.some.inj (hv188_1.symm.trans hx188_1);rw [hv188_1] at ge188_1;have HL188_1:=Z (show Kd.R (Kd.int .i64) 3 _ _ _ _ ((rd_T32 x7_1 (ji37)).f1) from ge188_1);clear hv188_1 ge188_1;have hv188_2:=hcc188 2 _ rfl;rw [add_field _ _ 2 (by omega)] at hv188_2;replace hv188_2:=Option.some.inj (hv188_2.symm.trans hx188_2);rw [hv188_2] at ge188_2;have HL188_2:=Z (show Kd.R k32 32 _ _ _ _ ((rd_T32 x7_1 (ji37)).f2) from ge188_2);clear hv188_2 ge188_2;clear hcc188 hce188;have HR188_1:=Z hi188_1;have HC188_1:=Z hl188_1;clear hi188_1 hl188_1;have HR188_2:=Z hi188_2;have HC188_2:=Z hl188_2;clear hi188_2 hl188_2;replace p188:=eq_true p188;replace q188:=eq_true q188;have hnb42:=NB176_0.out;have hnc42:=NB0_176.out;have hcz43_0:w40.cell? ⟨gb176,0,none⟩=some (.int .i64 0):=(kC BK176.out 0).trans rfl;have hcz43_1:w40.cell? ⟨gb176,1,none⟩=some (.slice none 0 0):=(kC BK176.out 1).trans rfl;have hcz43_2:w40.cell? ⟨gb176,2,none⟩=some (.slice none 0 0):=(kC BK176.out 2).trans rfl;have hfz43_0:=kF BK176.out 0;have hfz43_1:=kF BK176.out 1;have hfz43_2:=kF BK176.out 2))
        refine bodyPost_ret (results_cell_row rfl _ _ gb176 32 #[.int .i64 ((rd_T32 x7_1 (ji37)).f0),.slice A188_1 ((rd_T32 x7_1 (ji37)).f1).length c188_1,.slice A188_2 ((rd_T32 x7_1 (ji37)).f2).length c188_2] (0,0) _ rfl (by (with_reducible repeat (first|refine kN ?_ _|refine kD ?_|refine kA ?_ _));refine blk_put (cs:=#[.int .i64 ((rd_T32 x7_1 (ji37)).f0),.slice A188_1 ((rd_T32 x7_1 (ji37)).f1).length c188_1,.slice none 0 0]) ?_ 2 _ rfl;(with_reducible repeat (first|refine kN ?_ _|refine kD ?_|refine kA ?_ _));refine blk_put (cs:=#[.int .i64 ((rd_T32 x7_1 (ji37)).f0),.slice none 0 0,.slice none 0 0]) ?_ 1 _ rfl;(with_reducible repeat (first|refine kN ?_ _|refine kD ?_|refine kA ?_ _));refine blk_put (cs:=#[.int .i64 0,.slice none 0 0,.slice none 0 0]) ?_ 0 _ rfl;(with_reducible repeat (first|refine kN ?_ _|refine kD ?_|refine kA ?_ _));exact BK176.out) Try.underlying32 rfl (by kernel_rfl)) rfl ?_
        exact ⟨_,_,by first|rfl|(simp [errW_none,errW_some] <;> rfl)|(simp only [← hji37];first|rfl|(simp [errW_none,errW_some] <;> rfl))|(simp [*,errW_none,errW_some] <;> rfl),by (with_reducible repeat (first|apply Kd.R_alloc|apply Kd.R_drewN|apply Kd.R_drew));exact Kd.R_mono (Kd.R_far (p:=⟨gb176,2,none⟩) (Kd.R_far (p:=⟨gb176,1,none⟩) (Kd.R_far (p:=⟨gb176,0,none⟩) (Kd.R_types HL188_1.out BK176.out (by decide)) (fun _ hk=>hk.2) (.int .i64 ((rd_T32 x7_1 (ji37)).f0))) (fun _ hk=>hk.2) (.slice A188_1 ((rd_T32 x7_1 (ji37)).f1).length c188_1)) (fun _ hk=>hk.2) (.slice A188_2 ((rd_T32 x7_1 (ji37)).f2).length c188_2)) (fun _ hk=>trivial),by (with_reducible repeat (first|apply Kd.R_alloc|apply Kd.R_drewN|apply Kd.R_drew));exact R_emptyOf (HEX.out _ (rd_T32_mem (of_decide_eq_true (by first|(with_reducible assumption)|assumption)) (of_decide_eq_true (by first|(with_reducible assumption)|assumption)))) (Kd.R_far (p:=⟨gb176,2,none⟩) (Kd.R_far (p:=⟨gb176,1,none⟩) (Kd.R_far (p:=⟨gb176,0,none⟩) (Kd.R_mono HL188_2.out (fun k_ hk=>(⟨hk,hk.1⟩:_∧k_ ≠ gb176))) (fun _ hk=>hk.2) (.int .i64 ((rd_T32 x7_1 (ji37)).f0))) (fun _ hk=>hk.2) (.slice A188_1 ((rd_T32 x7_1 (ji37)).f1).length c188_1)) (fun _ hk=>hk.2) (.slice A188_2 ((rd_T32 x7_1 (ji37)).f2).length c188_2)) (R_other HL188_2.out HL188_1.out),pI,pB,pH⟩
       ·rw [if_neg c39] at H
        exact absurd H (by simp)
      ·rw [if_neg c38] at H
       exact absurd H (by simp)
    ·rw [if_neg c35] at H
     have c35b0:(t186 == 0)=false:=beq_eq_false_iff_ne.mpr c35
     have c35b1:(t186 != 0)=true:=bne_iff_ne.mpr c35
     obtain ⟨ji44,hji44⟩:∃ j_:Int,(mx 1 (wrap64 ((x7_1.length:Int) - 1)))=j_:=⟨_,rfl⟩
     replace H:((trustquorummake_Tape_Range.f s0_0 t187 (ji44) (x7_1.length:Int)).bind fun bt189=>(some (bt189.1,([]:List Int),x7_1,bt189.2)))=some (r1,r2,r3,r4):=by first|(rw [hji44] at H;exact H)|(simp only [hji44] at H ⊢;exact H)
     (try rw [hji44] at A34)
     have hji44_:(if 1 < (wrap64 ((x7_1.length:Int) - 1)) then (wrap64 ((x7_1.length:Int) - 1)) else 1)=ji44:=hji44
     replace H:=Option.bind_eq_some_iff.mp H
     obtain ⟨⟨t189,t190⟩,A450,H⟩:=H
     try dsimp only at H
     have A45:=Z A450
     clear A450
     simp only [Option.some.injEq,Prod.mk.injEq] at H
     obtain ⟨rfl,rfl,rfl,rfl⟩:=H
     go_wp2_with (first|((with_reducible refine gate_callee (f:=16) rfl ?_);refine goesL_ (some 43) rfl rfl Try.func16 (by kernel_rfl) rfl #[.pointer (some ⟨g,0,none⟩),.int .i64 4] rfl pG ?_;(with_reducible refine (trustquorummake_Tape_N.calls g s0_0 x1001_1 4 t186 t187 w0 _ ?side1 ?side2 A34.out).mono ?_);(case side1=>exact pI);(case side2=>exact pB);rintro e w46 ⟨rfl,hi,hb,hk⟩;refine ⟨_,rfl,?_⟩;have n0_:=Z (Kd.R_mono (Kd.R_keep (IsS71.apart (show IsS71 w0 _ g s0_0 x1001_1 from pI) (pR HO_7) (by decide)) hk (fun _ h=>h.2)) (fun _ h=>h.1));have n1_:=Z (KeepBut.blk hk (g':=gb176) (o:=.cells #[.int .i64 0,.slice none 0 0,.slice none 0 0] 32 (0,0)) (pK BK176) NB176_0.out (by simp));have n2_:=Z (KeepBut.trans pH hk (.inl rfl));have n3_:=Z (hb);have n4_:=Z (hi);clear HO_7;clear BK176;clear HK;clear HB;clear HI0;have HO_7:=n0_;have BK176:=n1_;have HK:=n2_;have HB:=n3_;have HI0:=n4_;clear n0_ n1_ n2_ n3_ n4_;(try clear hb);(try clear hb2);(try clear hk);(try clear hi);obtain ⟨Ao47,co47,eo47⟩:=Kd.R_slice HO_7.out;subst eo47)|((with_reducible refine gate_callee (f:=44) rfl ?_);refine goesL_ (some 59) rfl rfl Try.func44 (by kernel_rfl) rfl #[.pointer (some ⟨g,0,none⟩),.int .i64 ji44,.int .i64 (x7_1.length:Int)] rfl (by (try simp only [List.map_toArray,List.map_cons,List.map_nil]);first|done|(simp only [hji44];rfl)|rfl|(simp only [List.length_drop,List.length_take];rfl)) ?_;(with_reducible refine (trustquorummake_Tape_Range.calls g s0_0 t187 ji44 (x7_1.length:Int) t189 t190 w0 _ ?side1 ?side2 A45.out).mono ?_);(case side1=>exact pI);(case side2=>exact pB);rintro e w48 ⟨rfl,hi,hb,hk⟩;refine ⟨_,rfl,?_⟩;have n0_:=Z (Kd.R_mono (Kd.R_keep (IsS71.apart (show IsS71 w0 _ g s0_0 t187 from pI) (pR HO_7) (by decide)) hk (fun _ h=>h.2)) (fun _ h=>h.1));have n1_:=Z (KeepBut.blk hk (g':=gb176) (o:=.cells #[.int .i64 0,.slice none 0 0,.slice none 0 0] 32 (0,0)) (pK BK176) NB176_0.out (by simp));have n2_:=Z (KeepBut.trans pH hk (.inl rfl));have n3_:=Z (hb);have n4_:=Z (hi);clear HO_7;clear BK176;clear HK;clear HB;clear HI0;have HO_7:=n0_;have BK176:=n1_;have HK:=n2_;have HB:=n3_;have HI0:=n4_;clear n0_ n1_ n2_ n3_ n4_;(try clear hb);(try clear hb2);(try clear hk);(try clear hi);have hnb49:=NB176_0.out;have hnc49:=NB0_176.out;have hcz50_0:w48.cell? ⟨gb176,0,none⟩=some (.int .i64 0):=(kC BK176.out 0).trans rfl;have hcz50_1:w48.cell? ⟨gb176,1,none⟩=some (.slice none 0 0):=(kC BK176.out 1).trans rfl;have hcz50_2:w48.cell? ⟨gb176,2,none⟩=some (.slice none 0 0):=(kC BK176.out 2).trans rfl;have hfz50_0:=kF BK176.out 0;have hfz50_1:=kF BK176.out 1;have hfz50_2:=kF BK176.out 2))
     refine bodyPost_ret (results_cell_row rfl _ _ gb176 32 #[.int .i64 t189,.slice none 0 0,.slice Ao47 x7_1.length co47] (0,0) _ rfl (by (with_reducible repeat (first|refine kN ?_ _|refine kD ?_|refine kA ?_ _));refine blk_put (cs:=#[.int .i64 t189,.slice none 0 0,.slice none 0 0]) ?_ 2 _ rfl;(with_reducible repeat (first|refine kN ?_ _|refine kD ?_|refine kA ?_ _));refine blk_put (cs:=#[.int .i64 t189,.slice none 0 0,.slice none 0 0]) ?_ 1 _ rfl;(with_reducible repeat (first|refine kN ?_ _|refine kD ?_|refine kA ?_ _));refine blk_put (cs:=#[.int .i64 0,.slice none 0 0,.slice none 0 0]) ?_ 0 _ rfl;(with_reducible repeat (first|refine kN ?_ _|refine kD ?_|refine kA ?_ _));exact BK176.out) Try.underlying32 rfl (by kernel_rfl)) rfl ?_
     exact ⟨_,_,by first|rfl|(simp [errW_none,errW_some] <;> rfl)|(simp only [← hji44];first|rfl|(simp [errW_none,errW_some] <;> rfl))|(simp [*,errW_none,errW_some] <;> rfl),pN,by (with_reducible repeat (first|apply Kd.R_alloc|apply Kd.R_drewN|apply Kd.R_drew));exact Kd.R_mono (Kd.R_far (p:=⟨gb176,2,none⟩) (Kd.R_far (p:=⟨gb176,1,none⟩) (Kd.R_far (p:=⟨gb176,0,none⟩) (Kd.R_mono HO_7.out (fun k_ hk=>(⟨hk,hk⟩:_∧k_ ≠ gb176))) (fun _ hk=>hk.2) (.int .i64 t189)) (fun _ hk=>hk.2) (.slice none 0 0)) (fun _ hk=>hk.2) (.slice Ao47 x7_1.length co47)) (fun _ hk=>(by simp [Value.ownBlock])),pI,pB,pH⟩
def trustquorummake_Config.l0:Nat→Int→Int→Int→List Int→Int→List (S34)→Option ((List (S34)) × Int)
 | 0,_,_,_,_,_,_=>none
 | k+1,x5,x6,x8,x1000,x1001,x182000=>if x8 < x5 then (if x6=0 then ((trustquorummake_Trust.f k x1000 x1001 x5 2).bind fun bt183=>((trustquorummake_Tape_N.f x1000 bt183.2.2.2 12).bind fun bt191=>(if bt191.1=11 then (if x182000.length < 2199023255552 then (trustquorummake_Config.l0 k x5 x6 (wrap64 (x8+1)) x1000 bt191.2 (x182000++[(⟨false,(⟨0,([]:List Int),([]:List (S32))⟩:S32)⟩:S34)])) else (none)) else (if x182000.length < 2199023255552 then (trustquorummake_Config.l0 k x5 x6 (wrap64 (x8+1)) x1000 bt191.2 (x182000++[(⟨true,(⟨bt183.1,bt183.2.1,bt183.2.2.1⟩:S32)⟩:S34)])) else (none))))) else (if x6=1 then ((trustquorummake_most.f k x1000 x1001 x5).bind fun bt199=>((trustquorummake_Tape_N.f x1000 bt199.2.2.2 12).bind fun bt207=>(if bt207.1=11 then (if x182000.length < 2199023255552 then (trustquorummake_Config.l0 k x5 x6 (wrap64 (x8+1)) x1000 bt207.2 (x182000++[(⟨false,(⟨0,([]:List Int),([]:List (S32))⟩:S32)⟩:S34)])) else (none)) else (if x182000.length < 2199023255552 then (trustquorummake_Config.l0 k x5 x6 (wrap64 (x8+1)) x1000 bt207.2 (x182000++[(⟨true,(⟨bt199.1,bt199.2.1,bt199.2.2.1⟩:S32)⟩:S34)])) else (none))))) else ((trustquorummake_group.f k x1000 x1001 x5 x8).bind fun bt215=>((trustquorummake_Tape_N.f x1000 bt215.2.2.2 12).bind fun bt223=>(if bt223.1=11 then (if x182000.length < 2199023255552 then (trustquorummake_Config.l0 k x5 x6 (wrap64 (x8+1)) x1000 bt223.2 (x182000++[(⟨false,(⟨0,([]:List Int),([]:List (S32))⟩:S32)⟩:S34)])) else (none)) else (if x182000.length < 2199023255552 then (trustquorummake_Config.l0 k x5 x6 (wrap64 (x8+1)) x1000 bt223.2 (x182000++[(⟨true,(⟨bt215.1,bt215.2.1,bt215.2.2.1⟩:S32)⟩:S34)])) else (none))))))) else (some (x182000,x1001))
def trustquorummake_Config.f (k:Nat) (s0_0:List Int) (s0_1:Int) (a1:Int):Option ((List (S34)) × Int):=(trustquorummake_Tape_Range.f s0_0 s0_1 1 a1).bind fun bt177=>((trustquorummake_Tape_N.f s0_0 bt177.2 3).bind fun bt179=>(trustquorummake_Config.l0 k bt177.1 bt179.1 0 s0_0 bt179.2 ([]:List (S34))))
set_option maxHeartbeats 8000000 in
set_option maxRecDepth 100000 in
theorem trustquorummake_Config.calls (k:Nat) (g:Nat) (s0_0:List Int) (s0_1:Int) (a1:Int) (r1:List (S34)) (r2:Int) (w0 w:World) (hI:IsS71 w0 w g s0_0 s0_1) (hB:Below w0.heap.size w0 w) (h:trustquorummake_Config.f k s0_0 s0_1 a1=some (r1,r2)) :
  Calls Try.prog 15 #[.pointer (some ⟨g,0,none⟩),.int .i64 a1] w fun e w'=>∃ v0_:Value,e=.returned (.agg #[v0_])∧Kd.R k34 34 w' w.heap.size (fun _=>True) v0_ r1∧IsS71 w0 w' g s0_0 r2∧Below w0.heap.size w0 w'∧KeepBut w w' g none:=by
 have hu27:=Try.underlying27
 have hu32:=Try.underlying32
 have hu34:=Try.underlying34
 have HI0:=Z hI
 have HK:=Z (KeepBut.refl w g none)
 have HL:=Z hB.size
 clear hI
 have HW0:=Z hB.size
 have HB:=Z hB
 clear hB
 have H:((trustquorummake_Tape_Range.f s0_0 s0_1 1 a1).bind fun bt177=>((trustquorummake_Tape_N.f s0_0 bt177.2 3).bind fun bt179=>(trustquorummake_Config.l0 k bt177.1 bt179.1 0 s0_0 bt179.2 ([]:List (S34)))))=some (r1,r2):=h
 clear h
 replace H:=Option.bind_eq_some_iff.mp H
 obtain ⟨⟨t177,t178⟩,A30,H⟩:=H
 try dsimp only at H
 have A3:=Z A30
 clear A30
 replace H:=Option.bind_eq_some_iff.mp H
 obtain ⟨⟨t179,t180⟩,A40,H⟩:=H
 try dsimp only at H
 have A4:=Z A40
 clear A40
 have H':=Z H
 clear H
 go_enter Try.func15,Try.ntmps15
 go_wp2_with (first|((with_reducible refine gate_dst (N:=4) rfl ?_);refine box_event ?hg (N:=4) ?hd (cs:=#[.slice none 0 0]) (t:=27) ?hr ?_;(case hd=>rfl);(case hg=>rfl);(case hr=>first|(go_simp;done)|(go_simp;rfl));intro gb176 hg w5 hbox hb;have n0_:=Z (IsS71.below pI hb);have n1_:=Z (KeepBut.trans pH (KeepBut.of_below hb g none) (.inl rfl));have n2_:=Z (below_step pB hb);have n3_:=Z (hbox);have n4_:=Z ((pS hg:w.heap.size≤gb176));have n5_:=Z ((Nat.le_trans HW0.out (pS hg:w.heap.size≤gb176):w0.heap.size≤gb176));have n6_:=Z ((pL71 hg (show IsS71 w0 _ g s0_0 s0_1 from pI):g ≠ gb176));have n7_:=Z ((pM71 hg (show IsS71 w0 _ g s0_0 s0_1 from pI):gb176 ≠ g));clear HI0;clear HK;clear HB;have HI0:=n0_;have HK:=n1_;have HB:=n2_;have BK176:=n3_;have GW176:=n4_;have GE176:=n5_;have NB0_176:=n6_;have NB176_0:=n7_;clear n0_ n1_ n2_ n3_ n4_ n5_ n6_ n7_;clear hb hbox hg)|((with_reducible refine gate_callee (f:=44) rfl ?_);refine goesL_ (some 12) rfl rfl Try.func44 (by kernel_rfl) rfl #[.pointer (some ⟨g,0,none⟩),.int .i64 1,.int .i64 a1] rfl pG ?_;(with_reducible refine (trustquorummake_Tape_Range.calls g s0_0 s0_1 1 a1 t177 t178 w0 _ ?side1 ?side2 A3.out).mono ?_);(case side1=>exact pI);(case side2=>exact pB);rintro e w6 ⟨rfl,hi,hb,hk⟩;refine ⟨_,rfl,?_⟩;have n0_:=Z (KeepBut.blk hk (g':=gb176) (o:=.cells #[.slice none 0 0] 27 (0,0)) (pK BK176) NB176_0.out (by simp));have n1_:=Z (KeepBut.trans pH hk (.inl rfl));have n2_:=Z (hb);have n3_:=Z (hi);clear BK176;clear HK;clear HB;clear HI0;have BK176:=n0_;have HK:=n1_;have HB:=n2_;have HI0:=n3_;clear n0_ n1_ n2_ n3_;(try clear hb);(try clear hb2);(try clear hk);(try clear hi))|((with_reducible refine gate_callee (f:=16) rfl ?_);refine goesL_ (some 14) rfl rfl Try.func16 (by kernel_rfl) rfl #[.pointer (some ⟨g,0,none⟩),.int .i64 3] rfl pG ?_;(with_reducible refine (trustquorummake_Tape_N.calls g s0_0 t178 3 t179 t180 w0 _ ?side1 ?side2 A4.out).mono ?_);(case side1=>exact pI);(case side2=>exact pB);rintro e w7 ⟨rfl,hi,hb,hk⟩;refine ⟨_,rfl,?_⟩;have n0_:=Z (KeepBut.blk hk (g':=gb176) (o:=.cells #[.slice none 0 0] 27 (0,0)) (pK BK176) NB176_0.out (by simp));have n1_:=Z (KeepBut.trans pH hk (.inl rfl));have n2_:=Z (hb);have n3_:=Z (hi);clear BK176;clear HK;clear HB;clear HI0;have BK176:=n0_;have HK:=n1_;have HB:=n2_;have HI0:=n3_;clear n0_ n1_ n2_ n3_;(try clear hb);(try clear hb2);(try clear hk);(try clear hi))|((with_reducible refine gate_dst (N:=7) rfl ?_);refine box_event ?hg (N:=7) ?hd (cs:=#[.slice none 0 0]) (t:=27) ?hr ?_;(case hd=>rfl);(case hg=>rfl);(case hr=>first|(go_simp;done)|(go_simp;rfl));intro gb181 hg w8 hbox hb;have n0_:=Z (IsS71.below pI hb);have n1_:=Z (blk_below (g:=gb176) (o:=.cells #[.slice none 0 0] 27 (0,0)) (pK BK176) hb);have n2_:=Z (KeepBut.trans pH (KeepBut.of_below hb g none) (.inl rfl));have n3_:=Z (below_step pB hb);have n4_:=Z (hbox);have n5_:=Z ((pS hg:w.heap.size≤gb181));have n6_:=Z ((Nat.le_trans HW0.out (pS hg:w.heap.size≤gb181):w0.heap.size≤gb181));have n7_:=Z ((pL hg (pK BK176):gb176 ≠ gb181));have n8_:=Z ((pM hg (pK BK176):gb181 ≠ gb176));have n9_:=Z ((pL71 hg (show IsS71 w0 _ g s0_0 t180 from pI):g ≠ gb181));have n10_:=Z ((pM71 hg (show IsS71 w0 _ g s0_0 t180 from pI):gb181 ≠ g));clear HI0;clear BK176;clear HK;clear HB;have HI0:=n0_;have BK176:=n1_;have HK:=n2_;have HB:=n3_;have BK181:=n4_;have GW181:=n5_;have GE181:=n6_;have NB176_181:=n7_;have NB181_176:=n8_;have NB0_181:=n9_;have NB181_0:=n10_;clear n0_ n1_ n2_ n3_ n4_ n5_ n6_ n7_ n8_ n9_ n10_;clear hb hbox hg))
 go_loopg [8] k (fun kq v8 w'=>∃ (x8_1:Int) (x1001_1:Int) (x182000_1:List (S34)) (u182000:Value),v8=.int .i64 x8_1∧Aside0 (trustquorummake_Config.l0 kq t177 t179 x8_1 s0_0 x1001_1 x182000_1=some (r1,r2))∧Aside0 (kq≤k)∧Aside0 (Kd.R k34 34 w' w.heap.size (fun _=>True) u182000 x182000_1)∧Aside0 (w'.heap[gb176]?=some (.cells #[(.slice none 0 0)] 27 (0,0)))∧Aside0 (w'.heap[gb181]?=some (.cells #[u182000] 27 (0,0)))∧Aside0 (IsS71 w0 w' g s0_0 x1001_1)∧Aside0 (KeepBut w w' g none)∧Aside0 (Below w0.heap.size w0 w'))
 case atStart=>exact ⟨(0),(t180),(([]:List (S34))),(.slice none 0 0),pE,H',⟨Nat.le_refl _⟩,⟨pN⟩,⟨pK BK176⟩,⟨pK BK181⟩,⟨pI⟩,⟨pH⟩,⟨pB⟩⟩
 case round =>
  clear H'
  try clear c1
  try clear p2
  try clear c4
  obtain ⟨x8_1,x1001_1,x182000_1,u182000,rfl,HA,HK1,HO_182000,BK176,BK181,HI0,HK,HB⟩:=hrel
  cases gk with
  | zero=>exact absurd HA.out (by simp [trustquorummake_Config.l0])
  | succ k1 =>
   have H:=HA.out
   clear HA
   simp only [trustquorummake_Config.l0] at H
   by_cases c9:x8_1 < t177
   ·rw [if_pos c9] at H
    have c9b0:decide (x8_1 < t177)=true:=decide_eq_true c9
    clear c9
    by_cases c10:t179=0
    ·rw [if_pos c10] at H
     have c10b0:(t179 == 0)=true:=beq_iff_eq.mpr c10
     have c10b1:(t179 != 0)=false:=bne_eq_false_iff_eq.mpr c10
     clear c10
     replace H:=Option.bind_eq_some_iff.mp H
     obtain ⟨⟨t183,t184,t187,t190⟩,A110,H⟩:=H
     try dsimp only at H
     have A11:=Z A110
     clear A110
     replace H:=Option.bind_eq_some_iff.mp H
     obtain ⟨⟨t191,t192⟩,A120,H⟩:=H
     try dsimp only at H
     have A12:=Z A120
     clear A120
     by_cases c13:t191=11
     ·rw [if_pos c13] at H
      have c13b0:(t191 == 11)=true:=beq_iff_eq.mpr c13
      have c13b1:(t191 != 11)=false:=bne_eq_false_iff_eq.mpr c13
      clear c13
      by_cases c14:x182000_1.length < 2199023255552
      ·rw [if_pos c14] at H
       have LMc14:=Z c14
       clear c14
       obtain ⟨y193,hy193⟩:∃ y_:List (S34),y_=(x182000_1++[(⟨false,(⟨0,([]:List Int),([]:List (S32))⟩:S32)⟩:S34)]):=⟨_,rfl⟩
       first|rw [← hy193] at H|(replace H:=(Option.bind_some _ _).symm.trans H;rw [← hy193] at H)
       have Ny193:=Z hy193
       clear hy193
       have H':=Z H
       clear H
       go_wp2_with (first|((with_reducible refine gate_dst (N:=9) rfl ?_);refine box_event ?hg (N:=9) ?hd (cs:=#[.int .i64 0,.slice none 0 0,.slice none 0 0]) (t:=32) ?hr ?_;(case hd=>rfl);(case hg=>rfl);(case hr=>first|(go_simp;done)|(go_simp;rfl));intro gb182 hg w15 hbox hb;have n0_:=Z (Kd.R_below (Kd.R_elderB (pR HO_182000) gb182 (Nat.le_of_eq hg.symm)) hb);have n1_:=Z (blk_below (g:=gb176) (o:=.cells #[.slice none 0 0] 27 (0,0)) (pK BK176) hb);have n2_:=Z (blk_below (g:=gb181) (o:=.cells #[u182000] 27 (0,0)) (pK BK181) hb);have n3_:=Z (IsS71.below pI hb);have n4_:=Z (KeepBut.trans pH (KeepBut.of_below hb g none) (.inl rfl));have n5_:=Z (below_step pB hb);have n6_:=Z (hbox);have n7_:=Z ((pS hg:w.heap.size≤gb182));have n8_:=Z ((Nat.le_trans HW0.out (pS hg:w.heap.size≤gb182):w0.heap.size≤gb182));have n9_:=Z ((pL hg (pK BK176):gb176 ≠ gb182));have n10_:=Z ((pM hg (pK BK176):gb182 ≠ gb176));have n11_:=Z ((pL hg (pK BK181):gb181 ≠ gb182));have n12_:=Z ((pM hg (pK BK181):gb182 ≠ gb181));have n13_:=Z ((pL71 hg (show IsS71 w0 _ g s0_0 x1001_1 from pI):g ≠ gb182));have n14_:=Z ((pM71 hg (show IsS71 w0 _ g s0_0 x1001_1 from pI):gb182 ≠ g));clear HO_182000;clear BK176;clear BK181;clear HI0;clear HK;clear HB;have HO_182000:=n0_;have BK176:=n1_;have BK181:=n2_;have HI0:=n3_;have HK:=n4_;have HB:=n5_;have BK182:=n6_;have GW182:=n7_;have GE182:=n8_;have NB176_182:=n9_;have NB182_176:=n10_;have NB181_182:=n11_;have NB182_181:=n12_;have NB0_182:=n13_;have NB182_0:=n14_;clear n0_ n1_ n2_ n3_ n4_ n5_ n6_ n7_ n8_ n9_ n10_ n11_ n12_ n13_ n14_;clear hb hbox hg)|((with_reducible refine gate_callee (f:=45) rfl ?_);refine goesL_ (some 29) rfl rfl Try.func45 (by kernel_rfl) rfl #[.pointer (some ⟨g,0,none⟩),.int .i64 t177,.int .i64 2] rfl pG ?_;(with_reducible refine (trustquorummake_Trust.calls k1 g s0_0 x1001_1 t177 2 t183 t184 t187 t190 w0 _ ?side1 ?side2 A11.out).mono ?_);(case side1=>exact pI);(case side2=>exact pB);rintro e w16 ⟨v185,v188,rfl,ho0,ho1,hi,hb,hk⟩;refine ⟨_,rfl,?_⟩;have n0_:=Z (Kd.R_mono (Kd.R_told (Kd.R_told (Kd.R_oldK (IsS71.apart (show IsS71 w0 _ g s0_0 x1001_1 from pI) (pR HO_182000) (by decide)) hk) (Kd.R_base ho0)) (Kd.R_base ho1)) (fun _ h_=>h_.1));have n1_:=Z (KeepBut.blk hk (g':=gb176) (o:=.cells #[.slice none 0 0] 27 (0,0)) (pK BK176) NB176_0.out (by simp));have n2_:=Z (KeepBut.blk hk (g':=gb181) (o:=.cells #[u182000] 27 (0,0)) (pK BK181) NB181_0.out (by simp));have n3_:=Z (KeepBut.blk hk (g':=gb182) (o:=.cells #[.int .i64 0,.slice none 0 0,.slice none 0 0] 32 (0,0)) (pK BK182) NB182_0.out (by simp));have n4_:=Z (Kd.R_lower ho0 (keep_size (w:=w) (g:=g) (row:=none) pH));have n5_:=Z (Kd.R_lower (Kd.R_newB ho1 (g:=gb182) (o:=.cells #[.int .i64 0,.slice none 0 0,.slice none 0 0] 32 (0,0)) (pK BK182)) (keep_size (w:=w) (g:=g) (row:=none) pH));have n6_:=Z (KeepBut.trans pH hk (.inl rfl));have n7_:=Z (hb);have n8_:=Z (hi);clear HO_182000;clear BK176;clear BK181;clear BK182;clear HK;clear HB;clear HI0;have HO_182000:=n0_;have BK176:=n1_;have BK181:=n2_;have BK182:=n3_;have HO186:=n4_;have HO189:=n5_;have HK:=n6_;have HB:=n7_;have HI0:=n8_;clear n0_ n1_ n2_ n3_ n4_ n5_ n6_ n7_ n8_;(try clear hb);(try clear hb2);(try clear hk);(try clear hi);(try clear ho0);(try clear ho1);have hnb17:=NB182_176.out;have hnc17:=NB176_182.out;have hnb18:=NB182_181.out;have hnc18:=NB181_182.out;have hnb19:=NB182_0.out;have hnc19:=NB0_182.out;have hcz20_0:w16.cell? ⟨gb182,0,none⟩=some (.int .i64 0):=(kC BK182.out 0).trans rfl;have hcz20_1:w16.cell? ⟨gb182,1,none⟩=some (.slice none 0 0):=(kC BK182.out 1).trans rfl;have hcz20_2:w16.cell? ⟨gb182,2,none⟩=some (.slice none 0 0):=(kC BK182.out 2).trans rfl;have hfz20_0:=kF BK182.out 0;have hfz20_1:=kF BK182.out 1;have hfz20_2:=kF BK182.out 2;obtain ⟨Ao21,co21,eo21⟩:=Kd.R_slice HO186.out;subst eo21;obtain ⟨Ao22,co22,eo22⟩:=Kd.R_slice HO189.out;subst eo22)|((with_reducible refine gate_callee (f:=16) rfl ?_);refine goesL_ (some 36) rfl rfl Try.func16 (by kernel_rfl) rfl #[.pointer (some ⟨g,0,none⟩),.int .i64 12] rfl pG ?_;(with_reducible refine (trustquorummake_Tape_N.calls g s0_0 t190 12 t191 t192 w0 _ ?side1 ?side2 A12.out).mono ?_);(case side1=>exact pI);(case side2=>exact pB);rintro e w23 ⟨rfl,hi,hb,hk⟩;refine ⟨_,rfl,?_⟩;have n0_:=Z (Kd.R_mono (Kd.R_keep (IsS71.apart (show IsS71 w0 _ g s0_0 t190 from pI) (by (with_reducible repeat (first|apply Kd.R_alloc|apply Kd.R_drewN|apply Kd.R_drew));exact (Kd.R_mono (Kd.R_far (p:=⟨gb182,2,none⟩) (Kd.R_far (p:=⟨gb182,1,none⟩) (Kd.R_far (p:=⟨gb182,0,none⟩) (Kd.R_mono HO_182000.out (fun k_ hk=>(⟨hk,hk.1.1.2⟩:_∧k_ ≠ gb182))) (fun _ hk=>hk.2) (.int .i64 t183)) (fun _ hk=>hk.2) (.slice Ao21 t184.length co21)) (fun _ hk=>hk.2) (.slice Ao22 t187.length co22)) (fun _ h_=>h_.1))) (by decide)) hk (fun _ h=>h.2)) (fun _ h=>h.1));have n1_:=Z (KeepBut.blk hk (g':=gb176) (o:=.cells #[.slice none 0 0] 27 (0,0)) (by (with_reducible repeat (first|refine kN ?_ _|refine kD ?_|refine kA ?_ _));refine blk_far ?_ NB176_182.out _;(with_reducible repeat (first|refine kN ?_ _|refine kD ?_|refine kA ?_ _));refine blk_far ?_ NB176_182.out _;(with_reducible repeat (first|refine kN ?_ _|refine kD ?_|refine kA ?_ _));refine blk_far ?_ NB176_182.out _;(with_reducible repeat (first|refine kN ?_ _|refine kD ?_|refine kA ?_ _));exact BK176.out) NB176_0.out (by simp));have n2_:=Z (KeepBut.blk hk (g':=gb181) (o:=.cells #[u182000] 27 (0,0)) (by (with_reducible repeat (first|refine kN ?_ _|refine kD ?_|refine kA ?_ _));refine blk_far ?_ NB181_182.out _;(with_reducible repeat (first|refine kN ?_ _|refine kD ?_|refine kA ?_ _));refine blk_far ?_ NB181_182.out _;(with_reducible repeat (first|refine kN ?_ _|refine kD ?_|refine kA ?_ _));refine blk_far ?_ NB181_182.out _;(with_reducible repeat (first|refine kN ?_ _|refine kD ?_|refine kA ?_ _));exact BK181.out) NB181_0.out (by simp));have n3_:=Z (KeepBut.blk hk (g':=gb182) (o:=.cells #[.int .i64 t183,.slice Ao21 t184.length co21,.slice Ao22 t187.length co22] 32 (0,0)) (by (with_reducible repeat (first|refine kN ?_ _|refine kD ?_|refine kA ?_ _));refine blk_put (cs:=#[.int .i64 t183,.slice Ao21 t184.length co21,.slice none 0 0]) ?_ 2 _ rfl;(with_reducible repeat (first|refine kN ?_ _|refine kD ?_|refine kA ?_ _));refine blk_put (cs:=#[.int .i64 t183,.slice none 0 0,.slice none 0 0]) ?_ 1 _ rfl;(with_reducible repeat (first|refine kN ?_ _|refine kD ?_|refine kA ?_ _));refine blk_put (cs:=#[.int .i64 0,.slice none 0 0,.slice none 0 0]) ?_ 0 _ rfl;(with_reducible repeat (first|refine kN ?_ _|refine kD ?_|refine kA ?_ _));exact BK182.out) NB182_0.out (by simp));have n4_:=Z (Kd.R_mono (Kd.R_keep (IsS71.apart (show IsS71 w0 _ g s0_0 t190 from pI) (by (with_reducible repeat (first|apply Kd.R_alloc|apply Kd.R_drewN|apply Kd.R_drew));exact (Kd.R_mono (Kd.R_far (p:=⟨gb182,2,none⟩) (Kd.R_far (p:=⟨gb182,1,none⟩) (Kd.R_far (p:=⟨gb182,0,none⟩) (Kd.R_types HO186.out BK182.out (by decide)) (fun _ hk=>hk.2) (.int .i64 t183)) (fun _ hk=>hk.2) (.slice Ao21 t184.length co21)) (fun _ hk=>hk.2) (.slice Ao22 t187.length co22)) (fun _ h_=>h_.1))) (by decide)) hk (fun _ h=>h.2)) (fun _ h=>h.1));have n5_:=Z (Kd.R_mono (Kd.R_keep (IsS71.apart (show IsS71 w0 _ g s0_0 t190 from pI) (by (with_reducible repeat (first|apply Kd.R_alloc|apply Kd.R_drewN|apply Kd.R_drew));exact (Kd.R_mono (Kd.R_far (p:=⟨gb182,2,none⟩) (Kd.R_far (p:=⟨gb182,1,none⟩) (Kd.R_far (p:=⟨gb182,0,none⟩) (Kd.R_mono HO189.out (fun k_ hk=>(⟨hk,hk.2⟩:_∧k_ ≠ gb182))) (fun _ hk=>hk.2) (.int .i64 t183)) (fun _ hk=>hk.2) (.slice Ao21 t184.length co21)) (fun _ hk=>hk.2) (.slice Ao22 t187.length co22)) (fun _ h_=>h_.1))) (by decide)) hk (fun _ h=>h.2)) (fun _ h=>h.1));have n6_:=Z (KeepBut.trans pH hk (.inl rfl));have n7_:=Z (hb);have n8_:=Z (hi);clear HO_182000;clear BK176;clear BK181;clear BK182;clear HO186;clear HO189;clear HK;clear HB;clear HI0;have HO_182000:=n0_;have BK176:=n1_;have BK181:=n2_;have BK182:=n3_;have HO186:=n4_;have HO189:=n5_;have HK:=n6_;have HB:=n7_;have HI0:=n8_;clear n0_ n1_ n2_ n3_ n4_ n5_ n6_ n7_ n8_;(try clear hb);(try clear hb2);(try clear hk);(try clear hi);have hnb24:=NB181_176.out;have hnc24:=NB176_181.out;have hnb25:=NB181_0.out;have hnc25:=NB0_181.out;have hcz26_0:w23.cell? ⟨gb181,0,none⟩=some (u182000):=(kC BK181.out 0).trans rfl;have hfz26_0:=kF BK181.out 0)|((with_reducible refine gate_builtin (b:=.append) (xs:=#[.tmp 39,.tmp 41]) rfl ?_);at_builtin;refine Kd.R_append k34 w.heap.size rfl (.tmp 39) (.tmp 41) 25 34 (.agg #[(.bool false),(.int .i64 0),(.slice none 0 0),(.slice none 0 0)]) 64 rfl Try.underlying25 info34 rfl (by decide) (by omega) u182000 x182000_1 (⟨false,(⟨0,([]:List Int),([]:List (S32))⟩:S32)⟩:S34) [.bool false,.int .i64 0,.slice none 0 0,.slice none 0 0] (fun k_=>some k_ ≠ (.slice Ao21 t184.length co21:Value).ownBlock∧some k_ ≠ (.slice Ao22 t187.length co22:Value).ownBlock∧k_ ≠ gb182) (fun k_=>((fun k_=>some k_ ≠ (.slice Ao21 t184.length co21:Value).ownBlock∧some k_ ≠ (.slice Ao22 t187.length co22:Value).ownBlock∧k_ ≠ gb182)) k_∧some k_ ≠ (u182000:Value).ownBlock) rfl rfl ?aP (fun _ hk=>hk) ?aF ?aO (Below.refl _ _) ?aS ?aL ?_;(case aP=>exact k34_mkM _ _ _ (⟨false,(⟨0,([]:List Int),([]:List (S32))⟩:S32)⟩:S34) (Kd.R_nil _ _ _ _ _) (Kd.R_nil _ _ _ _ _));(case aF=>exact (fun k_ hk=>⟨Kd.fresh' (Kd.R_lt (pR HO186)) k_ hk,Kd.fresh' (Kd.R_lt (pR HO189)) k_ hk,Kd.freshB (g:=gb182) (o:=.cells #[.int .i64 t183,.slice Ao21 t184.length co21,.slice Ao22 t187.length co22] 32 (0,0)) (pK BK182) k_ hk⟩));(case aO=>exact (by (with_reducible repeat (first|apply Kd.R_alloc|apply Kd.R_drewN|apply Kd.R_drew));exact Kd.R_mono HO_182000.out (fun _ hk=>⟨hk.1.2,⟨hk.2,hk.1.1.2⟩⟩)));(case aS=>exact (keep_size (w:=w) (g:=g) (row:=none) pH));(case aL=>have:=LMc14.out;omega);intro v194 w27 ho hb hg hat;rw [← Ny193.out] at ho;have n0_:=Z (blk_grown (g:=gb176) (o:=.cells #[.slice none 0 0] 27 (0,0)) (pK BK176) hg (Kd.R_ne HO_182000.out BK176.out (by decide)));have n1_:=Z (blk_grown (g:=gb181) (o:=.cells #[u182000] 27 (0,0)) (pK BK181) hg (Kd.R_ne HO_182000.out BK181.out (by decide)));have n2_:=Z (IsS71.grown pI hg (IsS71.own_ne HI0.out HO_182000.out (by decide)));have n3_:=Z (blk_grown (g:=gb182) (o:=.cells #[.int .i64 t183,.slice Ao21 t184.length co21,.slice Ao22 t187.length co22] 32 (0,0)) (pK BK182) hg (Kd.R_ne HO_182000.out BK182.out (by decide)));have n4_:=Z (Kd.R_over' (pR HO186) (Kd.R_typed (pR HO_182000)) (by decide) hg);have n5_:=Z (Kd.R_over' (pR HO189) (Kd.R_typed (pR HO_182000)) (by decide) hg);have n6_:=Z (below_weaken pB HL.out hb);have n7_:=Z (KeepBut.trans pH (KeepBut.of_grown hg g) (Kd.R_base2 HO_182000.out));have n8_:=Z (ho);clear BK176;clear BK181;clear HI0;clear BK182;clear HO186;clear HO189;clear HB;clear HK;clear HO_182000;have BK176:=n0_;have BK181:=n1_;have HI0:=n2_;have BK182:=n3_;have HO186:=n4_;have HO189:=n5_;have HB:=n6_;have HK:=n7_;have HO195:=n8_;clear n0_ n1_ n2_ n3_ n4_ n5_ n6_ n7_ n8_;clear ho hb hg hat;obtain ⟨Ao28,co28,eo28⟩:=Kd.R_slice HO195.out;subst eo28;have hcz29_0:w27.cell? ⟨gb181,0,none⟩=some (u182000):=(kC BK181.out 0).trans rfl;have hfz29_0:=kF BK181.out 0))
       go_roundg k1
       case measure=>have:=HK1.out;omega
       case rel=>exact ⟨(wrap64 (x8_1+1)),(t192),(y193),(.slice Ao28 y193.length co28),pE,H',⟨by have:=HK1.out;omega⟩,⟨by (with_reducible repeat (first|apply Kd.R_alloc|apply Kd.R_drewN|apply Kd.R_drew));exact Kd.R_mono (Kd.R_far (p:=⟨gb181,0,none⟩) (Kd.R_types HO195.out BK181.out (by decide)) (fun _ hk=>hk.2) (.slice Ao28 y193.length co28)) (fun _ hk=>trivial)⟩,⟨by (with_reducible repeat (first|refine kN ?_ _|refine kD ?_|refine kA ?_ _));refine blk_far ?_ NB176_181.out _;(with_reducible repeat (first|refine kN ?_ _|refine kD ?_|refine kA ?_ _));exact BK176.out⟩,⟨by (with_reducible repeat (first|refine kN ?_ _|refine kD ?_|refine kA ?_ _));refine blk_put (cs:=#[u182000]) ?_ 0 _ rfl;(with_reducible repeat (first|refine kN ?_ _|refine kD ?_|refine kA ?_ _));exact BK181.out⟩,⟨pI⟩,⟨pH⟩,⟨pB⟩⟩
      ·rw [if_neg c14] at H
       exact absurd H (by simp)
     ·rw [if_neg c13] at H
      have c13b0:(t191 == 11)=false:=beq_eq_false_iff_ne.mpr c13
      have c13b1:(t191 != 11)=true:=bne_iff_ne.mpr c13
      by_cases c30:x182000_1.length < 2199023255552
      ·rw [if_pos c30] at H
       have LMc30:=Z c30
       clear c30
       obtain ⟨y196,hy196⟩:∃ y_:List (S34),y_=(x182000_1++[(⟨true,(⟨t183,t184,t187⟩:S32)⟩:S34)]):=⟨_,rfl⟩
       first|rw [← hy196] at H|(replace H:=(Option.bind_some _ _).symm.trans H;rw [← hy196] at H)
       have Ny196:=Z hy196
       clear hy196
       have H':=Z H
       clear H
       go_wp2_with (first|((with_reducible refine gate_dst (N:=9) rfl ?_);refine box_event ?hg (N:=9) ?hd (cs:=#[.int .i64 0,.slice none 0 0,.slice none 0 0]) (t:=32) ?hr ?_;(case hd=>rfl);(case hg=>rfl);(case hr=>first|(go_simp;done)|(go_simp;rfl));intro gb182 hg w31 hbox hb;have n0_:=Z (Kd.R_below (Kd.R_elderB (pR HO_182000) gb182 (Nat.le_of_eq hg.symm)) hb);have n1_:=Z (blk_below (g:=gb176) (o:=.cells #[.slice none 0 0] 27 (0,0)) (pK BK176) hb);have n2_:=Z (blk_below (g:=gb181) (o:=.cells #[u182000] 27 (0,0)) (pK BK181) hb);have n3_:=Z (IsS71.below pI hb);have n4_:=Z (KeepBut.trans pH (KeepBut.of_below hb g none) (.inl rfl));have n5_:=Z (below_step pB hb);have n6_:=Z (hbox);have n7_:=Z ((pS hg:w.heap.size≤gb182));have n8_:=Z ((Nat.le_trans HW0.out (pS hg:w.heap.size≤gb182):w0.heap.size≤gb182));have n9_:=Z ((pL hg (pK BK176):gb176 ≠ gb182));have n10_:=Z ((pM hg (pK BK176):gb182 ≠ gb176));have n11_:=Z ((pL hg (pK BK181):gb181 ≠ gb182));have n12_:=Z ((pM hg (pK BK181):gb182 ≠ gb181));have n13_:=Z ((pL71 hg (show IsS71 w0 _ g s0_0 x1001_1 from pI):g ≠ gb182));have n14_:=Z ((pM71 hg (show IsS71 w0 _ g s0_0 x1001_1 from pI):gb182 ≠ g));clear HO_182000;clear BK176;clear BK181;clear HI0;clear HK;clear HB;have HO_182000:=n0_;have BK176:=n1_;have BK181:=n2_;have HI0:=n3_;have HK:=n4_;have HB:=n5_;have BK182:=n6_;have GW182:=n7_;have GE182:=n8_;have NB176_182:=n9_;have NB182_176:=n10_;have NB181_182:=n11_;have NB182_181:=n12_;have NB0_182:=n13_;have NB182_0:=n14_;clear n0_ n1_ n2_ n3_ n4_ n5_ n6_ n7_ n8_ n9_ n10_ n11_ n12_ n13_ n14_;clear hb hbox hg)|((with_reducible refine gate_callee (f:=45) rfl ?_);refine goesL_ (some 29) rfl rfl Try.func45 (by kernel_rfl) rfl #[.pointer (some ⟨g,0,none⟩),.int .i64 t177,.int .i64 2] rfl pG ?_;(with_reducible refine (trustquorummake_Trust.calls k1 g s0_0 x1001_1 t177 2 t183 t184 t187 t190 w0 _ ?side1 ?side2 A11.out).mono ?_);(case side1=>exact pI);(case side2=>exact pB);rintro e w32 ⟨v185,v188,rfl,ho0,ho1,hi,hb,hk⟩;refine ⟨_,rfl,?_⟩;have n0_:=Z (Kd.R_mono (Kd.R_told (Kd.R_told (Kd.R_oldK (IsS71.apart (show IsS71 w0 _ g s0_0 x1001_1 from pI) (pR HO_182000) (by decide)) hk) (Kd.R_base ho0)) (Kd.R_base ho1)) (fun _ h_=>h_.1));have n1_:=Z (KeepBut.blk hk (g':=gb176) (o:=.cells #[.slice none 0 0] 27 (0,0)) (pK BK176) NB176_0.out (by simp));have n2_:=Z (KeepBut.blk hk (g':=gb181) (o:=.cells #[u182000] 27 (0,0)) (pK BK181) NB181_0.out (by simp));have n3_:=Z (KeepBut.blk hk (g':=gb182) (o:=.cells #[.int .i64 0,.slice none 0 0,.slice none 0 0] 32 (0,0)) (pK BK182) NB182_0.out (by simp));have n4_:=Z (Kd.R_lower ho0 (keep_size (w:=w) (g:=g) (row:=none) pH));have n5_:=Z (Kd.R_lower (Kd.R_newB ho1 (g:=gb182) (o:=.cells #[.int .i64 0,.slice none 0 0,.slice none 0 0] 32 (0,0)) (pK BK182)) (keep_size (w:=w) (g:=g) (row:=none) pH));have n6_:=Z (KeepBut.trans pH hk (.inl rfl));have n7_:=Z (hb);have n8_:=Z (hi);clear HO_182000;clear BK176;clear BK181;clear BK182;clear HK;clear HB;clear HI0;have HO_182000:=n0_;have BK176:=n1_;have BK181:=n2_;have BK182:=n3_;have HO186:=n4_;have HO189:=n5_;have HK:=n6_;have HB:=n7_;have HI0:=n8_;clear n0_ n1_ n2_ n3_ n4_ n5_ n6_ n7_ n8_;(try clear hb);(try clear hb2);(try clear hk);(try clear hi);(try clear ho0);(try clear ho1);have hnb33:=NB182_176.out;have hnc33:=NB176_182.out;have hnb34:=NB182_181.out;have hnc34:=NB181_182.out;have hnb35:=NB182_0.out;have hnc35:=NB0_182.out;have hcz36_0:w32.cell? ⟨gb182,0,none⟩=some (.int .i64 0):=(kC BK182.out 0).trans rfl;have hcz36_1:w32.cell? ⟨gb182,1,none⟩=some (.slice none 0 0):=(kC BK182.out 1).trans rfl;have hcz36_2:w32.cell? ⟨gb182,2,none⟩=some (.slice none 0 0):=(kC BK182.out 2).trans rfl;have hfz36_0:=kF BK182.out 0;have hfz36_1:=kF BK182.out 1;have hfz36_2:=kF BK182.out 2;obtain ⟨Ao37,co37,eo37⟩:=Kd.R_slice HO186.out;subst eo37;obtain ⟨Ao38,co38,eo38⟩:=Kd.R_slice HO189.out;subst eo38)|((with_reducible refine gate_callee (f:=16) rfl ?_);refine goesL_ (some 36) rfl rfl Try.func16 (by kernel_rfl) rfl #[.pointer (some ⟨g,0,none⟩),.int .i64 12] rfl pG ?_;(with_reducible refine (trustquorummake_Tape_N.calls g s0_0 t190 12 t191 t192 w0 _ ?side1 ?side2 A12.out).mono ?_);(case side1=>exact pI);(case side2=>exact pB);rintro e w39 ⟨rfl,hi,hb,hk⟩;refine ⟨_,rfl,?_⟩;have n0_:=Z (Kd.R_mono (Kd.R_keep (IsS71.apart (show IsS71 w0 _ g s0_0 t190 from pI) (by (with_reducible repeat (first|apply Kd.R_alloc|apply Kd.R_drewN|apply Kd.R_drew));exact (Kd.R_mono (Kd.R_far (p:=⟨gb182,2,none⟩) (Kd.R_far (p:=⟨gb182,1,none⟩) (Kd.R_far (p:=⟨gb182,0,none⟩) (Kd.R_mono HO_182000.out (fun k_ hk=>(⟨hk,hk.1.1.2⟩:_∧k_ ≠ gb182))) (fun _ hk=>hk.2) (.int .i64 t183)) (fun _ hk=>hk.2) (.slice Ao37 t184.length co37)) (fun _ hk=>hk.2) (.slice Ao38 t187.length co38)) (fun _ h_=>h_.1))) (by decide)) hk (fun _ h=>h.2)) (fun _ h=>h.1));have n1_:=Z (KeepBut.blk hk (g':=gb176) (o:=.cells #[.slice none 0 0] 27 (0,0)) (by (with_reducible repeat (first|refine kN ?_ _|refine kD ?_|refine kA ?_ _));refine blk_far ?_ NB176_182.out _;(with_reducible repeat (first|refine kN ?_ _|refine kD ?_|refine kA ?_ _));refine blk_far ?_ NB176_182.out _;(with_reducible repeat (first|refine kN ?_ _|refine kD ?_|refine kA ?_ _));refine blk_far ?_ NB176_182.out _;(with_reducible repeat (first|refine kN ?_ _|refine kD ?_|refine kA ?_ _));exact BK176.out) NB176_0.out (by simp));have n2_:=Z (KeepBut.blk hk (g':=gb181) (o:=.cells #[u182000] 27 (0,0)) (by (with_reducible repeat (first|refine kN ?_ _|refine kD ?_|refine kA ?_ _));refine blk_far ?_ NB181_182.out _;(with_reducible repeat (first|refine kN ?_ _|refine kD ?_|refine kA ?_ _));refine blk_far ?_ NB181_182.out _;(with_reducible repeat (first|refine kN ?_ _|refine kD ?_|refine kA ?_ _));refine blk_far ?_ NB181_182.out _;(with_reducible repeat (first|refine kN ?_ _|refine kD ?_|refine kA ?_ _));exact BK181.out) NB181_0.out (by simp));have n3_:=Z (KeepBut.blk hk (g':=gb182) (o:=.cells #[.int .i64 t183,.slice Ao37 t184.length co37,.slice Ao38 t187.length co38] 32 (0,0)) (by (with_reducible repeat (first|refine kN ?_ _|refine kD ?_|refine kA ?_ _));refine blk_put (cs:=#[.int .i64 t183,.slice Ao37 t184.length co37,.slice none 0 0]) ?_ 2 _ rfl;(with_reducible repeat (first|refine kN ?_ _|refine kD ?_|refine kA ?_ _));refine blk_put (cs:=#[.int .i64 t183,.slice none 0 0,.slice none 0 0]) ?_ 1 _ rfl;(with_reducible repeat (first|refine kN ?_ _|refine kD ?_|refine kA ?_ _));refine blk_put (cs:=#[.int .i64 0,.slice none 0 0,.slice none 0 0]) ?_ 0 _ rfl;(with_reducible repeat (first|refine kN ?_ _|refine kD ?_|refine kA ?_ _));exact BK182.out) NB182_0.out (by simp));have n4_:=Z (Kd.R_mono (Kd.R_keep (IsS71.apart (show IsS71 w0 _ g s0_0 t190 from pI) (by (with_reducible repeat (first|apply Kd.R_alloc|apply Kd.R_drewN|apply Kd.R_drew));exact (Kd.R_mono (Kd.R_far (p:=⟨gb182,2,none⟩) (Kd.R_far (p:=⟨gb182,1,none⟩) (Kd.R_far (p:=⟨gb182,0,none⟩) (Kd.R_types HO186.out BK182.out (by decide)) (fun _ hk=>hk.2) (.int .i64 t183)) (fun _ hk=>hk.2) (.slice Ao37 t184.length co37)) (fun _ hk=>hk.2) (.slice Ao38 t187.length co38)) (fun _ h_=>h_.1))) (by decide)) hk (fun _ h=>h.2)) (fun _ h=>h.1));have n5_:=Z (Kd.R_mono (Kd.R_keep (IsS71.apart (show IsS71 w0 _ g s0_0 t190 from pI) (by (with_reducible repeat (first|apply Kd.R_alloc|apply Kd.R_drewN|apply Kd.R_drew));exact (Kd.R_mono (Kd.R_far (p:=⟨gb182,2,none⟩) (Kd.R_far (p:=⟨gb182,1,none⟩) (Kd.R_far (p:=⟨gb182,0,none⟩) (Kd.R_mono HO189.out (fun k_ hk=>(⟨hk,hk.2⟩:_∧k_ ≠ gb182))) (fun _ hk=>hk.2) (.int .i64 t183)) (fun _ hk=>hk.2) (.slice Ao37 t184.length co37)) (fun _ hk=>hk.2) (.slice Ao38 t187.length co38)) (fun _ h_=>h_.1))) (by decide)) hk (fun _ h=>h.2)) (fun _ h=>h.1));have n6_:=Z (KeepBut.trans pH hk (.inl rfl));have n7_:=Z (hb);have n8_:=Z (hi);clear HO_182000;clear BK176;clear BK181;clear BK182;clear HO186;clear HO189;clear HK;clear HB;clear HI0;have HO_182000:=n0_;have BK176:=n1_;have BK181:=n2_;have BK182:=n3_;have HO186:=n4_;have HO189:=n5_;have HK:=n6_;have HB:=n7_;have HI0:=n8_;clear n0_ n1_ n2_ n3_ n4_ n5_ n6_ n7_ n8_;(try clear hb);(try clear hb2);(try clear hk);(try clear hi);have hnb40:=NB181_176.out;have hnc40:=NB176_181.out;have hnb41:=NB181_0.out;have hnc41:=NB0_181.out;have hcz42_0:w39.cell? ⟨gb181,0,none⟩=some (u182000):=(kC BK181.out 0).trans rfl;have hfz42_0:=kF BK181.out 0;have hcz43_0:w39.cell? ⟨gb182,0,none⟩=some (.int .i64 t183):=(kC BK182.out 0).trans rfl;have hcz43_1:w39.cell? ⟨gb182,1,none⟩=some (.slice Ao37 t184.length co37):=(kC BK182.out 1).trans rfl;have hcz43_2:w39.cell? ⟨gb182,2,none⟩=some (.slice Ao38 t187.length co38):=(kC BK182.out 2).trans rfl;have hfz43_0:=kF BK182.out 0;have hfz43_1:=kF BK182.out 1;have hfz43_2:=kF BK182.out 2)|((with_reducible refine gate_builtin (b:=.append) (xs:=#[.tmp 45,.tmp 48]) rfl ?_);at_builtin;refine Kd.R_append k34 w.heap.size rfl (.tmp 45) (.tmp 48) 25 34 (.agg #[(.bool false),(.int .i64 0),(.slice none 0 0),(.slice none 0 0)]) 64 rfl Try.underlying25 info34 rfl (by decide) (by omega) u182000 x182000_1 (⟨true,(⟨t183,t184,t187⟩:S32)⟩:S34) [.bool true,.int .i64 t183,.slice Ao37 t184.length co37,.slice Ao38 t187.length co38] (fun k_=>k_ ≠ gb182) (fun k_=>((fun k_=>k_ ≠ gb182)) k_∧some k_ ≠ (u182000:Value).ownBlock) rfl rfl ?aP (fun _ hk=>hk) ?aF ?aO (Below.refl _ _) ?aS ?aL ?_;(case aP=>exact k34_mkM _ _ _ (⟨true,(⟨t183,t184,t187⟩:S32)⟩:S34) (Kd.R_mono (Kd.R_types (Kd.R_apart' (HO186.out) (Kd.R_typed HO_182000.out) (by decide)) BK182.out (by decide)) (fun k_ hk=>⟨hk.2,hk.1.2⟩)) (Kd.R_mono (Kd.R_apart' (HO189.out) (Kd.R_typed HO_182000.out) (by decide)) (fun k_ hk=>⟨hk.1.2,hk.2⟩)));(case aF=>exact (fun k_ hk=>Kd.freshB (g:=gb182) (o:=.cells #[.int .i64 t183,.slice Ao37 t184.length co37,.slice Ao38 t187.length co38] 32 (0,0)) (pK BK182) k_ hk));(case aO=>exact (by (with_reducible repeat (first|apply Kd.R_alloc|apply Kd.R_drewN|apply Kd.R_drew));exact Kd.R_mono HO_182000.out (fun _ hk=>hk.1.1.2)));(case aS=>exact (keep_size (w:=w) (g:=g) (row:=none) pH));(case aL=>have:=LMc30.out;omega);intro v197 w44 ho hb hg hat;rw [← Ny196.out] at ho;have n0_:=Z (blk_grown (g:=gb176) (o:=.cells #[.slice none 0 0] 27 (0,0)) (pK BK176) hg (Kd.R_ne HO_182000.out BK176.out (by decide)));have n1_:=Z (blk_grown (g:=gb181) (o:=.cells #[u182000] 27 (0,0)) (pK BK181) hg (Kd.R_ne HO_182000.out BK181.out (by decide)));have n2_:=Z (IsS71.grown pI hg (IsS71.own_ne HI0.out HO_182000.out (by decide)));have n3_:=Z (blk_grown (g:=gb182) (o:=.cells #[.int .i64 t183,.slice Ao37 t184.length co37,.slice Ao38 t187.length co38] 32 (0,0)) (pK BK182) hg (Kd.R_ne HO_182000.out BK182.out (by decide)));have n4_:=Z (below_weaken pB HL.out hb);have n5_:=Z (KeepBut.trans pH (KeepBut.of_grown hg g) (Kd.R_base2 HO_182000.out));have n6_:=Z (ho);clear BK176;clear BK181;clear HI0;clear BK182;clear HB;clear HK;clear HO_182000;clear HO186;clear HO189;have BK176:=n0_;have BK181:=n1_;have HI0:=n2_;have BK182:=n3_;have HB:=n4_;have HK:=n5_;have HO198:=n6_;clear n0_ n1_ n2_ n3_ n4_ n5_ n6_;clear ho hb hg hat;obtain ⟨Ao45,co45,eo45⟩:=Kd.R_slice HO198.out;subst eo45;have hcz46_0:w44.cell? ⟨gb181,0,none⟩=some (u182000):=(kC BK181.out 0).trans rfl;have hfz46_0:=kF BK181.out 0))
       go_roundg k1
       case measure=>have:=HK1.out;omega
       case rel=>exact ⟨(wrap64 (x8_1+1)),(t192),(y196),(.slice Ao45 y196.length co45),pE,H',⟨by have:=HK1.out;omega⟩,⟨by (with_reducible repeat (first|apply Kd.R_alloc|apply Kd.R_drewN|apply Kd.R_drew));exact Kd.R_mono (Kd.R_far (p:=⟨gb181,0,none⟩) (Kd.R_types HO198.out BK181.out (by decide)) (fun _ hk=>hk.2) (.slice Ao45 y196.length co45)) (fun _ hk=>trivial)⟩,⟨by (with_reducible repeat (first|refine kN ?_ _|refine kD ?_|refine kA ?_ _));refine blk_far ?_ NB176_181.out _;(with_reducible repeat (first|refine kN ?_ _|refine kD ?_|refine kA ?_ _));exact BK176.out⟩,⟨by (with_reducible repeat (first|refine kN ?_ _|refine kD ?_|refine kA ?_ _));refine blk_put (cs:=#[u182000]) ?_ 0 _ rfl;(with_reducible repeat (first|refine kN ?_ _|refine kD ?_|refine kA ?_ _));exact BK181.out⟩,⟨pI⟩,⟨pH⟩,⟨pB⟩⟩
      ·rw [if_neg c30] at H
       exact absurd H (by simp)
    ·rw [if_neg c10] at H
     have c10b0:(t179 == 0)=false:=beq_eq_false_iff_ne.mpr c10
     have c10b1:(t179 != 0)=true:=bne_iff_ne.mpr c10
     by_cases c47:t179=1
     ·rw [if_pos c47] at H
      have c47b0:(t179 == 1)=true:=beq_iff_eq.mpr c47
      have c47b1:(t179 != 1)=false:=bne_eq_false_iff_eq.mpr c47
      clear c47
      replace H:=Option.bind_eq_some_iff.mp H
      obtain ⟨⟨t199,t200,t203,t206⟩,A480,H⟩:=H
      try dsimp only at H
      have A48:=Z A480
      clear A480
      replace H:=Option.bind_eq_some_iff.mp H
      obtain ⟨⟨t207,t208⟩,A490,H⟩:=H
      try dsimp only at H
      have A49:=Z A490
      clear A490
      by_cases c50:t207=11
      ·rw [if_pos c50] at H
       have c50b0:(t207 == 11)=true:=beq_iff_eq.mpr c50
       have c50b1:(t207 != 11)=false:=bne_eq_false_iff_eq.mpr c50
       clear c50
       by_cases c51:x182000_1.length < 2199023255552
       ·rw [if_pos c51] at H
        have LMc51:=Z c51
        clear c51
        obtain ⟨y209,hy209⟩:∃ y_:List (S34),y_=(x182000_1++[(⟨false,(⟨0,([]:List Int),([]:List (S32))⟩:S32)⟩:S34)]):=⟨_,rfl⟩
        first|rw [← hy209] at H|(replace H:=(Option.bind_some _ _).symm.trans H;rw [← hy209] at H)
        have Ny209:=Z hy209
        clear hy209
        have H':=Z H
        clear H
        go_wp2_with (first|((with_reducible refine gate_dst (N:=9) rfl ?_);refine box_event ?hg (N:=9) ?hd (cs:=#[.int .i64 0,.slice none 0 0,.slice none 0 0]) (t:=32) ?hr ?_;(case hd=>rfl);(case hg=>rfl);(case hr=>first|(go_simp;done)|(go_simp;rfl));intro gb182 hg w52 hbox hb;have n0_:=Z (Kd.R_below (Kd.R_elderB (pR HO_182000) gb182 (Nat.le_of_eq hg.symm)) hb);have n1_:=Z (blk_below (g:=gb176) (o:=.cells #[.slice none 0 0] 27 (0,0)) (pK BK176) hb);have n2_:=Z (blk_below (g:=gb181) (o:=.cells #[u182000] 27 (0,0)) (pK BK181) hb);have n3_:=Z (IsS71.below pI hb);have n4_:=Z (KeepBut.trans pH (KeepBut.of_below hb g none) (.inl rfl));have n5_:=Z (below_step pB hb);have n6_:=Z (hbox);have n7_:=Z ((pS hg:w.heap.size≤gb182));have n8_:=Z ((Nat.le_trans HW0.out (pS hg:w.heap.size≤gb182):w0.heap.size≤gb182));have n9_:=Z ((pL hg (pK BK176):gb176 ≠ gb182));have n10_:=Z ((pM hg (pK BK176):gb182 ≠ gb176));have n11_:=Z ((pL hg (pK BK181):gb181 ≠ gb182));have n12_:=Z ((pM hg (pK BK181):gb182 ≠ gb181));have n13_:=Z ((pL71 hg (show IsS71 w0 _ g s0_0 x1001_1 from pI):g ≠ gb182));have n14_:=Z ((pM71 hg (show IsS71 w0 _ g s0_0 x1001_1 from pI):gb182 ≠ g));clear HO_182000;clear BK176;clear BK181;clear HI0;clear HK;clear HB;have HO_182000:=n0_;have BK176:=n1_;have BK181:=n2_;have HI0:=n3_;have HK:=n4_;have HB:=n5_;have BK182:=n6_;have GW182:=n7_;have GE182:=n8_;have NB176_182:=n9_;have NB182_176:=n10_;have NB181_182:=n11_;have NB182_181:=n12_;have NB0_182:=n13_;have NB182_0:=n14_;clear n0_ n1_ n2_ n3_ n4_ n5_ n6_ n7_ n8_ n9_ n10_ n11_ n12_ n13_ n14_;clear hb hbox hg)|((with_reducible refine gate_callee (f:=53) rfl ?_);refine goesL_ (some 34) rfl rfl Try.func53 (by kernel_rfl) rfl #[.pointer (some ⟨g,0,none⟩),.int .i64 t177] rfl pG ?_;(with_reducible refine (trustquorummake_most.calls k1 g s0_0 x1001_1 t177 t199 t200 t203 t206 w0 _ ?side1 ?side2 A48.out).mono ?_);(case side1=>exact pI);(case side2=>exact pB);rintro e w53 ⟨v201,v204,rfl,ho0,ho1,hi,hb,hk⟩;refine ⟨_,rfl,?_⟩;have n0_:=Z (Kd.R_mono (Kd.R_told (Kd.R_told (Kd.R_oldK (IsS71.apart (show IsS71 w0 _ g s0_0 x1001_1 from pI) (pR HO_182000) (by decide)) hk) (Kd.R_base ho0)) (Kd.R_base ho1)) (fun _ h_=>h_.1));have n1_:=Z (KeepBut.blk hk (g':=gb176) (o:=.cells #[.slice none 0 0] 27 (0,0)) (pK BK176) NB176_0.out (by simp));have n2_:=Z (KeepBut.blk hk (g':=gb181) (o:=.cells #[u182000] 27 (0,0)) (pK BK181) NB181_0.out (by simp));have n3_:=Z (KeepBut.blk hk (g':=gb182) (o:=.cells #[.int .i64 0,.slice none 0 0,.slice none 0 0] 32 (0,0)) (pK BK182) NB182_0.out (by simp));have n4_:=Z (Kd.R_lower ho0 (keep_size (w:=w) (g:=g) (row:=none) pH));have n5_:=Z (Kd.R_lower (Kd.R_newB ho1 (g:=gb182) (o:=.cells #[.int .i64 0,.slice none 0 0,.slice none 0 0] 32 (0,0)) (pK BK182)) (keep_size (w:=w) (g:=g) (row:=none) pH));have n6_:=Z (KeepBut.trans pH hk (.inl rfl));have n7_:=Z (hb);have n8_:=Z (hi);clear HO_182000;clear BK176;clear BK181;clear BK182;clear HK;clear HB;clear HI0;have HO_182000:=n0_;have BK176:=n1_;have BK181:=n2_;have BK182:=n3_;have HO202:=n4_;have HO205:=n5_;have HK:=n6_;have HB:=n7_;have HI0:=n8_;clear n0_ n1_ n2_ n3_ n4_ n5_ n6_ n7_ n8_;(try clear hb);(try clear hb2);(try clear hk);(try clear hi);(try clear ho0);(try clear ho1);have hnb54:=NB182_176.out;have hnc54:=NB176_182.out;have hnb55:=NB182_181.out;have hnc55:=NB181_182.out;have hnb56:=NB182_0.out;have hnc56:=NB0_182.out;have hcz57_0:w53.cell? ⟨gb182,0,none⟩=some (.int .i64 0):=(kC BK182.out 0).trans rfl;have hcz57_1:w53.cell? ⟨gb182,1,none⟩=some (.slice none 0 0):=(kC BK182.out 1).trans rfl;have hcz57_2:w53.cell? ⟨gb182,2,none⟩=some (.slice none 0 0):=(kC BK182.out 2).trans rfl;have hfz57_0:=kF BK182.out 0;have hfz57_1:=kF BK182.out 1;have hfz57_2:=kF BK182.out 2;obtain ⟨Ao58,co58,eo58⟩:=Kd.R_slice HO202.out;subst eo58;obtain ⟨Ao59,co59,eo59⟩:=Kd.R_slice HO205.out;subst eo59)|((with_reducible refine gate_callee (f:=16) rfl ?_);refine goesL_ (some 36) rfl rfl Try.func16 (by kernel_rfl) rfl #[.pointer (some ⟨g,0,none⟩),.int .i64 12] rfl pG ?_;(with_reducible refine (trustquorummake_Tape_N.calls g s0_0 t206 12 t207 t208 w0 _ ?side1 ?side2 A49.out).mono ?_);(case side1=>exact pI);(case side2=>exact pB);rintro e w60 ⟨rfl,hi,hb,hk⟩;refine ⟨_,rfl,?_⟩;have n0_:=Z (Kd.R_mono (Kd.R_keep (IsS71.apart (show IsS71 w0 _ g s0_0 t206 from pI) (by (with_reducible repeat (first|apply Kd.R_alloc|apply Kd.R_drewN|apply Kd.R_drew));exact (Kd.R_mono (Kd.R_far (p:=⟨gb182,2,none⟩) (Kd.R_far (p:=⟨gb182,1,none⟩) (Kd.R_far (p:=⟨gb182,0,none⟩) (Kd.R_mono HO_182000.out (fun k_ hk=>(⟨hk,hk.1.1.2⟩:_∧k_ ≠ gb182))) (fun _ hk=>hk.2) (.int .i64 t199)) (fun _ hk=>hk.2) (.slice Ao58 t200.length co58)) (fun _ hk=>hk.2) (.slice Ao59 t203.length co59)) (fun _ h_=>h_.1))) (by decide)) hk (fun _ h=>h.2)) (fun _ h=>h.1));have n1_:=Z (KeepBut.blk hk (g':=gb176) (o:=.cells #[.slice none 0 0] 27 (0,0)) (by (with_reducible repeat (first|refine kN ?_ _|refine kD ?_|refine kA ?_ _));refine blk_far ?_ NB176_182.out _;(with_reducible repeat (first|refine kN ?_ _|refine kD ?_|refine kA ?_ _));refine blk_far ?_ NB176_182.out _;(with_reducible repeat (first|refine kN ?_ _|refine kD ?_|refine kA ?_ _));refine blk_far ?_ NB176_182.out _;(with_reducible repeat (first|refine kN ?_ _|refine kD ?_|refine kA ?_ _));exact BK176.out) NB176_0.out (by simp));have n2_:=Z (KeepBut.blk hk (g':=gb181) (o:=.cells #[u182000] 27 (0,0)) (by (with_reducible repeat (first|refine kN ?_ _|refine kD ?_|refine kA ?_ _));refine blk_far ?_ NB181_182.out _;(with_reducible repeat (first|refine kN ?_ _|refine kD ?_|refine kA ?_ _));refine blk_far ?_ NB181_182.out _;(with_reducible repeat (first|refine kN ?_ _|refine kD ?_|refine kA ?_ _));refine blk_far ?_ NB181_182.out _;(with_reducible repeat (first|refine kN ?_ _|refine kD ?_|refine kA ?_ _));exact BK181.out) NB181_0.out (by simp));have n3_:=Z (KeepBut.blk hk (g':=gb182) (o:=.cells #[.int .i64 t199,.slice Ao58 t200.length co58,.slice Ao59 t203.length co59] 32 (0,0)) (by (with_reducible repeat (first|refine kN ?_ _|refine kD ?_|refine kA ?_ _));refine blk_put (cs:=#[.int .i64 t199,.slice Ao58 t200.length co58,.slice none 0 0]) ?_ 2 _ rfl;(with_reducible repeat (first|refine kN ?_ _|refine kD ?_|refine kA ?_ _));refine blk_put (cs:=#[.int .i64 t199,.slice none 0 0,.slice none 0 0]) ?_ 1 _ rfl;(with_reducible repeat (first|refine kN ?_ _|refine kD ?_|refine kA ?_ _));refine blk_put (cs:=#[.int .i64 0,.slice none 0 0,.slice none 0 0]) ?_ 0 _ rfl;(with_reducible repeat (first|refine kN ?_ _|refine kD ?_|refine kA ?_ _));exact BK182.out) NB182_0.out (by simp));have n4_:=Z (Kd.R_mono (Kd.R_keep (IsS71.apart (show IsS71 w0 _ g s0_0 t206 from pI) (by (with_reducible repeat (first|apply Kd.R_alloc|apply Kd.R_drewN|apply Kd.R_drew));exact (Kd.R_mono (Kd.R_far (p:=⟨gb182,2,none⟩) (Kd.R_far (p:=⟨gb182,1,none⟩) (Kd.R_far (p:=⟨gb182,0,none⟩) (Kd.R_types HO202.out BK182.out (by decide)) (fun _ hk=>hk.2) (.int .i64 t199)) (fun _ hk=>hk.2) (.slice Ao58 t200.length co58)) (fun _ hk=>hk.2) (.slice Ao59 t203.length co59)) (fun _ h_=>h_.1))) (by decide)) hk (fun _ h=>h.2)) (fun _ h=>h.1));have n5_:=Z (Kd.R_mono (Kd.R_keep (IsS71.apart (show IsS71 w0 _ g s0_0 t206 from pI) (by (with_reducible repeat (first|apply Kd.R_alloc|apply Kd.R_drewN|apply Kd.R_drew));exact (Kd.R_mono (Kd.R_far (p:=⟨gb182,2,none⟩) (Kd.R_far (p:=⟨gb182,1,none⟩) (Kd.R_far (p:=⟨gb182,0,none⟩) (Kd.R_mono HO205.out (fun k_ hk=>(⟨hk,hk.2⟩:_∧k_ ≠ gb182))) (fun _ hk=>hk.2) (.int .i64 t199)) (fun _ hk=>hk.2) (.slice Ao58 t200.length co58)) (fun _ hk=>hk.2) (.slice Ao59 t203.length co59)) (fun _ h_=>h_.1))) (by decide)) hk (fun _ h=>h.2)) (fun _ h=>h.1));have n6_:=Z (KeepBut.trans pH hk (.inl rfl));have n7_:=Z (hb);have n8_:=Z (hi);clear HO_182000;clear BK176;clear BK181;clear BK182;clear HO202;clear HO205;clear HK;clear HB;clear HI0;have HO_182000:=n0_;have BK176:=n1_;have BK181:=n2_;have BK182:=n3_;have HO202:=n4_;have HO205:=n5_;have HK:=n6_;have HB:=n7_;have HI0:=n8_;clear n0_ n1_ n2_ n3_ n4_ n5_ n6_ n7_ n8_;(try clear hb);(try clear hb2);(try clear hk);(try clear hi);have hnb61:=NB181_176.out;have hnc61:=NB176_181.out;have hnb62:=NB181_0.out;have hnc62:=NB0_181.out;have hcz63_0:w60.cell? ⟨gb181,0,none⟩=some (u182000):=(kC BK181.out 0).trans rfl;have hfz63_0:=kF BK181.out 0)|((with_reducible refine gate_builtin (b:=.append) (xs:=#[.tmp 39,.tmp 41]) rfl ?_);at_builtin;refine Kd.R_append k34 w.heap.size rfl (.tmp 39) (.tmp 41) 25 34 (.agg #[(.bool false),(.int .i64 0),(.slice none 0 0),(.slice none 0 0)]) 64 rfl Try.underlying25 info34 rfl (by decide) (by omega) u182000 x182000_1 (⟨false,(⟨0,([]:List Int),([]:List (S32))⟩:S32)⟩:S34) [.bool false,.int .i64 0,.slice none 0 0,.slice none 0 0] (fun k_=>some k_ ≠ (.slice Ao58 t200.length co58:Value).ownBlock∧some k_ ≠ (.slice Ao59 t203.length co59:Value).ownBlock∧k_ ≠ gb182) (fun k_=>((fun k_=>some k_ ≠ (.slice Ao58 t200.length co58:Value).ownBlock∧some k_ ≠ (.slice Ao59 t203.length co59:Value).ownBlock∧k_ ≠ gb182)) k_∧some k_ ≠ (u182000:Value).ownBlock) rfl rfl ?aP (fun _ hk=>hk) ?aF ?aO (Below.refl _ _) ?aS ?aL ?_;(case aP=>exact k34_mkM _ _ _ (⟨false,(⟨0,([]:List Int),([]:List (S32))⟩:S32)⟩:S34) (Kd.R_nil _ _ _ _ _) (Kd.R_nil _ _ _ _ _));(case aF=>exact (fun k_ hk=>⟨Kd.fresh' (Kd.R_lt (pR HO202)) k_ hk,Kd.fresh' (Kd.R_lt (pR HO205)) k_ hk,Kd.freshB (g:=gb182) (o:=.cells #[.int .i64 t199,.slice Ao58 t200.length co58,.slice Ao59 t203.length co59] 32 (0,0)) (pK BK182) k_ hk⟩));(case aO=>exact (by (with_reducible repeat (first|apply Kd.R_alloc|apply Kd.R_drewN|apply Kd.R_drew));exact Kd.R_mono HO_182000.out (fun _ hk=>⟨hk.1.2,⟨hk.2,hk.1.1.2⟩⟩)));(case aS=>exact (keep_size (w:=w) (g:=g) (row:=none) pH));(case aL=>have:=LMc51.out;omega);intro v210 w64 ho hb hg hat;rw [← Ny209.out] at ho;have n0_:=Z (blk_grown (g:=gb176) (o:=.cells #[.slice none 0 0] 27 (0,0)) (pK BK176) hg (Kd.R_ne HO_182000.out BK176.out (by decide)));have n1_:=Z (blk_grown (g:=gb181) (o:=.cells #[u182000] 27 (0,0)) (pK BK181) hg (Kd.R_ne HO_182000.out BK181.out (by decide)));have n2_:=Z (IsS71.grown pI hg (IsS71.own_ne HI0.out HO_182000.out (by decide)));have n3_:=Z (blk_grown (g:=gb182) (o:=.cells #[.int .i64 t199,.slice Ao58 t200.length co58,.slice Ao59 t203.length co59] 32 (0,0)) (pK BK182) hg (Kd.R_ne HO_182000.out BK182.out (by decide)));have n4_:=Z (Kd.R_over' (pR HO202) (Kd.R_typed (pR HO_182000)) (by decide) hg);have n5_:=Z (Kd.R_over' (pR HO205) (Kd.R_typed (pR HO_182000)) (by decide) hg);have n6_:=Z (below_weaken pB HL.out hb);have n7_:=Z (KeepBut.trans pH (KeepBut.of_grown hg g) (Kd.R_base2 HO_182000.out));have n8_:=Z (ho);clear BK176;clear BK181;clear HI0;clear BK182;clear HO202;clear HO205;clear HB;clear HK;clear HO_182000;have BK176:=n0_;have BK181:=n1_;have HI0:=n2_;have BK182:=n3_;have HO202:=n4_;have HO205:=n5_;have HB:=n6_;have HK:=n7_;have HO211:=n8_;clear n0_ n1_ n2_ n3_ n4_ n5_ n6_ n7_ n8_;clear ho hb hg hat;obtain ⟨Ao65,co65,eo65⟩:=Kd.R_slice HO211.out;subst eo65;have hcz66_0:w64.cell? ⟨gb181,0,none⟩=some (u182000):=(kC BK181.out 0).trans rfl;have hfz66_0:=kF BK181.out 0))
        go_roundg k1
        case measure=>have:=HK1.out;omega
        case rel=>exact ⟨(wrap64 (x8_1+1)),(t208),(y209),(.slice Ao65 y209.length co65),pE,H',⟨by have:=HK1.out;omega⟩,⟨by (with_reducible repeat (first|apply Kd.R_alloc|apply Kd.R_drewN|apply Kd.R_drew));exact Kd.R_mono (Kd.R_far (p:=⟨gb181,0,none⟩) (Kd.R_types HO211.out BK181.out (by decide)) (fun _ hk=>hk.2) (.slice Ao65 y209.length co65)) (fun _ hk=>trivial)⟩,⟨by (with_reducible repeat (first|refine kN ?_ _|refine kD ?_|refine kA ?_ _));refine blk_far ?_ NB176_181.out _;(with_reducible repeat (first|refine kN ?_ _|refine kD ?_|refine kA ?_ _));exact BK176.out⟩,⟨by (with_reducible repeat (first|refine kN ?_ _|refine kD ?_|refine kA ?_ _));refine blk_put (cs:=#[u182000]) ?_ 0 _ rfl;(with_reducible repeat (first|refine kN ?_ _|refine kD ?_|refine kA ?_ _));exact BK181.out⟩,⟨pI⟩,⟨pH⟩,⟨pB⟩⟩
       ·rw [if_neg c51] at H
        exact absurd H (by simp)
      ·rw [if_neg c50] at H
       have c50b0:(t207 == 11)=false:=beq_eq_false_iff_ne.mpr c50
       have c50b1:(t207 != 11)=true:=bne_iff_ne.mpr c50
       by_cases c67:x182000_1.length < 2199023255552
       ·rw [if_pos c67] at H
        have LMc67:=Z c67
        clear c67
        obtain ⟨y212,hy212⟩:∃ y_:List (S34),y_=(x182000_1++[(⟨true,(⟨t199,t200,t203⟩:S32)⟩:S34)]):=⟨_,rfl⟩
        first|rw [← hy212] at H|(replace H:=(Option.bind_some _ _).symm.trans H;rw [← hy212] at H)
        have Ny212:=Z hy212
        clear hy212
        have H':=Z H
        clear H
        go_wp2_with (first|((with_reducible refine gate_dst (N:=9) rfl ?_);refine box_event ?hg (N:=9) ?hd (cs:=#[.int .i64 0,.slice none 0 0,.slice none 0 0]) (t:=32) ?hr ?_;(case hd=>rfl);(case hg=>rfl);(case hr=>first|(go_simp;done)|(go_simp;rfl));intro gb182 hg w68 hbox hb;have n0_:=Z (Kd.R_below (Kd.R_elderB (pR HO_182000) gb182 (Nat.le_of_eq hg.symm)) hb);have n1_:=Z (blk_below (g:=gb176) (o:=.cells #[.slice none 0 0] 27 (0,0)) (pK BK176) hb);have n2_:=Z (blk_below (g:=gb181) (o:=.cells #[u182000] 27 (0,0)) (pK BK181) hb);have n3_:=Z (IsS71.below pI hb);have n4_:=Z (KeepBut.trans pH (KeepBut.of_below hb g none) (.inl rfl));have n5_:=Z (below_step pB hb);have n6_:=Z (hbox);have n7_:=Z ((pS hg:w.heap.size≤gb182));have n8_:=Z ((Nat.le_trans HW0.out (pS hg:w.heap.size≤gb182):w0.heap.size≤gb182));have n9_:=Z ((pL hg (pK BK176):gb176 ≠ gb182));have n10_:=Z ((pM hg (pK BK176):gb182 ≠ gb176));have n11_:=Z ((pL hg (pK BK181):gb181 ≠ gb182));have n12_:=Z ((pM hg (pK BK181):gb182 ≠ gb181));have n13_:=Z ((pL71 hg (show IsS71 w0 _ g s0_0 x1001_1 from pI):g ≠ gb182));have n14_:=Z ((pM71 hg (show IsS71 w0 _ g s0_0 x1001_1 from pI):gb182 ≠ g));clear HO_182000;clear BK176;clear BK181;clear HI0;clear HK;clear HB;have HO_182000:=n0_;have BK176:=n1_;have BK181:=n2_;have HI0:=n3_;have HK:=n4_;have HB:=n5_;have BK182:=n6_;have GW182:=n7_;have GE182:=n8_;have NB176_182:=n9_;have NB182_176:=n10_;have NB181_182:=n11_;have NB182_181:=n12_;have NB0_182:=n13_;have NB182_0:=n14_;clear n0_ n1_ n2_ n3_ n4_ n5_ n6_ n7_ n8_ n9_ n10_ n11_ n12_ n13_ n14_;clear hb hbox hg)|((with_reducible refine gate_callee (f:=53) rfl ?_);refine goesL_ (some 34) rfl rfl Try.func53 (by kernel_rfl) rfl #[.pointer (some ⟨g,0,none⟩),.int .i64 t177] rfl pG ?_;(with_reducible refine (trustquorummake_most.calls k1 g s0_0 x1001_1 t177 t199 t200 t203 t206 w0 _ ?side1 ?side2 A48.out).mono ?_);(case side1=>exact pI);(case side2=>exact pB);rintro e w69 ⟨v201,v204,rfl,ho0,ho1,hi,hb,hk⟩;refine ⟨_,rfl,?_⟩;have n0_:=Z (Kd.R_mono (Kd.R_told (Kd.R_told (Kd.R_oldK (IsS71.apart (show IsS71 w0 _ g s0_0 x1001_1 from pI) (pR HO_182000) (by decide)) hk) (Kd.R_base ho0)) (Kd.R_base ho1)) (fun _ h_=>h_.1));have n1_:=Z (KeepBut.blk hk (g':=gb176) (o:=.cells #[.slice none 0 0] 27 (0,0)) (pK BK176) NB176_0.out (by simp));have n2_:=Z (KeepBut.blk hk (g':=gb181) (o:=.cells #[u182000] 27 (0,0)) (pK BK181) NB181_0.out (by simp));have n3_:=Z (KeepBut.blk hk (g':=gb182) (o:=.cells #[.int .i64 0,.slice none 0 0,.slice none 0 0] 32 (0,0)) (pK BK182) NB182_0.out (by simp));have n4_:=Z (Kd.R_lower ho0 (keep_size (w:=w) (g:=g) (row:=none) pH));have n5_:=Z (Kd.R_lower (Kd.R_newB ho1 (g:=gb182) (o:=.cells #[.int .i64 0,.slice none 0 0,.slice none 0 0] 32 (0,0)) (pK BK182)) (keep_size (w:=w) (g:=g) (row:=none) pH));have n6_:=Z (KeepBut.trans pH hk (.inl rfl));have n7_:=Z (hb);have n8_:=Z (hi);clear HO_182000;clear BK176;clear BK181;clear BK182;clear HK;clear HB;clear HI0;have HO_182000:=n0_;have BK176:=n1_;have BK181:=n2_;have BK182:=n3_;have HO202:=n4_;have HO205:=n5_;have HK:=n6_;have HB:=n7_;have HI0:=n8_;clear n0_ n1_ n2_ n3_ n4_ n5_ n6_ n7_ n8_;(try clear hb);(try clear hb2);(try clear hk);(try clear hi);(try clear ho0);(try clear ho1);have hnb70:=NB182_176.out;have hnc70:=NB176_182.out;have hnb71:=NB182_181.out;have hnc71:=NB181_182.out;have hnb72:=NB182_0.out;have hnc72:=NB0_182.out;have hcz73_0:w69.cell? ⟨gb182,0,none⟩=some (.int .i64 0):=(kC BK182.out 0).trans rfl;have hcz73_1:w69.cell? ⟨gb182,1,none⟩=some (.slice none 0 0):=(kC BK182.out 1).trans rfl;have hcz73_2:w69.cell? ⟨gb182,2,none⟩=some (.slice none 0 0):=(kC BK182.out 2).trans rfl;have hfz73_0:=kF BK182.out 0;have hfz73_1:=kF BK182.out 1;have hfz73_2:=kF BK182.out 2;obtain ⟨Ao74,co74,eo74⟩:=Kd.R_slice HO202.out;subst eo74;obtain ⟨Ao75,co75,eo75⟩:=Kd.R_slice HO205.out;subst eo75)|((with_reducible refine gate_callee (f:=16) rfl ?_);refine goesL_ (some 36) rfl rfl Try.func16 (by kernel_rfl) rfl #[.pointer (some ⟨g,0,none⟩),.int .i64 12] rfl pG ?_;(with_reducible refine (trustquorummake_Tape_N.calls g s0_0 t206 12 t207 t208 w0 _ ?side1 ?side2 A49.out).mono ?_);(case side1=>exact pI);(case side2=>exact pB);rintro e w76 ⟨rfl,hi,hb,hk⟩;refine ⟨_,rfl,?_⟩;have n0_:=Z (Kd.R_mono (Kd.R_keep (IsS71.apart (show IsS71 w0 _ g s0_0 t206 from pI) (by (with_reducible repeat (first|apply Kd.R_alloc|apply Kd.R_drewN|apply Kd.R_drew));exact (Kd.R_mono (Kd.R_far (p:=⟨gb182,2,none⟩) (Kd.R_far (p:=⟨gb182,1,none⟩) (Kd.R_far (p:=⟨gb182,0,none⟩) (Kd.R_mono HO_182000.out (fun k_ hk=>(⟨hk,hk.1.1.2⟩:_∧k_ ≠ gb182))) (fun _ hk=>hk.2) (.int .i64 t199)) (fun _ hk=>hk.2) (.slice Ao74 t200.length co74)) (fun _ hk=>hk.2) (.slice Ao75 t203.length co75)) (fun _ h_=>h_.1))) (by decide)) hk (fun _ h=>h.2)) (fun _ h=>h.1));have n1_:=Z (KeepBut.blk hk (g':=gb176) (o:=.cells #[.slice none 0 0] 27 (0,0)) (by (with_reducible repeat (first|refine kN ?_ _|refine kD ?_|refine kA ?_ _));refine blk_far ?_ NB176_182.out _;(with_reducible repeat (first|refine kN ?_ _|refine kD ?_|refine kA ?_ _));refine blk_far ?_ NB176_182.out _;(with_reducible repeat (first|refine kN ?_ _|refine kD ?_|refine kA ?_ _));refine blk_far ?_ NB176_182.out _;(with_reducible repeat (first|refine kN ?_ _|refine kD ?_|refine kA ?_ _));exact BK176.out) NB176_0.out (by simp));have n2_:=Z (KeepBut.blk hk (g':=gb181) (o:=.cells #[u182000] 27 (0,0)) (by (with_reducible repeat (first|refine kN ?_ _|refine kD ?_|refine kA ?_ _));refine blk_far ?_ NB181_182.out _;(with_reducible repeat (first|refine kN ?_ _|refine kD ?_|refine kA ?_ _));refine blk_far ?_ NB181_182.out _;(with_reducible repeat (first|refine kN ?_ _|refine kD ?_|refine kA ?_ _));refine blk_far ?_ NB181_182.out _;(with_reducible repeat (first|refine kN ?_ _|refine kD ?_|refine kA ?_ _));exact BK181.out) NB181_0.out (by simp));have n3_:=Z (KeepBut.blk hk (g':=gb182) (o:=.cells #[.int .i64 t199,.slice Ao74 t200.length co74,.slice Ao75 t203.length co75] 32 (0,0)) (by (with_reducible repeat (first|refine kN ?_ _|refine kD ?_|refine kA ?_ _));refine blk_put (cs:=#[.int .i64 t199,.slice Ao74 t200.length co74,.slice none 0 0]) ?_ 2 _ rfl;(with_reducible repeat (first|refine kN ?_ _|refine kD ?_|refine kA ?_ _));refine blk_put (cs:=#[.int .i64 t199,.slice none 0 0,.slice none 0 0]) ?_ 1 _ rfl;(with_reducible repeat (first|refine kN ?_ _|refine kD ?_|refine kA ?_ _));refine blk_put (cs:=#[.int .i64 0,.slice none 0 0,.slice none 0 0]) ?_ 0 _ rfl;(with_reducible repeat (first|refine kN ?_ _|refine kD ?_|refine kA ?_ _));exact BK182.out) NB182_0.out (by simp));have n4_:=Z (Kd.R_mono (Kd.R_keep (IsS71.apart (show IsS71 w0 _ g s0_0 t206 from pI) (by (with_reducible repeat (first|apply Kd.R_alloc|apply Kd.R_drewN|apply Kd.R_drew));exact (Kd.R_mono (Kd.R_far (p:=⟨gb182,2,none⟩) (Kd.R_far (p:=⟨gb182,1,none⟩) (Kd.R_far (p:=⟨gb182,0,none⟩) (Kd.R_types HO202.out BK182.out (by decide)) (fun _ hk=>hk.2) (.int .i64 t199)) (fun _ hk=>hk.2) (.slice Ao74 t200.length co74)) (fun _ hk=>hk.2) (.slice Ao75 t203.length co75)) (fun _ h_=>h_.1))) (by decide)) hk (fun _ h=>h.2)) (fun _ h=>h.1));have n5_:=Z (Kd.R_mono (Kd.R_keep (IsS71.apart (show IsS71 w0 _ g s0_0 t206 from pI) (by (with_reducible repeat (first|apply Kd.R_alloc|apply Kd.R_drewN|apply Kd.R_drew));exact (Kd.R_mono (Kd.R_far (p:=⟨gb182,2,none⟩) (Kd.R_far (p:=⟨gb182,1,none⟩) (Kd.R_far (p:=⟨gb182,0,none⟩) (Kd.R_mono HO205.out (fun k_ hk=>(⟨hk,hk.2⟩:_∧k_ ≠ gb182))) (fun _ hk=>hk.2) (.int .i64 t199)) (fun _ hk=>hk.2) (.slice Ao74 t200.length co74)) (fun _ hk=>hk.2) (.slice Ao75 t203.length co75)) (fun _ h_=>h_.1))) (by decide)) hk (fun _ h=>h.2)) (fun _ h=>h.1));have n6_:=Z (KeepBut.trans pH hk (.inl rfl));have n7_:=Z (hb);have n8_:=Z (hi);clear HO_182000;clear BK176;clear BK181;clear BK182;clear HO202;clear HO205;clear HK;clear HB;clear HI0;have HO_182000:=n0_;have BK176:=n1_;have BK181:=n2_;have BK182:=n3_;have HO202:=n4_;have HO205:=n5_;have HK:=n6_;have HB:=n7_;have HI0:=n8_;clear n0_ n1_ n2_ n3_ n4_ n5_ n6_ n7_ n8_;(try clear hb);(try clear hb2);(try clear hk);(try clear hi);have hnb77:=NB181_176.out;have hnc77:=NB176_181.out;have hnb78:=NB181_0.out;have hnc78:=NB0_181.out;have hcz79_0:w76.cell? ⟨gb181,0,none⟩=some (u182000):=(kC BK181.out 0).trans rfl;have hfz79_0:=kF BK181.out 0;have hcz80_0:w76.cell? ⟨gb182,0,none⟩=some (.int .i64 t199):=(kC BK182.out 0).trans rfl;have hcz80_1:w76.cell? ⟨gb182,1,none⟩=some (.slice Ao74 t200.length co74):=(kC BK182.out 1).trans rfl;have hcz80_2:w76.cell? ⟨gb182,2,none⟩=some (.slice Ao75 t203.length co75):=(kC BK182.out 2).trans rfl;have hfz80_0:=kF BK182.out 0;have hfz80_1:=kF BK182.out 1;have hfz80_2:=kF BK182.out 2)|((with_reducible refine gate_builtin (b:=.append) (xs:=#[.tmp 45,.tmp 48]) rfl ?_);at_builtin;refine Kd.R_append k34 w.heap.size rfl (.tmp 45) (.tmp 48) 25 34 (.agg #[(.bool false),(.int .i64 0),(.slice none 0 0),(.slice none 0 0)]) 64 rfl Try.underlying25 info34 rfl (by decide) (by omega) u182000 x182000_1 (⟨true,(⟨t199,t200,t203⟩:S32)⟩:S34) [.bool true,.int .i64 t199,.slice Ao74 t200.length co74,.slice Ao75 t203.length co75] (fun k_=>k_ ≠ gb182) (fun k_=>((fun k_=>k_ ≠ gb182)) k_∧some k_ ≠ (u182000:Value).ownBlock) rfl rfl ?aP (fun _ hk=>hk) ?aF ?aO (Below.refl _ _) ?aS ?aL ?_;(case aP=>exact k34_mkM _ _ _ (⟨true,(⟨t199,t200,t203⟩:S32)⟩:S34) (Kd.R_mono (Kd.R_types (Kd.R_apart' (HO202.out) (Kd.R_typed HO_182000.out) (by decide)) BK182.out (by decide)) (fun k_ hk=>⟨hk.2,hk.1.2⟩)) (Kd.R_mono (Kd.R_apart' (HO205.out) (Kd.R_typed HO_182000.out) (by decide)) (fun k_ hk=>⟨hk.1.2,hk.2⟩)));(case aF=>exact (fun k_ hk=>Kd.freshB (g:=gb182) (o:=.cells #[.int .i64 t199,.slice Ao74 t200.length co74,.slice Ao75 t203.length co75] 32 (0,0)) (pK BK182) k_ hk));(case aO=>exact (by (with_reducible repeat (first|apply Kd.R_alloc|apply Kd.R_drewN|apply Kd.R_drew));exact Kd.R_mono HO_182000.out (fun _ hk=>hk.1.1.2)));(case aS=>exact (keep_size (w:=w) (g:=g) (row:=none) pH));(case aL=>have:=LMc67.out;omega);intro v213 w81 ho hb hg hat;rw [← Ny212.out] at ho;have n0_:=Z (blk_grown (g:=gb176) (o:=.cells #[.slice none 0 0] 27 (0,0)) (pK BK176) hg (Kd.R_ne HO_182000.out BK176.out (by decide)));have n1_:=Z (blk_grown (g:=gb181) (o:=.cells #[u182000] 27 (0,0)) (pK BK181) hg (Kd.R_ne HO_182000.out BK181.out (by decide)));have n2_:=Z (IsS71.grown pI hg (IsS71.own_ne HI0.out HO_182000.out (by decide)));have n3_:=Z (blk_grown (g:=gb182) (o:=.cells #[.int .i64 t199,.slice Ao74 t200.length co74,.slice Ao75 t203.length co75] 32 (0,0)) (pK BK182) hg (Kd.R_ne HO_182000.out BK182.out (by decide)));have n4_:=Z (below_weaken pB HL.out hb);have n5_:=Z (KeepBut.trans pH (KeepBut.of_grown hg g) (Kd.R_base2 HO_182000.out));have n6_:=Z (ho);clear BK176;clear BK181;clear HI0;clear BK182;clear HB;clear HK;clear HO_182000;clear HO202;clear HO205;have BK176:=n0_;have BK181:=n1_;have HI0:=n2_;have BK182:=n3_;have HB:=n4_;have HK:=n5_;have HO214:=n6_;clear n0_ n1_ n2_ n3_ n4_ n5_ n6_;clear ho hb hg hat;obtain ⟨Ao82,co82,eo82⟩:=Kd.R_slice HO214.out;subst eo82;have hcz83_0:w81.cell? ⟨gb181,0,none⟩=some (u182000):=(kC BK181.out 0).trans rfl;have hfz83_0:=kF BK181.out 0))
        go_roundg k1
        case measure=>have:=HK1.out;omega
        case rel=>exact ⟨(wrap64 (x8_1+1)),(t208),(y212),(.slice Ao82 y212.length co82),pE,H',⟨by have:=HK1.out;omega⟩,⟨by (with_reducible repeat (first|apply Kd.R_alloc|apply Kd.R_drewN|apply Kd.R_drew));exact Kd.R_mono (Kd.R_far (p:=⟨gb181,0,none⟩) (Kd.R_types HO214.out BK181.out (by decide)) (fun _ hk=>hk.2) (.slice Ao82 y212.length co82)) (fun _ hk=>trivial)⟩,⟨by (with_reducible repeat (first|refine kN ?_ _|refine kD ?_|refine kA ?_ _));refine blk_far ?_ NB176_181.out _;(with_reducible repeat (first|refine kN ?_ _|refine kD ?_|refine kA ?_ _));exact BK176.out⟩,⟨by (with_reducible repeat (first|refine kN ?_ _|refine kD ?_|refine kA ?_ _));refine blk_put (cs:=#[u182000]) ?_ 0 _ rfl;(with_reducible repeat (first|refine kN ?_ _|refine kD ?_|refine kA ?_ _));exact BK181.out⟩,⟨pI⟩,⟨pH⟩,⟨pB⟩⟩
       ·rw [if_neg c67] at H
        exact absurd H (by simp)
     ·rw [if_neg c47] at H
      have c47b0:(t179 == 1)=false:=beq_eq_false_iff_ne.mpr c47
      have c47b1:(t179 != 1)=true:=bne_iff_ne.mpr c47
      replace H:=Option.bind_eq_some_iff.mp H
      obtain ⟨⟨t215,t216,t219,t222⟩,A840,H⟩:=H
      try dsimp only at H
      have A84:=Z A840
      clear A840
      replace H:=Option.bind_eq_some_iff.mp H
      obtain ⟨⟨t223,t224⟩,A850,H⟩:=H
      try dsimp only at H
      have A85:=Z A850
      clear A850
      by_cases c86:t223=11
      ·rw [if_pos c86] at H
       have c86b0:(t223 == 11)=true:=beq_iff_eq.mpr c86
       have c86b1:(t223 != 11)=false:=bne_eq_false_iff_eq.mpr c86
       clear c86
       by_cases c87:x182000_1.length < 2199023255552
       ·rw [if_pos c87] at H
        have LMc87:=Z c87
        clear c87
        obtain ⟨y225,hy225⟩:∃ y_:List (S34),y_=(x182000_1++[(⟨false,(⟨0,([]:List Int),([]:List (S32))⟩:S32)⟩:S34)]):=⟨_,rfl⟩
        first|rw [← hy225] at H|(replace H:=(Option.bind_some _ _).symm.trans H;rw [← hy225] at H)
        have Ny225:=Z hy225
        clear hy225
        have H':=Z H
        clear H
        go_wp2_with (first|((with_reducible refine gate_dst (N:=9) rfl ?_);refine box_event ?hg (N:=9) ?hd (cs:=#[.int .i64 0,.slice none 0 0,.slice none 0 0]) (t:=32) ?hr ?_;(case hd=>rfl);(case hg=>rfl);(case hr=>first|(go_simp;done)|(go_simp;rfl));intro gb182 hg w88 hbox hb;have n0_:=Z (Kd.R_below (Kd.R_elderB (pR HO_182000) gb182 (Nat.le_of_eq hg.symm)) hb);have n1_:=Z (blk_below (g:=gb176) (o:=.cells #[.slice none 0 0] 27 (0,0)) (pK BK176) hb);have n2_:=Z (blk_below (g:=gb181) (o:=.cells #[u182000] 27 (0,0)) (pK BK181) hb);have n3_:=Z (IsS71.below pI hb);have n4_:=Z (KeepBut.trans pH (KeepBut.of_below hb g none) (.inl rfl));have n5_:=Z (below_step pB hb);have n6_:=Z (hbox);have n7_:=Z ((pS hg:w.heap.size≤gb182));have n8_:=Z ((Nat.le_trans HW0.out (pS hg:w.heap.size≤gb182):w0.heap.size≤gb182));have n9_:=Z ((pL hg (pK BK176):gb176 ≠ gb182));have n10_:=Z ((pM hg (pK BK176):gb182 ≠ gb176));have n11_:=Z ((pL hg (pK BK181):gb181 ≠ gb182));have n12_:=Z ((pM hg (pK BK181):gb182 ≠ gb181));have n13_:=Z ((pL71 hg (show IsS71 w0 _ g s0_0 x1001_1 from pI):g ≠ gb182));have n14_:=Z ((pM71 hg (show IsS71 w0 _ g s0_0 x1001_1 from pI):gb182 ≠ g));clear HO_182000;clear BK176;clear BK181;clear HI0;clear HK;clear HB;have HO_182000:=n0_;have BK176:=n1_;have BK181:=n2_;have HI0:=n3_;have HK:=n4_;have HB:=n5_;have BK182:=n6_;have GW182:=n7_;have GE182:=n8_;have NB176_182:=n9_;have NB182_176:=n10_;have NB181_182:=n11_;have NB182_181:=n12_;have NB0_182:=n13_;have NB182_0:=n14_;clear n0_ n1_ n2_ n3_ n4_ n5_ n6_ n7_ n8_ n9_ n10_ n11_ n12_ n13_ n14_;clear hb hbox hg)|((with_reducible refine gate_callee (f:=54) rfl ?_);refine goesL_ (some 24) rfl rfl Try.func54 (by kernel_rfl) rfl #[.pointer (some ⟨g,0,none⟩),.int .i64 t177,.int .i64 x8_1] rfl pG ?_;(with_reducible refine (trustquorummake_group.calls k1 g s0_0 x1001_1 t177 x8_1 t215 t216 t219 t222 w0 _ ?side1 ?side2 A84.out).mono ?_);(case side1=>exact pI);(case side2=>exact pB);rintro e w89 ⟨v217,v220,rfl,ho0,ho1,hi,hb,hk⟩;refine ⟨_,rfl,?_⟩;have n0_:=Z (Kd.R_mono (Kd.R_told (Kd.R_told (Kd.R_oldK (IsS71.apart (show IsS71 w0 _ g s0_0 x1001_1 from pI) (pR HO_182000) (by decide)) hk) (Kd.R_base ho0)) (Kd.R_base ho1)) (fun _ h_=>h_.1));have n1_:=Z (KeepBut.blk hk (g':=gb176) (o:=.cells #[.slice none 0 0] 27 (0,0)) (pK BK176) NB176_0.out (by simp));have n2_:=Z (KeepBut.blk hk (g':=gb181) (o:=.cells #[u182000] 27 (0,0)) (pK BK181) NB181_0.out (by simp));have n3_:=Z (KeepBut.blk hk (g':=gb182) (o:=.cells #[.int .i64 0,.slice none 0 0,.slice none 0 0] 32 (0,0)) (pK BK182) NB182_0.out (by simp));have n4_:=Z (Kd.R_lower ho0 (keep_size (w:=w) (g:=g) (row:=none) pH));have n5_:=Z (Kd.R_lower (Kd.R_newB ho1 (g:=gb182) (o:=.cells #[.int .i64 0,.slice none 0 0,.slice none 0 0] 32 (0,0)) (pK BK182)) (keep_size (w:=w) (g:=g) (row:=none) pH));have n6_:=Z (KeepBut.trans pH hk (.inl rfl));have n7_:=Z (hb);have n8_:=Z (hi);clear HO_182000;clear BK176;clear BK181;clear BK182;clear HK;clear HB;clear HI0;have HO_182000:=n0_;have BK176:=n1_;have BK181:=n2_;have BK182:=n3_;have HO218:=n4_;have HO221:=n5_;have HK:=n6_;have HB:=n7_;have HI0:=n8_;clear n0_ n1_ n2_ n3_ n4_ n5_ n6_ n7_ n8_;(try clear hb);(try clear hb2);(try clear hk);(try clear hi);(try clear ho0);(try clear ho1);have hnb90:=NB182_176.out;have hnc90:=NB176_182.out;have hnb91:=NB182_181.out;have hnc91:=NB181_182.out;have hnb92:=NB182_0.out;have hnc92:=NB0_182.out;have hcz93_0:w89.cell? ⟨gb182,0,none⟩=some (.int .i64 0):=(kC BK182.out 0).trans rfl;have hcz93_1:w89.cell? ⟨gb182,1,none⟩=some (.slice none 0 0):=(kC BK182.out 1).trans rfl;have hcz93_2:w89.cell? ⟨gb182,2,none⟩=some (.slice none 0 0):=(kC BK182.out 2).trans rfl;have hfz93_0:=kF BK182.out 0;have hfz93_1:=kF BK182.out 1;have hfz93_2:=kF BK182.out 2;obtain ⟨Ao94,co94,eo94⟩:=Kd.R_slice HO218.out;subst eo94;obtain ⟨Ao95,co95,eo95⟩:=Kd.R_slice HO221.out;subst eo95)|((with_reducible refine gate_callee (f:=16) rfl ?_);refine goesL_ (some 36) rfl rfl Try.func16 (by kernel_rfl) rfl #[.pointer (some ⟨g,0,none⟩),.int .i64 12] rfl pG ?_;(with_reducible refine (trustquorummake_Tape_N.calls g s0_0 t222 12 t223 t224 w0 _ ?side1 ?side2 A85.out).mono ?_);(case side1=>exact pI);(case side2=>exact pB);rintro e w96 ⟨rfl,hi,hb,hk⟩;refine ⟨_,rfl,?_⟩;have n0_:=Z (Kd.R_mono (Kd.R_keep (IsS71.apart (show IsS71 w0 _ g s0_0 t222 from pI) (by (with_reducible repeat (first|apply Kd.R_alloc|apply Kd.R_drewN|apply Kd.R_drew));exact (Kd.R_mono (Kd.R_far (p:=⟨gb182,2,none⟩) (Kd.R_far (p:=⟨gb182,1,none⟩) (Kd.R_far (p:=⟨gb182,0,none⟩) (Kd.R_mono HO_182000.out (fun k_ hk=>(⟨hk,hk.1.1.2⟩:_∧k_ ≠ gb182))) (fun _ hk=>hk.2) (.int .i64 t215)) (fun _ hk=>hk.2) (.slice Ao94 t216.length co94)) (fun _ hk=>hk.2) (.slice Ao95 t219.length co95)) (fun _ h_=>h_.1))) (by decide)) hk (fun _ h=>h.2)) (fun _ h=>h.1));have n1_:=Z (KeepBut.blk hk (g':=gb176) (o:=.cells #[.slice none 0 0] 27 (0,0)) (by (with_reducible repeat (first|refine kN ?_ _|refine kD ?_|refine kA ?_ _));refine blk_far ?_ NB176_182.out _;(with_reducible repeat (first|refine kN ?_ _|refine kD ?_|refine kA ?_ _));refine blk_far ?_ NB176_182.out _;(with_reducible repeat (first|refine kN ?_ _|refine kD ?_|refine kA ?_ _));refine blk_far ?_ NB176_182.out _;(with_reducible repeat (first|refine kN ?_ _|refine kD ?_|refine kA ?_ _));exact BK176.out) NB176_0.out (by simp));have n2_:=Z (KeepBut.blk hk (g':=gb181) (o:=.cells #[u182000] 27 (0,0)) (by (with_reducible repeat (first|refine kN ?_ _|refine kD ?_|refine kA ?_ _));refine blk_far ?_ NB181_182.out _;(with_reducible repeat (first|refine kN ?_ _|refine kD ?_|refine kA ?_ _));refine blk_far ?_ NB181_182.out _;(with_reducible repeat (first|refine kN ?_ _|refine kD ?_|refine kA ?_ _));refine blk_far ?_ NB181_182.out _;(with_reducible repeat (first|refine kN ?_ _|refine kD ?_|refine kA ?_ _));exact BK181.out) NB181_0.out (by simp));have n3_:=Z (KeepBut.blk hk (g':=gb182) (o:=.cells #[.int .i64 t215,.slice Ao94 t216.length co94,.slice Ao95 t219.length co95] 32 (0,0)) (by (with_reducible repeat (first|refine kN ?_ _|refine kD ?_|refine kA ?_ _));refine blk_put (cs:=#[.int .i64 t215,.slice Ao94 t216.length co94,.slice none 0 0]) ?_ 2 _ rfl;(with_reducible repeat (first|refine kN ?_ _|refine kD ?_|refine kA ?_ _));refine blk_put (cs:=#[.int .i64 t215,.slice none 0 0,.slice none 0 0]) ?_ 1 _ rfl;(with_reducible repeat (first|refine kN ?_ _|refine kD ?_|refine kA ?_ _));refine blk_put (cs:=#[.int .i64 0,.slice none 0 0,.slice none 0 0]) ?_ 0 _ rfl;(with_reducible repeat (first|refine kN ?_ _|refine kD ?_|refine kA ?_ _));exact BK182.out) NB182_0.out (by simp));have n4_:=Z (Kd.R_mono (Kd.R_keep (IsS71.apart (show IsS71 w0 _ g s0_0 t222 from pI) (by (with_reducible repeat (first|apply Kd.R_alloc|apply Kd.R_drewN|apply Kd.R_drew));exact (Kd.R_mono (Kd.R_far (p:=⟨gb182,2,none⟩) (Kd.R_far (p:=⟨gb182,1,none⟩) (Kd.R_far (p:=⟨gb182,0,none⟩) (Kd.R_types HO218.out BK182.out (by decide)) (fun _ hk=>hk.2) (.int .i64 t215)) (fun _ hk=>hk.2) (.slice Ao94 t216.length co94)) (fun _ hk=>hk.2) (.slice Ao95 t219.length co95)) (fun _ h_=>h_.1))) (by decide)) hk (fun _ h=>h.2)) (fun _ h=>h.1));have n5_:=Z (Kd.R_mono (Kd.R_keep (IsS71.apart (show IsS71 w0 _ g s0_0 t222 from pI) (by (with_reducible repeat (first|apply Kd.R_alloc|apply Kd.R_drewN|apply Kd.R_drew));exact (Kd.R_mono (Kd.R_far (p:=⟨gb182,2,none⟩) (Kd.R_far (p:=⟨gb182,1,none⟩) (Kd.R_far (p:=⟨gb182,0,none⟩) (Kd.R_mono HO221.out (fun k_ hk=>(⟨hk,hk.2⟩:_∧k_ ≠ gb182))) (fun _ hk=>hk.2) (.int .i64 t215)) (fun _ hk=>hk.2) (.slice Ao94 t216.length co94)) (fun _ hk=>hk.2) (.slice Ao95 t219.length co95)) (fun _ h_=>h_.1))) (by decide)) hk (fun _ h=>h.2)) (fun _ h=>h.1));have n6_:=Z (KeepBut.trans pH hk (.inl rfl));have n7_:=Z (hb);have n8_:=Z (hi);clear HO_182000;clear BK176;clear BK181;clear BK182;clear HO218;clear HO221;clear HK;clear HB;clear HI0;have HO_182000:=n0_;have BK176:=n1_;have BK181:=n2_;have BK182:=n3_;have HO218:=n4_;have HO221:=n5_;have HK:=n6_;have HB:=n7_;have HI0:=n8_;clear n0_ n1_ n2_ n3_ n4_ n5_ n6_ n7_ n8_;(try clear hb);(try clear hb2);(try clear hk);(try clear hi);have hnb97:=NB181_176.out;have hnc97:=NB176_181.out;have hnb98:=NB181_0.out;have hnc98:=NB0_181.out;have hcz99_0:w96.cell? ⟨gb181,0,none⟩=some (u182000):=(kC BK181.out 0).trans rfl;have hfz99_0:=kF BK181.out 0)|((with_reducible refine gate_builtin (b:=.append) (xs:=#[.tmp 39,.tmp 41]) rfl ?_);at_builtin;refine Kd.R_append k34 w.heap.size rfl (.tmp 39) (.tmp 41) 25 34 (.agg #[(.bool false),(.int .i64 0),(.slice none 0 0),(.slice none 0 0)]) 64 rfl Try.underlying25 info34 rfl (by decide) (by omega) u182000 x182000_1 (⟨false,(⟨0,([]:List Int),([]:List (S32))⟩:S32)⟩:S34) [.bool false,.int .i64 0,.slice none 0 0,.slice none 0 0] (fun k_=>some k_ ≠ (.slice Ao94 t216.length co94:Value).ownBlock∧some k_ ≠ (.slice Ao95 t219.length co95:Value).ownBlock∧k_ ≠ gb182) (fun k_=>((fun k_=>some k_ ≠ (.slice Ao94 t216.length co94:Value).ownBlock∧some k_ ≠ (.slice Ao95 t219.length co95:Value).ownBlock∧k_ ≠ gb182)) k_∧some k_ ≠ (u182000:Value).ownBlock) rfl rfl ?aP (fun _ hk=>hk) ?aF ?aO (Below.refl _ _) ?aS ?aL ?_;(case aP=>exact k34_mkM _ _ _ (⟨false,(⟨0,([]:List Int),([]:List (S32))⟩:S32)⟩:S34) (Kd.R_nil _ _ _ _ _) (Kd.R_nil _ _ _ _ _));(case aF=>exact (fun k_ hk=>⟨Kd.fresh' (Kd.R_lt (pR HO218)) k_ hk,Kd.fresh' (Kd.R_lt (pR HO221)) k_ hk,Kd.freshB (g:=gb182) (o:=.cells #[.int .i64 t215,.slice Ao94 t216.length co94,.slice Ao95 t219.length co95] 32 (0,0)) (pK BK182) k_ hk⟩));(case aO=>exact (by (with_reducible repeat (first|apply Kd.R_alloc|apply Kd.R_drewN|apply Kd.R_drew));exact Kd.R_mono HO_182000.out (fun _ hk=>⟨hk.1.2,⟨hk.2,hk.1.1.2⟩⟩)));(case aS=>exact (keep_size (w:=w) (g:=g) (row:=none) pH));(case aL=>have:=LMc87.out;omega);intro v226 w100 ho hb hg hat;rw [← Ny225.out] at ho;have n0_:=Z (blk_grown (g:=gb176) (o:=.cells #[.slice none 0 0] 27 (0,0)) (pK BK176) hg (Kd.R_ne HO_182000.out BK176.out (by decide)));have n1_:=Z (blk_grown (g:=gb181) (o:=.cells #[u182000] 27 (0,0)) (pK BK181) hg (Kd.R_ne HO_182000.out BK181.out (by decide)));have n2_:=Z (IsS71.grown pI hg (IsS71.own_ne HI0.out HO_182000.out (by decide)));have n3_:=Z (blk_grown (g:=gb182) (o:=.cells #[.int .i64 t215,.slice Ao94 t216.length co94,.slice Ao95 t219.length co95] 32 (0,0)) (pK BK182) hg (Kd.R_ne HO_182000.out BK182.out (by decide)));have n4_:=Z (Kd.R_over' (pR HO218) (Kd.R_typed (pR HO_182000)) (by decide) hg);have n5_:=Z (Kd.R_over' (pR HO221) (Kd.R_typed (pR HO_182000)) (by decide) hg);have n6_:=Z (below_weaken pB HL.out hb);have n7_:=Z (KeepBut.trans pH (KeepBut.of_grown hg g) (Kd.R_base2 HO_182000.out));have n8_:=Z (ho);clear BK176;clear BK181;clear HI0;clear BK182;clear HO218;clear HO221;clear HB;clear HK;clear HO_182000;have BK176:=n0_;have BK181:=n1_;have HI0:=n2_;have BK182:=n3_;have HO218:=n4_;have HO221:=n5_;have HB:=n6_;have HK:=n7_;have HO227:=n8_;clear n0_ n1_ n2_ n3_ n4_ n5_ n6_ n7_ n8_;clear ho hb hg hat;obtain ⟨Ao101,co101,eo101⟩:=Kd.R_slice HO227.out;subst eo101;have hcz102_0:w100.cell? ⟨gb181,0,none⟩=some (u182000):=(kC BK181.out 0).trans rfl;have hfz102_0:=kF BK181.out 0))
        go_roundg k1
        case measure=>have:=HK1.out;omega
        case rel=>exact ⟨(wrap64 (x8_1+1)),(t224),(y225),(.slice Ao101 y225.length co101),pE,H',⟨by have:=HK1.out;omega⟩,⟨by (with_reducible repeat (first|apply Kd.R_alloc|apply Kd.R_drewN|apply Kd.R_drew));exact Kd.R_mono (Kd.R_far (p:=⟨gb181,0,none⟩) (Kd.R_types HO227.out BK181.out (by decide)) (fun _ hk=>hk.2) (.slice Ao101 y225.length co101)) (fun _ hk=>trivial)⟩,⟨by (with_reducible repeat (first|refine kN ?_ _|refine kD ?_|refine kA ?_ _));refine blk_far ?_ NB176_181.out _;(with_reducible repeat (first|refine kN ?_ _|refine kD ?_|refine kA ?_ _));exact BK176.out⟩,⟨by (with_reducible repeat (first|refine kN ?_ _|refine kD ?_|refine kA ?_ _));refine blk_put (cs:=#[u182000]) ?_ 0 _ rfl;(with_reducible repeat (first|refine kN ?_ _|refine kD ?_|refine kA ?_ _));exact BK181.out⟩,⟨pI⟩,⟨pH⟩,⟨pB⟩⟩
       ·rw [if_neg c87] at H
        exact absurd H (by simp)
      ·rw [if_neg c86] at H
       have c86b0:(t223 == 11)=false:=beq_eq_false_iff_ne.mpr c86
       have c86b1:(t223 != 11)=true:=bne_iff_ne.mpr c86
       by_cases c103:x182000_1.length < 2199023255552
       ·rw [if_pos c103] at H
        have LMc103:=Z c103
        clear c103
        obtain ⟨y228,hy228⟩:∃ y_:List (S34),y_=(x182000_1++[(⟨true,(⟨t215,t216,t219⟩:S32)⟩:S34)]):=⟨_,rfl⟩
        first|rw [← hy228] at H|(replace H:=(Option.bind_some _ _).symm.trans H;rw [← hy228] at H)
        have Ny228:=Z hy228
        clear hy228
        have H':=Z H
        clear H
        go_wp2_with (first|((with_reducible refine gate_dst (N:=9) rfl ?_);refine box_event ?hg (N:=9) ?hd (cs:=#[.int .i64 0,.slice none 0 0,.slice none 0 0]) (t:=32) ?hr ?_;(case hd=>rfl);(case hg=>rfl);(case hr=>first|(go_simp;done)|(go_simp;rfl));intro gb182 hg w104 hbox hb;have n0_:=Z (Kd.R_below (Kd.R_elderB (pR HO_182000) gb182 (Nat.le_of_eq hg.symm)) hb);have n1_:=Z (blk_below (g:=gb176) (o:=.cells #[.slice none 0 0] 27 (0,0)) (pK BK176) hb);have n2_:=Z (blk_below (g:=gb181) (o:=.cells #[u182000] 27 (0,0)) (pK BK181) hb);have n3_:=Z (IsS71.below pI hb);have n4_:=Z (KeepBut.trans pH (KeepBut.of_below hb g none) (.inl rfl));have n5_:=Z (below_step pB hb);have n6_:=Z (hbox);have n7_:=Z ((pS hg:w.heap.size≤gb182));have n8_:=Z ((Nat.le_trans HW0.out (pS hg:w.heap.size≤gb182):w0.heap.size≤gb182));have n9_:=Z ((pL hg (pK BK176):gb176 ≠ gb182));have n10_:=Z ((pM hg (pK BK176):gb182 ≠ gb176));have n11_:=Z ((pL hg (pK BK181):gb181 ≠ gb182));have n12_:=Z ((pM hg (pK BK181):gb182 ≠ gb181));have n13_:=Z ((pL71 hg (show IsS71 w0 _ g s0_0 x1001_1 from pI):g ≠ gb182));have n14_:=Z ((pM71 hg (show IsS71 w0 _ g s0_0 x1001_1 from pI):gb182 ≠ g));clear HO_182000;clear BK176;clear BK181;clear HI0;clear HK;clear HB;have HO_182000:=n0_;have BK176:=n1_;have BK181:=n2_;have HI0:=n3_;have HK:=n4_;have HB:=n5_;have BK182:=n6_;have GW182:=n7_;have GE182:=n8_;have NB176_182:=n9_;have NB182_176:=n10_;have NB181_182:=n11_;have NB182_181:=n12_;have NB0_182:=n13_;have NB182_0:=n14_;clear n0_ n1_ n2_ n3_ n4_ n5_ n6_ n7_ n8_ n9_ n10_ n11_ n12_ n13_ n14_;clear hb hbox hg)|((with_reducible refine gate_callee (f:=54) rfl ?_);refine goesL_ (some 24) rfl rfl Try.func54 (by kernel_rfl) rfl #[.pointer (some ⟨g,0,none⟩),.int .i64 t177,.int .i64 x8_1] rfl pG ?_;(with_reducible refine (trustquorummake_group.calls k1 g s0_0 x1001_1 t177 x8_1 t215 t216 t219 t222 w0 _ ?side1 ?side2 A84.out).mono ?_);(case side1=>exact pI);(case side2=>exact pB);rintro e w105 ⟨v217,v220,rfl,ho0,ho1,hi,hb,hk⟩;refine ⟨_,rfl,?_⟩;have n0_:=Z (Kd.R_mono (Kd.R_told (Kd.R_told (Kd.R_oldK (IsS71.apart (show IsS71 w0 _ g s0_0 x1001_1 from pI) (pR HO_182000) (by decide)) hk) (Kd.R_base ho0)) (Kd.R_base ho1)) (fun _ h_=>h_.1));have n1_:=Z (KeepBut.blk hk (g':=gb176) (o:=.cells #[.slice none 0 0] 27 (0,0)) (pK BK176) NB176_0.out (by simp));have n2_:=Z (KeepBut.blk hk (g':=gb181) (o:=.cells #[u182000] 27 (0,0)) (pK BK181) NB181_0.out (by simp));have n3_:=Z (KeepBut.blk hk (g':=gb182) (o:=.cells #[.int .i64 0,.slice none 0 0,.slice none 0 0] 32 (0,0)) (pK BK182) NB182_0.out (by simp));have n4_:=Z (Kd.R_lower ho0 (keep_size (w:=w) (g:=g) (row:=none) pH));have n5_:=Z (Kd.R_lower (Kd.R_newB ho1 (g:=gb182) (o:=.cells #[.int .i64 0,.slice none 0 0,.slice none 0 0] 32 (0,0)) (pK BK182)) (keep_size (w:=w) (g:=g) (row:=none) pH));have n6_:=Z (KeepBut.trans pH hk (.inl rfl));have n7_:=Z (hb);have n8_:=Z (hi);clear HO_182000;clear BK176;clear BK181;clear BK182;clear HK;clear HB;clear HI0;have HO_182000:=n0_;have BK176:=n1_;have BK181:=n2_;have BK182:=n3_;have HO218:=n4_;have HO221:=n5_;have HK:=n6_;have HB:=n7_;have HI0:=n8_;clear n0_ n1_ n2_ n3_ n4_ n5_ n6_ n7_ n8_;(try clear hb);(try clear hb2);(try clear hk);(try clear hi);(try clear ho0);(try clear ho1);have hnb106:=NB182_176.out;have hnc106:=NB176_182.out;have hnb107:=NB182_181.out;have hnc107:=NB181_182.out;have hnb108:=NB182_0.out;have hnc108:=NB0_182.out;have hcz109_0:w105.cell? ⟨gb182,0,none⟩=some (.int .i64 0):=(kC BK182.out 0).trans rfl;have hcz109_1:w105.cell? ⟨gb182,1,none⟩=some (.slice none 0 0):=(kC BK182.out 1).trans rfl;have hcz109_2:w105.cell? ⟨gb182,2,none⟩=some (.slice none 0 0):=(kC BK182.out 2).trans rfl;have hfz109_0:=kF BK182.out 0;have hfz109_1:=kF BK182.out 1;have hfz109_2:=kF BK182.out 2;obtain ⟨Ao110,co110,eo110⟩:=Kd.R_slice HO218.out;subst eo110;obtain ⟨Ao111,co111,eo111⟩:=Kd.R_slice HO221.out;subst eo111)|((with_reducible refine gate_callee (f:=16) rfl ?_);refine goesL_ (some 36) rfl rfl Try.func16 (by kernel_rfl) rfl #[.pointer (some ⟨g,0,none⟩),.int .i64 12] rfl pG ?_;(with_reducible refine (trustquorummake_Tape_N.calls g s0_0 t222 12 t223 t224 w0 _ ?side1 ?side2 A85.out).mono ?_);(case side1=>exact pI);(case side2=>exact pB);rintro e w112 ⟨rfl,hi,hb,hk⟩;refine ⟨_,rfl,?_⟩;have n0_:=Z (Kd.R_mono (Kd.R_keep (IsS71.apart (show IsS71 w0 _ g s0_0 t222 from pI) (by (with_reducible repeat (first|apply Kd.R_alloc|apply Kd.R_drewN|apply Kd.R_drew));exact (Kd.R_mono (Kd.R_far (p:=⟨gb182,2,none⟩) (Kd.R_far (p:=⟨gb182,1,none⟩) (Kd.R_far (p:=⟨gb182,0,none⟩) (Kd.R_mono HO_182000.out (fun k_ hk=>(⟨hk,hk.1.1.2⟩:_∧k_ ≠ gb182))) (fun _ hk=>hk.2) (.int .i64 t215)) (fun _ hk=>hk.2) (.slice Ao110 t216.length co110)) (fun _ hk=>hk.2) (.slice Ao111 t219.length co111)) (fun _ h_=>h_.1))) (by decide)) hk (fun _ h=>h.2)) (fun _ h=>h.1));have n1_:=Z (KeepBut.blk hk (g':=gb176) (o:=.cells #[.slice none 0 0] 27 (0,0)) (by (with_reducible repeat (first|refine kN ?_ _|refine kD ?_|refine kA ?_ _));refine blk_far ?_ NB176_182.out _;(with_reducible repeat (first|refine kN ?_ _|refine kD ?_|refine kA ?_ _));refine blk_far ?_ NB176_182.out _;(with_reducible repeat (first|refine kN ?_ _|refine kD ?_|refine kA ?_ _));refine blk_far ?_ NB176_182.out _;(with_reducible repeat (first|refine kN ?_ _|refine kD ?_|refine kA ?_ _));exact BK176.out) NB176_0.out (by simp));have n2_:=Z (KeepBut.blk hk (g':=gb181) (o:=.cells #[u182000] 27 (0,0)) (by (with_reducible repeat (first|refine kN ?_ _|refine kD ?_|refine kA ?_ _));refine blk_far ?_ NB181_182.out _;(with_reducible repeat (first|refine kN ?_ _|refine kD ?_|refine kA ?_ _));refine blk_far ?_ NB181_182.out _;(with_reducible repeat (first|refine kN ?_ _|refine kD ?_|refine kA ?_ _));refine blk_far ?_ NB181_182.out _;(with_reducible repeat (first|refine kN ?_ _|refine kD ?_|refine kA ?_ _));exact BK181.out) NB181_0.out (by simp));have n3_:=Z (KeepBut.blk hk (g':=gb182) (o:=.cells #[.int .i64 t215,.slice Ao110 t216.length co110,.slice Ao111 t219.length co111] 32 (0,0)) (by (with_reducible repeat (first|refine kN ?_ _|refine kD ?_|refine kA ?_ _));refine blk_put (cs:=#[.int .i64 t215,.slice Ao110 t216.length co110,.slice none 0 0]) ?_ 2 _ rfl;(with_reducible repeat (first|refine kN ?_ _|refine kD ?_|refine kA ?_ _));refine blk_put (cs:=#[.int .i64 t215,.slice none 0 0,.slice none 0 0]) ?_ 1 _ rfl;(with_reducible repeat (first|refine kN ?_ _|refine kD ?_|refine kA ?_ _));refine blk_put (cs:=#[.int .i64 0,.slice none 0 0,.slice none 0 0]) ?_ 0 _ rfl;(with_reducible repeat (first|refine kN ?_ _|refine kD ?_|refine kA ?_ _));exact BK182.out) NB182_0.out (by simp));have n4_:=Z (Kd.R_mono (Kd.R_keep (IsS71.apart (show IsS71 w0 _ g s0_0 t222 from pI) (by (with_reducible repeat (first|apply Kd.R_alloc|apply Kd.R_drewN|apply Kd.R_drew));exact (Kd.R_mono (Kd.R_far (p:=⟨gb182,2,none⟩) (Kd.R_far (p:=⟨gb182,1,none⟩) (Kd.R_far (p:=⟨gb182,0,none⟩) (Kd.R_types HO218.out BK182.out (by decide)) (fun _ hk=>hk.2) (.int .i64 t215)) (fun _ hk=>hk.2) (.slice Ao110 t216.length co110)) (fun _ hk=>hk.2) (.slice Ao111 t219.length co111)) (fun _ h_=>h_.1))) (by decide)) hk (fun _ h=>h.2)) (fun _ h=>h.1));have n5_:=Z (Kd.R_mono (Kd.R_keep (IsS71.apart (show IsS71 w0 _ g s0_0 t222 from pI) (by (with_reducible repeat (first|apply Kd.R_alloc|apply Kd.R_drewN|apply Kd.R_drew));exact (Kd.R_mono (Kd.R_far (p:=⟨gb182,2,none⟩) (Kd.R_far (p:=⟨gb182,1,none⟩) (Kd.R_far (p:=⟨gb182,0,none⟩) (Kd.R_mono HO221.out (fun k_ hk=>(⟨hk,hk.2⟩:_∧k_ ≠ gb182))) (fun _ hk=>hk.2) (.int .i64 t215)) (fun _ hk=>hk.2) (.slice Ao110 t216.length co110)) (fun _ hk=>hk.2) (.slice Ao111 t219.length co111)) (fun _ h_=>h_.1))) (by decide)) hk (fun _ h=>h.2)) (fun _ h=>h.1));have n6_:=Z (KeepBut.trans pH hk (.inl rfl));have n7_:=Z (hb);have n8_:=Z (hi);clear HO_182000;clear BK176;clear BK181;clear BK182;clear HO218;clear HO221;clear HK;clear HB;clear HI0;have HO_182000:=n0_;have BK176:=n1_;have BK181:=n2_;have BK182:=n3_;have HO218:=n4_;have HO221:=n5_;have HK:=n6_;have HB:=n7_;have HI0:=n8_;clear n0_ n1_ n2_ n3_ n4_ n5_ n6_ n7_ n8_;(try clear hb);(try clear hb2);(try clear hk);(try clear hi);have hnb113:=NB181_176.out;have hnc113:=NB176_181.out;have hnb114:=NB181_0.out;have hnc114:=NB0_181.out;have hcz115_0:w112.cell? ⟨gb181,0,none⟩=some (u182000):=(kC BK181.out 0).trans rfl;have hfz115_0:=kF BK181.out 0;have hcz116_0:w112.cell? ⟨gb182,0,none⟩=some (.int .i64 t215):=(kC BK182.out 0).trans rfl;have hcz116_1:w112.cell? ⟨gb182,1,none⟩=some (.slice Ao110 t216.length co110):=(kC BK182.out 1).trans rfl;have hcz116_2:w112.cell? ⟨gb182,2,none⟩=some (.slice Ao111 t219.length co111):=(kC BK182.out 2).trans rfl;have hfz116_0:=kF BK182.out 0;have hfz116_1:=kF BK182.out 1;have hfz116_2:=kF BK182.out 2)|((with_reducible refine gate_builtin (b:=.append) (xs:=#[.tmp 45,.tmp 48]) rfl ?_);at_builtin;refine Kd.R_append k34 w.heap.size rfl (.tmp 45) (.tmp 48) 25 34 (.agg #[(.bool false),(.int .i64 0),(.slice none 0 0),(.slice none 0 0)]) 64 rfl Try.underlying25 info34 rfl (by decide) (by omega) u182000 x182000_1 (⟨true,(⟨t215,t216,t219⟩:S32)⟩:S34) [.bool true,.int .i64 t215,.slice Ao110 t216.length co110,.slice Ao111 t219.length co111] (fun k_=>k_ ≠ gb182) (fun k_=>((fun k_=>k_ ≠ gb182)) k_∧some k_ ≠ (u182000:Value).ownBlock) rfl rfl ?aP (fun _ hk=>hk) ?aF ?aO (Below.refl _ _) ?aS ?aL ?_;(case aP=>exact k34_mkM _ _ _ (⟨true,(⟨t215,t216,t219⟩:S32)⟩:S34) (Kd.R_mono (Kd.R_types (Kd.R_apart' (HO218.out) (Kd.R_typed HO_182000.out) (by decide)) BK182.out (by decide)) (fun k_ hk=>⟨hk.2,hk.1.2⟩)) (Kd.R_mono (Kd.R_apart' (HO221.out) (Kd.R_typed HO_182000.out) (by decide)) (fun k_ hk=>⟨hk.1.2,hk.2⟩)));(case aF=>exact (fun k_ hk=>Kd.freshB (g:=gb182) (o:=.cells #[.int .i64 t215,.slice Ao110 t216.length co110,.slice Ao111 t219.length co111] 32 (0,0)) (pK BK182) k_ hk));(case aO=>exact (by (with_reducible repeat (first|apply Kd.R_alloc|apply Kd.R_drewN|apply Kd.R_drew));exact Kd.R_mono HO_182000.out (fun _ hk=>hk.1.1.2)));(case aS=>exact (keep_size (w:=w) (g:=g) (row:=none) pH));(case aL=>have:=LMc103.out;omega);intro v229 w117 ho hb hg hat;rw [← Ny228.out] at ho;have n0_:=Z (blk_grown (g:=gb176) (o:=.cells #[.slice none 0 0] 27 (0,0)) (pK BK176) hg (Kd.R_ne HO_182000.out BK176.out (by decide)));have n1_:=Z (blk_grown (g:=gb181) (o:=.cells #[u182000] 27 (0,0)) (pK BK181) hg (Kd.R_ne HO_182000.out BK181.out (by decide)));have n2_:=Z (IsS71.grown pI hg (IsS71.own_ne HI0.out HO_182000.out (by decide)));have n3_:=Z (blk_grown (g:=gb182) (o:=.cells #[.int .i64 t215,.slice Ao110 t216.length co110,.slice Ao111 t219.length co111] 32 (0,0)) (pK BK182) hg (Kd.R_ne HO_182000.out BK182.out (by decide)));have n4_:=Z (below_weaken pB HL.out hb);have n5_:=Z (KeepBut.trans pH (KeepBut.of_grown hg g) (Kd.R_base2 HO_182000.out));have n6_:=Z (ho);clear BK176;clear BK181;clear HI0;clear BK182;clear HB;clear HK;clear HO_182000;clear HO218;clear HO221;have BK176:=n0_;have BK181:=n1_;have HI0:=n2_;have BK182:=n3_;have HB:=n4_;have HK:=n5_;have HO230:=n6_;clear n0_ n1_ n2_ n3_ n4_ n5_ n6_;clear ho hb hg hat;obtain ⟨Ao118,co118,eo118⟩:=Kd.R_slice HO230.out;subst eo118;have hcz119_0:w117.cell? ⟨gb181,0,none⟩=some (u182000):=(kC BK181.out 0).trans rfl;have hfz119_0:=kF BK181.out 0))
        go_roundg k1
        case measure=>have:=HK1.out;omega
        case rel=>exact ⟨(wrap64 (x8_1+1)),(t224),(y228),(.slice Ao118 y228.length co118),pE,H',⟨by have:=HK1.out;omega⟩,⟨by (with_reducible repeat (first|apply Kd.R_alloc|apply Kd.R_drewN|apply Kd.R_drew));exact Kd.R_mono (Kd.R_far (p:=⟨gb181,0,none⟩) (Kd.R_types HO230.out BK181.out (by decide)) (fun _ hk=>hk.2) (.slice Ao118 y228.length co118)) (fun _ hk=>trivial)⟩,⟨by (with_reducible repeat (first|refine kN ?_ _|refine kD ?_|refine kA ?_ _));refine blk_far ?_ NB176_181.out _;(with_reducible repeat (first|refine kN ?_ _|refine kD ?_|refine kA ?_ _));exact BK176.out⟩,⟨by (with_reducible repeat (first|refine kN ?_ _|refine kD ?_|refine kA ?_ _));refine blk_put (cs:=#[u182000]) ?_ 0 _ rfl;(with_reducible repeat (first|refine kN ?_ _|refine kD ?_|refine kA ?_ _));exact BK181.out⟩,⟨pI⟩,⟨pH⟩,⟨pB⟩⟩
       ·rw [if_neg c103] at H
        exact absurd H (by simp)
   ·rw [if_neg c9] at H
    have c9b0:decide (x8_1 < t177)=false:=decide_eq_false c9
    clear c9
    simp only [Option.some.injEq,Prod.mk.injEq] at H
    obtain ⟨rfl,rfl⟩:=H
    have hnb120:=NB181_176.out
    have hnc120:=NB176_181.out
    have hnb121:=NB181_0.out
    have hnc121:=NB0_181.out
    have hcz122_0:wr.cell? ⟨gb181,0,none⟩=some (u182000):=(kC BK181.out 0).trans rfl
    have hfz122_0:=kF BK181.out 0
    obtain ⟨Ao123,co123,eo123⟩:=Kd.R_slice HO_182000.out
    subst eo123
    have hnb124:=NB176_0.out
    have hnc124:=NB0_176.out
    have hcz125_0:wr.cell? ⟨gb176,0,none⟩=some (.slice none 0 0):=(kC BK176.out 0).trans rfl
    have hfz125_0:=kF BK176.out 0
    go_wp2
    refine bodyPost_ret (results_cell_row rfl _ _ gb176 27 #[.slice Ao123 x182000_1.length co123] (0,0) _ rfl (by (with_reducible repeat (first|refine kN ?_ _|refine kD ?_|refine kA ?_ _));refine blk_put (cs:=#[.slice none 0 0]) ?_ 0 _ rfl;(with_reducible repeat (first|refine kN ?_ _|refine kD ?_|refine kA ?_ _));exact BK176.out) Try.underlying27 rfl (by kernel_rfl)) rfl ?_
    exact ⟨_,pF,by (with_reducible repeat (first|apply Kd.R_alloc|apply Kd.R_drewN|apply Kd.R_drew));exact Kd.R_mono (Kd.R_far (p:=⟨gb176,0,none⟩) (Kd.R_types HO_182000.out BK176.out (by decide)) (fun _ hk=>hk.2) (.slice Ao123 x182000_1.length co123)) (fun _ hk=>trivial),pI,pB,pH⟩
end Go.Proofs.Ytkjlcbfjllpcnaa.X
namespace Go.Proofs.Ytkjlcbfjllpcnaa.X
open Go.RowKit Go.Proofs.YtkjlcbfjllpcnaaW.PrintWords Go.Proofs.YtkjlcbfjllpcnaaW.PrintLast Go.Proofs.YtkjlcbfjllpcnaaW.PrintMore
set_option linter.unusedVariables false
def noNode (k:Int):Bool:=!(decide (0≤k) && decide (k < 10))
theorem node_eq (k:Int):threshold_node.f k=some (!noNode k):=by
 unfold threshold_node.f noNode
 by_cases h:k ≥ 0
 ·rw [if_pos h];simp [h]
 ·rw [if_neg h];simp [h]
def containsFunc_level.f (a0:List Int):Option Bool:=some (a0.any noNode)
theorem level1_calls (k:Int) (W:World):Calls Try.prog 146 #[.int .i64 k] W fun e w'=>e=.returned (.bool (noNode k))∧∃ q,w'=W.drewN q:=by
 go_enter Try.func146,Try.ntmps146
 go_wp2_with (go_at_call 95;(with_reducible refine (threshold_node.calls k (!noNode k) _ (node_eq k)).mono ?_);rintro e w' ⟨rfl,⟨nd,rfl⟩⟩)
 go_ret
 exact ⟨by simp,_,rfl⟩
theorem containsFunc_level.calls (A0:Option Addr) (c0:Nat) (l0:List Int) (r:Bool) (w:World) (hr0:Kd.C (Kd.int .i64) w A0 l0.length l0) (hc0:l0.length≤c0) (h:containsFunc_level.f l0=some r):Calls Try.prog 99 #[.slice A0 l0.length c0,.func (.func 146) #[] #[]] w fun e w'=>e=.returned (.bool r)∧Drawn0 w w':=by
 obtain rfl:=Option.some.inj h
 rcases Nat.eq_zero_or_pos l0.length with h0|h0
 ·obtain rfl:=List.eq_nil_of_length_eq_zero h0
  refine (Try.slices_ContainsFunc_empty (α:=Int) A0 c0 _ w).mono ?_
  rintro e w' ⟨rfl,rfl⟩
  exact ⟨rfl,Drawn0.refl _⟩
 ·obtain ⟨b,off,rfl,_,hc⟩:=C_ints hr0 h0
  refine (Try.slices_ContainsFunc (Value.int .i64) noNode 146 #[] (enters_of Try.func146 (by kernel_rfl) rfl) b off l0.length c0 l0 w (fun W x _=>level1_calls x W) (Nat.le_refl _) (C_max hr0) hc).mono ?_
  rintro e w' ⟨rfl,hq⟩
  rw [List.take_length]
  exact ⟨rfl,⟨hq⟩⟩
end Go.Proofs.Ytkjlcbfjllpcnaa.X
namespace Go.Proofs.Ytkjlcbfjllpcnaa.X
open Go.RowKit Go.Proofs.YtkjlcbfjllpcnaaW.PrintWords Go.Proofs.YtkjlcbfjllpcnaaW.PrintLast Go.Proofs.YtkjlcbfjllpcnaaW.PrintMore
attribute [local go_sem] max2_int min2_int max_two min_two max_three min_three max_four min_four
set_option linter.unusedVariables false
set_option linter.unusedSimpArgs false
mutual
def threshold_level.j0:Nat→Bool→Int→List Int→List (S32)→Option (Int)
 | 0,_,_,_,_=>none
 | k+1,x22,x267000,x267001,x267002=>if x22=true then (some 4) else ((containsFunc_level.f x267001).bind fun t267=>(if t267=true then (some 5) else ((nodeset_Of.f k x267001).bind fun bt268=>(if bt268.2=0 then (threshold_level.l0 k x267002 (x267002.length:Int) 0) else (some bt268.2)))))
def threshold_level.l0:Nat→List (S32)→Int→Int→Option (Int)
 | 0,_,_,_=>none
 | k+1,x36,x37,x38=>if x38 < x37 then (if 0≤x38 then (if x38 < (x36.length:Int) then ((threshold_level.f k ((rd_T32 x36 x38).f0) ((rd_T32 x36 x38).f1) ((rd_T32 x36 x38).f2)).bind fun t272=>(if t272=0 then (threshold_level.l0 k x36 x37 (wrap64 (x38+1))) else (some t272))) else (none)) else (none)) else (some 0)
def threshold_level.f:Nat→Int→List Int→List (S32)→Option (Int)
 | 0,_,_,_=>none
 | k+1,a0_0,l0_1,l0_2=>if a0_0 < 1 then (threshold_level.j0 k true a0_0 l0_1 l0_2) else (threshold_level.j0 k (decide (a0_0 > (wrap64 ((l0_1.length:Int)+(l0_2.length:Int))))) a0_0 l0_1 l0_2)
end
set_option maxHeartbeats 8000000 in
set_option maxRecDepth 100000 in
theorem threshold_level.calls (k:Nat):∀ (a0_0:Int) (A0_1:Option Addr) (c0_1:Nat) (l0_1:List Int) (A0_2:Option Addr) (c0_2:Nat) (l0_2:List (S32)) (r:Int) (w:World) (hr0_1:Kd.C (Kd.int .i64) w A0_1 l0_1.length l0_1) (hc0_1:l0_1.length≤c0_1) (hr0_2:Kd.C k32 w A0_2 l0_2.length l0_2) (hc0_2:l0_2.length≤c0_2) (h:threshold_level.f k a0_0 l0_1 l0_2=some r),
  Calls Try.prog 128 #[.agg #[.int .i64 a0_0,.slice A0_1 l0_1.length c0_1,.slice A0_2 l0_2.length c0_2]] w fun e w'=>e=.returned (.int .i64 r)∧Below w.heap.size w w':=by
 induction k using Nat.strongRecOn with
 | _ k ih =>
 intro a0_0 A0_1 c0_1 l0_1 A0_2 c0_2 l0_2 r w hr0_1 hc0_1 hr0_2 hc0_2 h
 cases k with
 | zero=>exact absurd h (by simp [threshold_level.f])
 | succ k =>
 simp only [threshold_level.f] at h
 have hu32:=Try.underlying32
 have HR0_1:=Z hr0_1
 have HC0_1:=Z hc0_1
 clear hr0_1 hc0_1
 have HR0_2:=Z hr0_2
 have HC0_2:=Z hc0_2
 clear hr0_2 hc0_2
 have HB:=Z (Below.refl w.heap.size w)
 have H:(if a0_0 < 1 then (threshold_level.j0 k true a0_0 l0_1 l0_2) else (threshold_level.j0 k (decide (a0_0 > (wrap64 ((l0_1.length:Int)+(l0_2.length:Int))))) a0_0 l0_1 l0_2))=some r:=h
 clear h
 have HC2:=Z H
 clear H
 go_enter Try.func128,Try.ntmps128
 go_upto_region 1 with (first|((with_reducible refine gate_dst (N:=1) rfl ?_);(try (refine gate_guard (by rfl) ?_;dsimp only));refine box_event ?hg (N:=1) ?hd (cs:=#[.int .i64 a0_0,.slice A0_1 l0_1.length c0_1,.slice A0_2 l0_2.length c0_2]) (t:=32) ?hr ?_;(case hd=>rfl);(case hg=>rfl);(case hr=>first|(go_simp;done)|(go_simp;rfl));intro gb266 hg w3 hbox hb;have n0_:=Z (below_step pB hb);have n1_:=Z (hbox);have n2_:=Z ((pT hg:w.heap.size≤gb266));have n3_:=Z ((pT hg:w.heap.size≤gb266));clear HB;have HB:=n0_;have BK266:=n1_;have GW266:=n2_;have GE266:=n3_;clear n0_ n1_ n2_ n3_;clear hb hbox hg))
 (try simp only [Act.put,List.setIfInBounds_toArray,List.set_cons_zero,List.set_cons_succ])
 go_cut [22] (fun v22 wc=>∃ (kq:Nat) (x22_1:Bool),v22=.bool x22_1∧Aside0 (threshold_level.j0 kq x22_1 a0_0 l0_1 l0_2=some r)∧Aside0 (kq≤k)∧Aside0 (wc.heap[gb266]?=some (.cells #[.int .i64 a0_0,(.slice A0_1 l0_1.length c0_1),(.slice A0_2 l0_2.length c0_2)] 32 (0,0)))∧Aside0 (Below w.heap.size w wc))
 case first =>
  have H:=HC2.out
  clear HC2
  by_cases c4:a0_0 < 1
  ·rw [if_pos c4] at H
   have c4b0:decide (a0_0 < 1)=true:=decide_eq_true c4
   clear c4
   (first|rw [c4b0]|(simp only [i64_w,i32_w];rw [c4b0])|skip)
   have H':=Z H
   clear H
   have hcz5_0:w3.cell? ⟨gb266,0,none⟩=some (.int .i64 a0_0):=(kC BK266.out 0).trans rfl
   have hcz5_1:w3.cell? ⟨gb266,1,none⟩=some (.slice A0_1 l0_1.length c0_1):=(kC BK266.out 1).trans rfl
   have hcz5_2:w3.cell? ⟨gb266,2,none⟩=some (.slice A0_2 l0_2.length c0_2):=(kC BK266.out 2).trans rfl
   have hfz5_0:=kF BK266.out 0
   have hfz5_1:=kF BK266.out 1
   have hfz5_2:=kF BK266.out 2
   go_wp2
   go_meet
   case rel=>exact ⟨_,(true),pE,H',⟨by first|omega|exact Nat.le_refl _⟩,⟨pK BK266⟩,⟨pB⟩⟩
  ·rw [if_neg c4] at H
   have c4b0:decide (a0_0 < 1)=false:=decide_eq_false c4
   clear c4
   (first|rw [c4b0]|(simp only [i64_w,i32_w];rw [c4b0])|skip)
   have H':=Z H
   clear H
   have hcz6_0:w3.cell? ⟨gb266,0,none⟩=some (.int .i64 a0_0):=(kC BK266.out 0).trans rfl
   have hcz6_1:w3.cell? ⟨gb266,1,none⟩=some (.slice A0_1 l0_1.length c0_1):=(kC BK266.out 1).trans rfl
   have hcz6_2:w3.cell? ⟨gb266,2,none⟩=some (.slice A0_2 l0_2.length c0_2):=(kC BK266.out 2).trans rfl
   have hfz6_0:=kF BK266.out 0
   have hfz6_1:=kF BK266.out 1
   have hfz6_2:=kF BK266.out 2
   go_wp2
   go_meet
   case rel=>exact ⟨_,(decide (a0_0 > (wrap64 ((l0_1.length:Int)+(l0_2.length:Int))))),pE,H',⟨by first|omega|exact Nat.le_refl _⟩,⟨pK BK266⟩,⟨pB⟩⟩
 case rest =>
  clear HC2
  try clear c1
  try clear p2
  try clear c4
  try clear c4b0
  try clear p6
  try clear hcz5_0
  try clear hcz5_1
  try clear hcz5_2
  try clear hcz6_0
  try clear hcz6_1
  try clear hcz6_2
  try clear hfz5_0
  try clear hfz5_1
  try clear hfz5_2
  try clear hfz6_0
  try clear hfz6_1
  try clear hfz6_2
  obtain ⟨kq,x22_1,rfl,HA,HJ1,BK266,HB⟩:=hcut
  cases kq with
  | zero=>exact absurd HA.out (by simp [threshold_level.j0])
  | succ kj1 =>
   have H:=HA.out
   clear HA
   simp only [threshold_level.j0] at H
   by_cases c7:x22_1=true
   ·subst c7
    rw [if_pos rfl] at H
    obtain rfl:=Option.some.inj H
    go_wp2
    go_ret
    exact ⟨pF,pB⟩
   ·replace c7:=Bool.eq_false_iff.mpr c7
    subst c7
    rw [if_neg (show ¬ (false=true) by decide)] at H
    replace H:=Option.bind_eq_some_iff.mp H
    obtain ⟨t267,A80,H⟩:=H
    try dsimp only at H
    have A8:=Z A80
    clear A80
    by_cases c9:t267=true
    ·subst c9
     rw [if_pos rfl] at H
     obtain rfl:=Option.some.inj H
     have hcz10_0:wc.cell? ⟨gb266,0,none⟩=some (.int .i64 a0_0):=(kC BK266.out 0).trans rfl
     have hcz10_1:wc.cell? ⟨gb266,1,none⟩=some (.slice A0_1 l0_1.length c0_1):=(kC BK266.out 1).trans rfl
     have hcz10_2:wc.cell? ⟨gb266,2,none⟩=some (.slice A0_2 l0_2.length c0_2):=(kC BK266.out 2).trans rfl
     have hfz10_0:=kF BK266.out 0
     have hfz10_1:=kF BK266.out 1
     have hfz10_2:=kF BK266.out 2
     go_wp2_with (first|((with_reducible refine gate_callee (f:=99) rfl ?_);refine goesL_ (some 25) rfl rfl Try.func99 (by kernel_rfl) rfl #[.slice A0_1 l0_1.length c0_1,.func (.func 146) #[] #[]] rfl pG ?_;(with_reducible refine (containsFunc_level.calls _ _ l0_1 true _ ?side1 ?side2 A8.out).mono ?_);(case side1=>repeat (first|exact (Kd.C_below HR0_1.out HB.out)|(with_reducible refine Kd.C_alloc ?_ _)|(with_reducible refine Kd.C_drewN ?_ _)|(with_reducible refine Kd.C_drew ?_)));(case side2=>exact HC0_1.out);rintro e w' ⟨rfl,⟨nd,rfl⟩⟩;refine ⟨_,rfl,?_⟩))
     go_ret
     exact ⟨pF,pB⟩
    ·replace c9:=Bool.eq_false_iff.mpr c9
     subst c9
     rw [if_neg (show ¬ (false=true) by decide)] at H
     replace H:=Option.bind_eq_some_iff.mp H
     obtain ⟨⟨t268,t269⟩,A110,H⟩:=H
     try dsimp only at H
     have A11:=Z A110
     clear A110
     by_cases c12:t269=0
     ·rw [if_pos c12] at H
      have c12b0:(t269 == 0)=true:=beq_iff_eq.mpr c12
      have c12b1:(t269 != 0)=false:=bne_eq_false_iff_eq.mpr c12
      clear c12
      have H':=Z H
      clear H
      have hcz13_0:wc.cell? ⟨gb266,0,none⟩=some (.int .i64 a0_0):=(kC BK266.out 0).trans rfl
      have hcz13_1:wc.cell? ⟨gb266,1,none⟩=some (.slice A0_1 l0_1.length c0_1):=(kC BK266.out 1).trans rfl
      have hcz13_2:wc.cell? ⟨gb266,2,none⟩=some (.slice A0_2 l0_2.length c0_2):=(kC BK266.out 2).trans rfl
      have hfz13_0:=kF BK266.out 0
      have hfz13_1:=kF BK266.out 1
      have hfz13_2:=kF BK266.out 2
      go_wp2_with (first|((with_reducible refine gate_callee (f:=99) rfl ?_);refine goesL_ (some 25) rfl rfl Try.func99 (by kernel_rfl) rfl #[.slice A0_1 l0_1.length c0_1,.func (.func 146) #[] #[]] rfl pG ?_;(with_reducible refine (containsFunc_level.calls _ _ l0_1 false _ ?side1 ?side2 A8.out).mono ?_);(case side1=>repeat (first|exact (Kd.C_below HR0_1.out HB.out)|(with_reducible refine Kd.C_alloc ?_ _)|(with_reducible refine Kd.C_drewN ?_ _)|(with_reducible refine Kd.C_drew ?_)));(case side2=>exact HC0_1.out);rintro e w' ⟨rfl,⟨nd,rfl⟩⟩;refine ⟨_,rfl,?_⟩)|((with_reducible refine gate_callee (f:=147) rfl ?_);refine goesL_ (some 29) rfl rfl Try.func147 (by kernel_rfl) rfl #[.slice A0_1 l0_1.length c0_1] rfl pG ?_;(with_reducible refine (nodeset_Of.calls kj1 _ _ l0_1 t268 t269 _ ?side1 ?side2 A11.out).mono ?_);(case side1=>exact pC HR0_1);(case side2=>exact HC0_1.out);rintro e w' ⟨rfl,⟨nd,rfl⟩⟩;refine ⟨_,rfl,?_⟩))
      go_loopg [38] kj1 (fun kq v38 w'=>∃ (x38_2:Int),v38=.int .i64 x38_2∧Aside0 (threshold_level.l0 kq l0_2 (l0_2.length:Int) x38_2=some r)∧Aside0 (kq≤kj1)∧Aside0 (w'.heap[gb266]?=some (.cells #[.int .i64 a0_0,(.slice A0_1 l0_1.length c0_1),(.slice A0_2 l0_2.length c0_2)] 32 (0,0)))∧Aside0 (Below w.heap.size w w'))
      case atStart=>exact ⟨(0),pE,H',⟨Nat.le_refl _⟩,⟨pK BK266⟩,⟨pB⟩⟩
      case round =>
       clear H'
       try clear c1
       try clear p2
       try clear c4
       try clear c4b0
       try clear p6
       try clear c7
       try clear c9
       try clear c12
       try clear c12b0
       try clear c12b1
       try clear hcz10_0
       try clear hcz10_1
       try clear hcz10_2
       try clear hcz13_0
       try clear hcz13_1
       try clear hcz13_2
       try clear hcz5_0
       try clear hcz5_1
       try clear hcz5_2
       try clear hcz6_0
       try clear hcz6_1
       try clear hcz6_2
       try clear hfz10_0
       try clear hfz10_1
       try clear hfz10_2
       try clear hfz13_0
       try clear hfz13_1
       try clear hfz13_2
       try clear hfz5_0
       try clear hfz5_1
       try clear hfz5_2
       try clear hfz6_0
       try clear hfz6_1
       try clear hfz6_2
       obtain ⟨x38_2,rfl,HA,HK2,BK266,HB⟩:=hrel
       cases gk with
       | zero=>exact absurd HA.out (by simp [threshold_level.l0])
       | succ k2 =>
        have H:=HA.out
        clear HA
        simp only [threshold_level.l0] at H
        by_cases c14:x38_2 < (l0_2.length:Int)
        ·rw [if_pos c14] at H
         have c14b0:decide (x38_2 < (l0_2.length:Int))=true:=decide_eq_true c14
         clear c14
         by_cases c15:0≤x38_2
         ·rw [if_pos c15] at H
          have c15b0:decide (0≤x38_2)=true:=decide_eq_true c15
          clear c15
          by_cases c16:x38_2 < (l0_2.length:Int)
          ·rw [if_pos c16] at H
           have c16b0:decide (x38_2 < (l0_2.length:Int))=true:=decide_eq_true c16
           clear c16
           replace H:=Option.bind_eq_some_iff.mp H
           obtain ⟨t272,A170,H⟩:=H
           try dsimp only at H
           have A17:=Z A170
           clear A170
           by_cases c18:t272=0
           ·rw [if_pos c18] at H
            have c18b0:(t272 == 0)=true:=beq_iff_eq.mpr c18
            have c18b1:(t272 != 0)=false:=bne_eq_false_iff_eq.mpr c18
            clear c18
            have H':=Z H
            clear H
            have p270:0≤(x38_2:Int):=of_decide_eq_true (by first|(with_reducible assumption)|assumption)
            have q270:x38_2 < (l0_2.length:Int):=of_decide_eq_true (by first|(with_reducible assumption)|assumption)
            obtain ⟨ad270,A270_1,c270_1,A270_2,c270_2,e270,hx270_0,hx270_1,hx270_2,hl270_1,hi270_1,hl270_2,hi270_2⟩:=at_T32 HR0_2.out x38_2 p270 q270
            cases e270
            replace hx270_0:=(HB.out.cell (World.block_lt_of_cell? w _ hx270_0)).trans hx270_0
            replace hx270_1:=(HB.out.cell (World.block_lt_of_cell? w _ hx270_1)).trans hx270_1
            replace hx270_2:=(HB.out.cell (World.block_lt_of_cell? w _ hx270_2)).trans hx270_2
            have HR270_1:=Z hi270_1
            have HC270_1:=Z hl270_1
            clear hi270_1 hl270_1
            have HR270_2:=Z hi270_2
            have HC270_2:=Z hl270_2
            clear hi270_2 hl270_2
            replace p270:=eq_true p270
            replace q270:=eq_true q270
            go_wp2_with (first|((with_reducible refine gate_dst (N:=6) rfl ?_);(try (refine gate_guard (by rfl) ?_;dsimp only));refine box_event ?hg (N:=6) ?hd (cs:=#[.int .i64 0,.slice none 0 0,.slice none 0 0]) (t:=32) ?hr ?_;(case hd=>rfl);(case hg=>rfl);(case hr=>first|(go_simp;done)|(go_simp;rfl));intro gb271 hg w19 hbox hb;have n0_:=Z (blk_below (g:=gb266) (o:=.cells #[.int .i64 a0_0,.slice A0_1 l0_1.length c0_1,.slice (some ad270) l0_2.length c0_2] 32 (0,0)) (pK BK266) hb);have n1_:=Z (below_step pB hb);have n2_:=Z (hbox);have n3_:=Z ((pT hg:w.heap.size≤gb271));have n4_:=Z ((pT hg:w.heap.size≤gb271));have n5_:=Z ((pL hg (pK BK266):gb266 ≠ gb271));have n6_:=Z ((pM hg (pK BK266):gb271 ≠ gb266));clear BK266;clear HB;have BK266:=n0_;have HB:=n1_;have BK271:=n2_;have GW271:=n3_;have GE271:=n4_;have NB266_271:=n5_;have NB271_266:=n6_;clear n0_ n1_ n2_ n3_ n4_ n5_ n6_;clear hb hbox hg;have hnb20:=NB271_266.out;have hnc20:=NB266_271.out;have hcz21_0:w19.cell? ⟨gb271,0,none⟩=some (.int .i64 0):=(kC BK271.out 0).trans rfl;have hcz21_1:w19.cell? ⟨gb271,1,none⟩=some (.slice none 0 0):=(kC BK271.out 1).trans rfl;have hcz21_2:w19.cell? ⟨gb271,2,none⟩=some (.slice none 0 0):=(kC BK271.out 2).trans rfl;have hfz21_0:=kF BK271.out 0;have hfz21_1:=kF BK271.out 1;have hfz21_2:=kF BK271.out 2)|((with_reducible refine gate_callee (f:=128) rfl ?_);refine goesL_ (some 43) rfl rfl Try.func128 (by kernel_rfl) rfl #[.agg #[.int .i64 ((rd_T32 l0_2 x38_2).f0),.slice A270_1 ((rd_T32 l0_2 x38_2).f1).length c270_1,.slice A270_2 ((rd_T32 l0_2 x38_2).f2).length c270_2]] rfl pG ?_;(with_reducible refine (ih k2 (by have:=HJ1.out;have:=HK2.out;omega) ((rd_T32 l0_2 x38_2).f0) _ _ ((rd_T32 l0_2 x38_2).f1) _ _ ((rd_T32 l0_2 x38_2).f2) t272 _ ?side1 ?side2 ?side3 ?side4 A17.out).mono ?_);(case side1=>exact Kd.C_below HR270_1.out pB);(case side2=>exact HC270_1.out);(case side3=>exact Kd.C_below HR270_2.out pB);(case side4=>exact HC270_2.out);rintro e w22 ⟨rfl,hb⟩;refine ⟨_,rfl,?_⟩;have n0_:=Z (blk_below (g:=gb266) (o:=.cells #[.int .i64 a0_0,.slice A0_1 l0_1.length c0_1,.slice (some ad270) l0_2.length c0_2] 32 (0,0)) (by (with_reducible repeat (first|refine kN ?_ _|refine kD ?_|refine kA ?_ _));refine blk_far ?_ NB266_271.out _;(with_reducible repeat (first|refine kN ?_ _|refine kD ?_|refine kA ?_ _));refine blk_far ?_ NB266_271.out _;(with_reducible repeat (first|refine kN ?_ _|refine kD ?_|refine kA ?_ _));refine blk_far ?_ NB266_271.out _;(with_reducible repeat (first|refine kN ?_ _|refine kD ?_|refine kA ?_ _));exact BK266.out) hb);have n1_:=Z (blk_below (g:=gb271) (o:=.cells #[.int .i64 ((rd_T32 l0_2 x38_2).f0),.slice A270_1 ((rd_T32 l0_2 x38_2).f1).length c270_1,.slice A270_2 ((rd_T32 l0_2 x38_2).f2).length c270_2] 32 (0,0)) (by (with_reducible repeat (first|refine kN ?_ _|refine kD ?_|refine kA ?_ _));refine blk_put (cs:=#[.int .i64 ((rd_T32 l0_2 x38_2).f0),.slice A270_1 ((rd_T32 l0_2 x38_2).f1).length c270_1,.slice none 0 0]) ?_ 2 _ rfl;(with_reducible repeat (first|refine kN ?_ _|refine kD ?_|refine kA ?_ _));refine blk_put (cs:=#[.int .i64 ((rd_T32 l0_2 x38_2).f0),.slice none 0 0,.slice none 0 0]) ?_ 1 _ rfl;(with_reducible repeat (first|refine kN ?_ _|refine kD ?_|refine kA ?_ _));refine blk_put (cs:=#[.int .i64 0,.slice none 0 0,.slice none 0 0]) ?_ 0 _ rfl;(with_reducible repeat (first|refine kN ?_ _|refine kD ?_|refine kA ?_ _));exact BK271.out) hb);have n2_:=Z (below_step pB hb);clear BK266;clear BK271;clear HB;have BK266:=n0_;have BK271:=n1_;have HB:=n2_;clear n0_ n1_ n2_;(try clear hb);(try clear hb2);(try clear hk);(try clear hi)))
            go_roundg k2
            case measure=>have:=HJ1.out;have:=HK2.out;omega
            case rel=>exact ⟨(wrap64 (x38_2+1)),pE,H',⟨by have:=HJ1.out;have:=HK2.out;omega⟩,⟨pK BK266⟩,⟨pB⟩⟩
           ·rw [if_neg c18] at H
            have c18b0:(t272 == 0)=false:=beq_eq_false_iff_ne.mpr c18
            have c18b1:(t272 != 0)=true:=bne_iff_ne.mpr c18
            obtain rfl:=Option.some.inj H
            have p270:0≤(x38_2:Int):=of_decide_eq_true (by first|(with_reducible assumption)|assumption)
            have q270:x38_2 < (l0_2.length:Int):=of_decide_eq_true (by first|(with_reducible assumption)|assumption)
            obtain ⟨ad270,A270_1,c270_1,A270_2,c270_2,e270,hx270_0,hx270_1,hx270_2,hl270_1,hi270_1,hl270_2,hi270_2⟩:=at_T32 HR0_2.out x38_2 p270 q270
            cases e270
            replace hx270_0:=(HB.out.cell (World.block_lt_of_cell? w _ hx270_0)).trans hx270_0
            replace hx270_1:=(HB.out.cell (World.block_lt_of_cell? w _ hx270_1)).trans hx270_1
            replace hx270_2:=(HB.out.cell (World.block_lt_of_cell? w _ hx270_2)).trans hx270_2
            have HR270_1:=Z hi270_1
            have HC270_1:=Z hl270_1
            clear hi270_1 hl270_1
            have HR270_2:=Z hi270_2
            have HC270_2:=Z hl270_2
            clear hi270_2 hl270_2
            replace p270:=eq_true p270
            replace q270:=eq_true q270
            go_wp2_with (first|((with_reducible refine gate_dst (N:=6) rfl ?_);(try (refine gate_guard (by rfl) ?_;dsimp only));refine box_event ?hg (N:=6) ?hd (cs:=#[.int .i64 0,.slice none 0 0,.slice none 0 0]) (t:=32) ?hr ?_;(case hd=>rfl);(case hg=>rfl);(case hr=>first|(go_simp;done)|(go_simp;rfl));intro gb271 hg w23 hbox hb;have n0_:=Z (blk_below (g:=gb266) (o:=.cells #[.int .i64 a0_0,.slice A0_1 l0_1.length c0_1,.slice (some ad270) l0_2.length c0_2] 32 (0,0)) (pK BK266) hb);have n1_:=Z (below_step pB hb);have n2_:=Z (hbox);have n3_:=Z ((pT hg:w.heap.size≤gb271));have n4_:=Z ((pT hg:w.heap.size≤gb271));have n5_:=Z ((pL hg (pK BK266):gb266 ≠ gb271));have n6_:=Z ((pM hg (pK BK266):gb271 ≠ gb266));clear BK266;clear HB;have BK266:=n0_;have HB:=n1_;have BK271:=n2_;have GW271:=n3_;have GE271:=n4_;have NB266_271:=n5_;have NB271_266:=n6_;clear n0_ n1_ n2_ n3_ n4_ n5_ n6_;clear hb hbox hg;have hnb24:=NB271_266.out;have hnc24:=NB266_271.out;have hcz25_0:w23.cell? ⟨gb271,0,none⟩=some (.int .i64 0):=(kC BK271.out 0).trans rfl;have hcz25_1:w23.cell? ⟨gb271,1,none⟩=some (.slice none 0 0):=(kC BK271.out 1).trans rfl;have hcz25_2:w23.cell? ⟨gb271,2,none⟩=some (.slice none 0 0):=(kC BK271.out 2).trans rfl;have hfz25_0:=kF BK271.out 0;have hfz25_1:=kF BK271.out 1;have hfz25_2:=kF BK271.out 2)|((with_reducible refine gate_callee (f:=128) rfl ?_);refine goesL_ (some 43) rfl rfl Try.func128 (by kernel_rfl) rfl #[.agg #[.int .i64 ((rd_T32 l0_2 x38_2).f0),.slice A270_1 ((rd_T32 l0_2 x38_2).f1).length c270_1,.slice A270_2 ((rd_T32 l0_2 x38_2).f2).length c270_2]] rfl pG ?_;(with_reducible refine (ih k2 (by have:=HJ1.out;have:=HK2.out;omega) ((rd_T32 l0_2 x38_2).f0) _ _ ((rd_T32 l0_2 x38_2).f1) _ _ ((rd_T32 l0_2 x38_2).f2) t272 _ ?side1 ?side2 ?side3 ?side4 A17.out).mono ?_);(case side1=>exact Kd.C_below HR270_1.out pB);(case side2=>exact HC270_1.out);(case side3=>exact Kd.C_below HR270_2.out pB);(case side4=>exact HC270_2.out);rintro e w26 ⟨rfl,hb⟩;refine ⟨_,rfl,?_⟩;have n0_:=Z (blk_below (g:=gb266) (o:=.cells #[.int .i64 a0_0,.slice A0_1 l0_1.length c0_1,.slice (some ad270) l0_2.length c0_2] 32 (0,0)) (by (with_reducible repeat (first|refine kN ?_ _|refine kD ?_|refine kA ?_ _));refine blk_far ?_ NB266_271.out _;(with_reducible repeat (first|refine kN ?_ _|refine kD ?_|refine kA ?_ _));refine blk_far ?_ NB266_271.out _;(with_reducible repeat (first|refine kN ?_ _|refine kD ?_|refine kA ?_ _));refine blk_far ?_ NB266_271.out _;(with_reducible repeat (first|refine kN ?_ _|refine kD ?_|refine kA ?_ _));exact BK266.out) hb);have n1_:=Z (blk_below (g:=gb271) (o:=.cells #[.int .i64 ((rd_T32 l0_2 x38_2).f0),.slice A270_1 ((rd_T32 l0_2 x38_2).f1).length c270_1,.slice A270_2 ((rd_T32 l0_2 x38_2).f2).length c270_2] 32 (0,0)) (by (with_reducible repeat (first|refine kN ?_ _|refine kD ?_|refine kA ?_ _));refine blk_put (cs:=#[.int .i64 ((rd_T32 l0_2 x38_2).f0),.slice A270_1 ((rd_T32 l0_2 x38_2).f1).length c270_1,.slice none 0 0]) ?_ 2 _ rfl;(with_reducible repeat (first|refine kN ?_ _|refine kD ?_|refine kA ?_ _));refine blk_put (cs:=#[.int .i64 ((rd_T32 l0_2 x38_2).f0),.slice none 0 0,.slice none 0 0]) ?_ 1 _ rfl;(with_reducible repeat (first|refine kN ?_ _|refine kD ?_|refine kA ?_ _));refine blk_put (cs:=#[.int .i64 0,.slice none 0 0,.slice none 0 0]) ?_ 0 _ rfl;(with_reducible repeat (first|refine kN ?_ _|refine kD ?_|refine kA ?_ _));exact BK271.out) hb);have n2_:=Z (below_step pB hb);clear BK266;clear BK271;clear HB;have BK266:=n0_;have BK271:=n1_;have HB:=n2_;clear n0_ n1_ n2_;(try clear hb);(try clear hb2);(try clear hk);(try clear hi)))
            go_ret
            exact ⟨pF,pB⟩
          ·rw [if_neg c16] at H
           exact absurd H (by simp)
         ·rw [if_neg c15] at H
          exact absurd H (by simp)
        ·rw [if_neg c14] at H
         have c14b0:decide (x38_2 < (l0_2.length:Int))=false:=decide_eq_false c14
         clear c14
         obtain rfl:=Option.some.inj H
         go_wp2
         go_ret
         exact ⟨pF,pB⟩
     ·rw [if_neg c12] at H
      have c12b0:(t269 == 0)=false:=beq_eq_false_iff_ne.mpr c12
      have c12b1:(t269 != 0)=true:=bne_iff_ne.mpr c12
      obtain rfl:=Option.some.inj H
      have hcz27_0:wc.cell? ⟨gb266,0,none⟩=some (.int .i64 a0_0):=(kC BK266.out 0).trans rfl
      have hcz27_1:wc.cell? ⟨gb266,1,none⟩=some (.slice A0_1 l0_1.length c0_1):=(kC BK266.out 1).trans rfl
      have hcz27_2:wc.cell? ⟨gb266,2,none⟩=some (.slice A0_2 l0_2.length c0_2):=(kC BK266.out 2).trans rfl
      have hfz27_0:=kF BK266.out 0
      have hfz27_1:=kF BK266.out 1
      have hfz27_2:=kF BK266.out 2
      go_wp2_with (first|((with_reducible refine gate_callee (f:=99) rfl ?_);refine goesL_ (some 25) rfl rfl Try.func99 (by kernel_rfl) rfl #[.slice A0_1 l0_1.length c0_1,.func (.func 146) #[] #[]] rfl pG ?_;(with_reducible refine (containsFunc_level.calls _ _ l0_1 false _ ?side1 ?side2 A8.out).mono ?_);(case side1=>repeat (first|exact (Kd.C_below HR0_1.out HB.out)|(with_reducible refine Kd.C_alloc ?_ _)|(with_reducible refine Kd.C_drewN ?_ _)|(with_reducible refine Kd.C_drew ?_)));(case side2=>exact HC0_1.out);rintro e w' ⟨rfl,⟨nd,rfl⟩⟩;refine ⟨_,rfl,?_⟩)|((with_reducible refine gate_callee (f:=147) rfl ?_);refine goesL_ (some 29) rfl rfl Try.func147 (by kernel_rfl) rfl #[.slice A0_1 l0_1.length c0_1] rfl pG ?_;(with_reducible refine (nodeset_Of.calls kj1 _ _ l0_1 t268 t269 _ ?side1 ?side2 A11.out).mono ?_);(case side1=>exact pC HR0_1);(case side2=>exact HC0_1.out);rintro e w' ⟨rfl,⟨nd,rfl⟩⟩;refine ⟨_,rfl,?_⟩))
      go_ret
      exact ⟨pF,pB⟩
def threshold_Valid.f (k:Nat) (a0_0:Int) (l0_1:List Int) (l0_2:List (S32)):Option (Int):=(threshold_Depth.f k a0_0 l0_1 l0_2).bind fun t274=>(if t274 > 4 then (some 3) else ((threshold_Size.f k a0_0 l0_1 l0_2).bind fun t275=>(if t275 > 200 then (some 3) else ((threshold_level.f k a0_0 l0_1 l0_2).bind fun t276=>(some t276)))))
set_option maxHeartbeats 8000000 in
set_option maxRecDepth 100000 in
theorem threshold_Valid.calls (k:Nat) (a0_0:Int) (A0_1:Option Addr) (c0_1:Nat) (l0_1:List Int) (A0_2:Option Addr) (c0_2:Nat) (l0_2:List (S32)) (r:Int) (w:World) (hr0_1:Kd.C (Kd.int .i64) w A0_1 l0_1.length l0_1) (hc0_1:l0_1.length≤c0_1) (hr0_2:Kd.C k32 w A0_2 l0_2.length l0_2) (hc0_2:l0_2.length≤c0_2) (h:threshold_Valid.f k a0_0 l0_1 l0_2=some r) :
  Calls Try.prog 111 #[.agg #[.int .i64 a0_0,.slice A0_1 l0_1.length c0_1,.slice A0_2 l0_2.length c0_2]] w fun e w'=>e=.returned (.int .i64 r)∧Below w.heap.size w w':=by
 have hu32:=Try.underlying32
 have HR0_1:=Z hr0_1
 have HC0_1:=Z hc0_1
 clear hr0_1 hc0_1
 have HR0_2:=Z hr0_2
 have HC0_2:=Z hc0_2
 clear hr0_2 hc0_2
 have HB:=Z (Below.refl w.heap.size w)
 have H:((threshold_Depth.f k a0_0 l0_1 l0_2).bind fun t274=>(if t274 > 4 then (some 3) else ((threshold_Size.f k a0_0 l0_1 l0_2).bind fun t275=>(if t275 > 200 then (some 3) else ((threshold_level.f k a0_0 l0_1 l0_2).bind fun t276=>(some t276))))))=some r:=h
 clear h
 replace H:=Option.bind_eq_some_iff.mp H
 obtain ⟨t274,A20,H⟩:=H
 try dsimp only at H
 have A2:=Z A20
 clear A20
 by_cases c3:t274 > 4
 ·rw [if_pos c3] at H
  have c3b0:decide (4 < t274)=true:=decide_eq_true c3
  clear c3
  obtain rfl:=Option.some.inj H
  go_enter Try.func111,Try.ntmps111
  go_wp2_with (first|((with_reducible refine gate_dst (N:=1) rfl ?_);refine box_event ?hg (N:=1) ?hd (cs:=#[.int .i64 a0_0,.slice A0_1 l0_1.length c0_1,.slice A0_2 l0_2.length c0_2]) (t:=32) ?hr ?_;(case hd=>rfl);(case hg=>rfl);(case hr=>first|(go_simp;done)|(go_simp;rfl));intro gb273 hg w4 hbox hb;have n0_:=Z (below_step pB hb);have n1_:=Z (hbox);have n2_:=Z ((pT hg:w.heap.size≤gb273));have n3_:=Z ((pT hg:w.heap.size≤gb273));clear HB;have HB:=n0_;have BK273:=n1_;have GW273:=n2_;have GE273:=n3_;clear n0_ n1_ n2_ n3_;clear hb hbox hg;have hcz5_0:w4.cell? ⟨gb273,0,none⟩=some (.int .i64 a0_0):=(kC BK273.out 0).trans rfl;have hcz5_1:w4.cell? ⟨gb273,1,none⟩=some (.slice A0_1 l0_1.length c0_1):=(kC BK273.out 1).trans rfl;have hcz5_2:w4.cell? ⟨gb273,2,none⟩=some (.slice A0_2 l0_2.length c0_2):=(kC BK273.out 2).trans rfl;have hfz5_0:=kF BK273.out 0;have hfz5_1:=kF BK273.out 1;have hfz5_2:=kF BK273.out 2)|((with_reducible refine gate_callee (f:=126) rfl ?_);refine goesL_ (some 4) rfl rfl Try.func126 (by kernel_rfl) rfl #[.agg #[.int .i64 a0_0,.slice A0_1 l0_1.length c0_1,.slice A0_2 l0_2.length c0_2]] rfl pG ?_;(with_reducible refine (threshold_Depth.calls k a0_0 _ _ l0_1 _ _ l0_2 t274 _ ?side1 ?side2 ?side3 ?side4 A2.out).mono ?_);(case side1=>repeat (first|exact (Kd.C_below HR0_1.out HB.out)|(with_reducible refine Kd.C_alloc ?_ _)|(with_reducible refine Kd.C_drewN ?_ _)|(with_reducible refine Kd.C_drew ?_)));(case side2=>exact HC0_1.out);(case side3=>repeat (first|exact (Kd.C_below HR0_2.out HB.out)|(with_reducible refine Kd.C_alloc ?_ _)|(with_reducible refine Kd.C_drewN ?_ _)|(with_reducible refine Kd.C_drew ?_)));(case side4=>exact HC0_2.out);rintro e w6 ⟨rfl,hb⟩;refine ⟨_,rfl,?_⟩;have n0_:=Z (blk_below (g:=gb273) (o:=.cells #[.int .i64 a0_0,.slice A0_1 l0_1.length c0_1,.slice A0_2 l0_2.length c0_2] 32 (0,0)) (pK BK273) hb);have n1_:=Z (below_step pB hb);clear BK273;clear HB;have BK273:=n0_;have HB:=n1_;clear n0_ n1_;(try clear hb);(try clear hb2);(try clear hk);(try clear hi)))
  go_ret
  exact ⟨pF,pB⟩
 ·rw [if_neg c3] at H
  have c3b0:decide (4 < t274)=false:=decide_eq_false c3
  clear c3
  replace H:=Option.bind_eq_some_iff.mp H
  obtain ⟨t275,A70,H⟩:=H
  try dsimp only at H
  have A7:=Z A70
  clear A70
  by_cases c8:t275 > 200
  ·rw [if_pos c8] at H
   have c8b0:decide (200 < t275)=true:=decide_eq_true c8
   clear c8
   obtain rfl:=Option.some.inj H
   go_enter Try.func111,Try.ntmps111
   go_wp2_with (first|((with_reducible refine gate_dst (N:=1) rfl ?_);refine box_event ?hg (N:=1) ?hd (cs:=#[.int .i64 a0_0,.slice A0_1 l0_1.length c0_1,.slice A0_2 l0_2.length c0_2]) (t:=32) ?hr ?_;(case hd=>rfl);(case hg=>rfl);(case hr=>first|(go_simp;done)|(go_simp;rfl));intro gb273 hg w9 hbox hb;have n0_:=Z (below_step pB hb);have n1_:=Z (hbox);have n2_:=Z ((pT hg:w.heap.size≤gb273));have n3_:=Z ((pT hg:w.heap.size≤gb273));clear HB;have HB:=n0_;have BK273:=n1_;have GW273:=n2_;have GE273:=n3_;clear n0_ n1_ n2_ n3_;clear hb hbox hg;have hcz10_0:w9.cell? ⟨gb273,0,none⟩=some (.int .i64 a0_0):=(kC BK273.out 0).trans rfl;have hcz10_1:w9.cell? ⟨gb273,1,none⟩=some (.slice A0_1 l0_1.length c0_1):=(kC BK273.out 1).trans rfl;have hcz10_2:w9.cell? ⟨gb273,2,none⟩=some (.slice A0_2 l0_2.length c0_2):=(kC BK273.out 2).trans rfl;have hfz10_0:=kF BK273.out 0;have hfz10_1:=kF BK273.out 1;have hfz10_2:=kF BK273.out 2)|((with_reducible refine gate_callee (f:=126) rfl ?_);refine goesL_ (some 4) rfl rfl Try.func126 (by kernel_rfl) rfl #[.agg #[.int .i64 a0_0,.slice A0_1 l0_1.length c0_1,.slice A0_2 l0_2.length c0_2]] rfl pG ?_;(with_reducible refine (threshold_Depth.calls k a0_0 _ _ l0_1 _ _ l0_2 t274 _ ?side1 ?side2 ?side3 ?side4 A2.out).mono ?_);(case side1=>repeat (first|exact (Kd.C_below HR0_1.out HB.out)|(with_reducible refine Kd.C_alloc ?_ _)|(with_reducible refine Kd.C_drewN ?_ _)|(with_reducible refine Kd.C_drew ?_)));(case side2=>exact HC0_1.out);(case side3=>repeat (first|exact (Kd.C_below HR0_2.out HB.out)|(with_reducible refine Kd.C_alloc ?_ _)|(with_reducible refine Kd.C_drewN ?_ _)|(with_reducible refine Kd.C_drew ?_)));(case side4=>exact HC0_2.out);rintro e w11 ⟨rfl,hb⟩;refine ⟨_,rfl,?_⟩;have n0_:=Z (blk_below (g:=gb273) (o:=.cells #[.int .i64 a0_0,.slice A0_1 l0_1.length c0_1,.slice A0_2 l0_2.length c0_2] 32 (0,0)) (pK BK273) hb);have n1_:=Z (below_step pB hb);clear BK273;clear HB;have BK273:=n0_;have HB:=n1_;clear n0_ n1_;(try clear hb);(try clear hb2);(try clear hk);(try clear hi);have hcz12_0:w11.cell? ⟨gb273,0,none⟩=some (.int .i64 a0_0):=(kC BK273.out 0).trans rfl;have hcz12_1:w11.cell? ⟨gb273,1,none⟩=some (.slice A0_1 l0_1.length c0_1):=(kC BK273.out 1).trans rfl;have hcz12_2:w11.cell? ⟨gb273,2,none⟩=some (.slice A0_2 l0_2.length c0_2):=(kC BK273.out 2).trans rfl;have hfz12_0:=kF BK273.out 0;have hfz12_1:=kF BK273.out 1;have hfz12_2:=kF BK273.out 2)|(go_at_call 127;(with_reducible refine (threshold_Size.calls k a0_0 _ _ l0_1 _ _ l0_2 t275 _ ?side1 ?side2 ?side3 ?side4 A7.out).mono ?_);(case side1=>repeat (first|exact (Kd.C_below HR0_1.out HB.out)|(with_reducible refine Kd.C_alloc ?_ _)|(with_reducible refine Kd.C_drewN ?_ _)|(with_reducible refine Kd.C_drew ?_)));(case side2=>exact HC0_1.out);(case side3=>repeat (first|exact (Kd.C_below HR0_2.out HB.out)|(with_reducible refine Kd.C_alloc ?_ _)|(with_reducible refine Kd.C_drewN ?_ _)|(with_reducible refine Kd.C_drew ?_)));(case side4=>exact HC0_2.out);rintro e w13 ⟨rfl,hb⟩;have n0_:=Z (blk_below (g:=gb273) (o:=.cells #[.int .i64 a0_0,.slice A0_1 l0_1.length c0_1,.slice A0_2 l0_2.length c0_2] 32 (0,0)) (pK BK273) hb);have n1_:=Z (below_step pB hb);clear BK273;clear HB;have BK273:=n0_;have HB:=n1_;clear n0_ n1_;(try clear hb);(try clear hb2);(try clear hk);(try clear hi)))
   go_ret
   exact ⟨pF,pB⟩
  ·rw [if_neg c8] at H
   have c8b0:decide (200 < t275)=false:=decide_eq_false c8
   clear c8
   replace H:=Option.bind_eq_some_iff.mp H
   obtain ⟨t276,A140,H⟩:=H
   try dsimp only at H
   have A14:=Z A140
   clear A140
   obtain rfl:=Option.some.inj H
   go_enter Try.func111,Try.ntmps111
   go_wp2_with (first|((with_reducible refine gate_dst (N:=1) rfl ?_);refine box_event ?hg (N:=1) ?hd (cs:=#[.int .i64 a0_0,.slice A0_1 l0_1.length c0_1,.slice A0_2 l0_2.length c0_2]) (t:=32) ?hr ?_;(case hd=>rfl);(case hg=>rfl);(case hr=>first|(go_simp;done)|(go_simp;rfl));intro gb273 hg w15 hbox hb;have n0_:=Z (below_step pB hb);have n1_:=Z (hbox);have n2_:=Z ((pT hg:w.heap.size≤gb273));have n3_:=Z ((pT hg:w.heap.size≤gb273));clear HB;have HB:=n0_;have BK273:=n1_;have GW273:=n2_;have GE273:=n3_;clear n0_ n1_ n2_ n3_;clear hb hbox hg;have hcz16_0:w15.cell? ⟨gb273,0,none⟩=some (.int .i64 a0_0):=(kC BK273.out 0).trans rfl;have hcz16_1:w15.cell? ⟨gb273,1,none⟩=some (.slice A0_1 l0_1.length c0_1):=(kC BK273.out 1).trans rfl;have hcz16_2:w15.cell? ⟨gb273,2,none⟩=some (.slice A0_2 l0_2.length c0_2):=(kC BK273.out 2).trans rfl;have hfz16_0:=kF BK273.out 0;have hfz16_1:=kF BK273.out 1;have hfz16_2:=kF BK273.out 2)|((with_reducible refine gate_callee (f:=126) rfl ?_);refine goesL_ (some 4) rfl rfl Try.func126 (by kernel_rfl) rfl #[.agg #[.int .i64 a0_0,.slice A0_1 l0_1.length c0_1,.slice A0_2 l0_2.length c0_2]] rfl pG ?_;(with_reducible refine (threshold_Depth.calls k a0_0 _ _ l0_1 _ _ l0_2 t274 _ ?side1 ?side2 ?side3 ?side4 A2.out).mono ?_);(case side1=>repeat (first|exact (Kd.C_below HR0_1.out HB.out)|(with_reducible refine Kd.C_alloc ?_ _)|(with_reducible refine Kd.C_drewN ?_ _)|(with_reducible refine Kd.C_drew ?_)));(case side2=>exact HC0_1.out);(case side3=>repeat (first|exact (Kd.C_below HR0_2.out HB.out)|(with_reducible refine Kd.C_alloc ?_ _)|(with_reducible refine Kd.C_drewN ?_ _)|(with_reducible refine Kd.C_drew ?_)));(case side4=>exact HC0_2.out);rintro e w17 ⟨rfl,hb⟩;refine ⟨_,rfl,?_⟩;have n0_:=Z (blk_below (g:=gb273) (o:=.cells #[.int .i64 a0_0,.slice A0_1 l0_1.length c0_1,.slice A0_2 l0_2.length c0_2] 32 (0,0)) (pK BK273) hb);have n1_:=Z (below_step pB hb);clear BK273;clear HB;have BK273:=n0_;have HB:=n1_;clear n0_ n1_;(try clear hb);(try clear hb2);(try clear hk);(try clear hi);have hcz18_0:w17.cell? ⟨gb273,0,none⟩=some (.int .i64 a0_0):=(kC BK273.out 0).trans rfl;have hcz18_1:w17.cell? ⟨gb273,1,none⟩=some (.slice A0_1 l0_1.length c0_1):=(kC BK273.out 1).trans rfl;have hcz18_2:w17.cell? ⟨gb273,2,none⟩=some (.slice A0_2 l0_2.length c0_2):=(kC BK273.out 2).trans rfl;have hfz18_0:=kF BK273.out 0;have hfz18_1:=kF BK273.out 1;have hfz18_2:=kF BK273.out 2)|(go_at_call 127;(with_reducible refine (threshold_Size.calls k a0_0 _ _ l0_1 _ _ l0_2 t275 _ ?side1 ?side2 ?side3 ?side4 A7.out).mono ?_);(case side1=>repeat (first|exact (Kd.C_below HR0_1.out HB.out)|(with_reducible refine Kd.C_alloc ?_ _)|(with_reducible refine Kd.C_drewN ?_ _)|(with_reducible refine Kd.C_drew ?_)));(case side2=>exact HC0_1.out);(case side3=>repeat (first|exact (Kd.C_below HR0_2.out HB.out)|(with_reducible refine Kd.C_alloc ?_ _)|(with_reducible refine Kd.C_drewN ?_ _)|(with_reducible refine Kd.C_drew ?_)));(case side4=>exact HC0_2.out);rintro e w19 ⟨rfl,hb⟩;have n0_:=Z (blk_below (g:=gb273) (o:=.cells #[.int .i64 a0_0,.slice A0_1 l0_1.length c0_1,.slice A0_2 l0_2.length c0_2] 32 (0,0)) (pK BK273) hb);have n1_:=Z (below_step pB hb);clear BK273;clear HB;have BK273:=n0_;have HB:=n1_;clear n0_ n1_;(try clear hb);(try clear hb2);(try clear hk);(try clear hi);have hcz20_0:w19.cell? ⟨gb273,0,none⟩=some (.int .i64 a0_0):=(kC BK273.out 0).trans rfl;have hcz20_1:w19.cell? ⟨gb273,1,none⟩=some (.slice A0_1 l0_1.length c0_1):=(kC BK273.out 1).trans rfl;have hcz20_2:w19.cell? ⟨gb273,2,none⟩=some (.slice A0_2 l0_2.length c0_2):=(kC BK273.out 2).trans rfl;have hfz20_0:=kF BK273.out 0;have hfz20_1:=kF BK273.out 1;have hfz20_2:=kF BK273.out 2)|((with_reducible refine gate_callee (f:=128) rfl ?_);refine goesL_ (some 12) rfl rfl Try.func128 (by kernel_rfl) rfl #[.agg #[.int .i64 a0_0,.slice A0_1 l0_1.length c0_1,.slice A0_2 l0_2.length c0_2]] rfl pG ?_;(with_reducible refine (threshold_level.calls k a0_0 _ _ l0_1 _ _ l0_2 t276 _ ?side1 ?side2 ?side3 ?side4 A14.out).mono ?_);(case side1=>repeat (first|exact (Kd.C_below HR0_1.out HB.out)|(with_reducible refine Kd.C_alloc ?_ _)|(with_reducible refine Kd.C_drewN ?_ _)|(with_reducible refine Kd.C_drew ?_)));(case side2=>exact HC0_1.out);(case side3=>repeat (first|exact (Kd.C_below HR0_2.out HB.out)|(with_reducible refine Kd.C_alloc ?_ _)|(with_reducible refine Kd.C_drewN ?_ _)|(with_reducible refine Kd.C_drew ?_)));(case side4=>exact HC0_2.out);rintro e w21 ⟨rfl,hb⟩;refine ⟨_,rfl,?_⟩;have n0_:=Z (blk_below (g:=gb273) (o:=.cells #[.int .i64 a0_0,.slice A0_1 l0_1.length c0_1,.slice A0_2 l0_2.length c0_2] 32 (0,0)) (pK BK273) hb);have n1_:=Z (below_step pB hb);clear BK273;clear HB;have BK273:=n0_;have HB:=n1_;clear n0_ n1_;(try clear hb);(try clear hb2);(try clear hk);(try clear hi)))
   go_ret
   exact ⟨pF,pB⟩
end Go.Proofs.Ytkjlcbfjllpcnaa.X
