/- Proof of the statement QuorumsParts: part 4 of 8, what it computes and why that answers true. -/
import Derived.Test.YtkjlcbfjllpcnaaKQP3
import Derived.Shelf.Small.Bits
import Derived.Shelf.Strconv.Itoa0
import Derived.Ground.Names2Prog
import Derived.Shelf.Slices.Clone
import Derived.Shelf.Slices.SearchI
import Derived.Ground.SlgnProg
import Derived.Shelf.SlicesE.Clone
import Derived.Ground.SlgfProg
import Derived.Shelf.SlicesE.IndexFunc
import Derived.Shelf.SlicesE.DeleteFunc
import Derived.Ground.SlsfProg
import Derived.Shelf.SlSortCmp.Insertion
import Derived.Shelf.SlSortCmp.SiftDown1
import Derived.Shelf.SlSortCmp.HeapSort1
import Derived.Shelf.SlSortCmp.Insertion1
import Derived.Shelf.SlSortCmp.Median1
import Derived.Shelf.SlSortCmp.Pivot1
import Derived.Shelf.SlSortCmp.ReverseRange1
import Derived.Shelf.SlSortCmp.PartialInsertion1
import Derived.Shelf.SlSortCmp.PartitionEqual1
import Derived.Shelf.SlSortCmp.Partition1
import Derived.Shelf.SlSortCmp.Pdq1
import Derived.Shelf.SlSortCmp.Whole1
import Derived.Shelf.SlSortCmp.NoneTotal
import Derived.Test.YtkjlcbfjllpcnaaProg
set_option linter.unusedVariables false
set_option linter.unusedSimpArgs false
namespace Go.Proofs
open Go.Shelf
def Try.laysNm215_ren:Go.Shelf.Ren:=⟨fun|15=>97|n=>n,fun|22=>22|3=>3|4=>4|n=>n,fun|n=>n⟩
theorem Try.laysNm215:Go.Proofs.Lays2.n15 Try.prog Try.laysNm215_ren:={
 mixed:=by kernel_rfl
 f15:=Try.func97.trans (congrArg some (by kernel_rfl))
 t3:=Try.underlying3
 a3:=Try.isAgg3
 z3:=Try.sizeOf3
 v3:=Try.zeroValue3
 t4:=Try.underlying4
 a4:=Try.isAgg4
 z4:=Try.sizeOf4
 v4:=Try.zeroValue4
 t22:=Try.underlying22
 a22:=Try.isAgg22
 z22:=Try.sizeOf22
 v22:=Try.zeroValue22
 i3:=by kernel_rfl }
open Go.RowKit Go.Lib in
theorem Try.slices_Clone_int (b off n c:Nat) (zs:List Int) (w:World) (hz:n≤zs.length) (hbig:n * 8≤140737488355328) (hc:∀ j,j < zs.length→w.cell? ⟨b,off+j,none⟩=some (.int .i64 (zs.getD j 0))) :
  Calls Try.prog 97 #[.slice (some ⟨b,off,none⟩) n c] w fun e w'=>∃ v',e=.returned v'∧w'.ownsRow w.heap.size 3 1 v' n ((zs.take n).map (Value.int .i64))∧v' ≠ .slice none 0 0∧Below w.heap.size w w':=Any.slices_Clone_int Try.laysNm215 b off n c zs w hz hbig hc
open Go.RowKit Go.Lib in
theorem Try.slices_Clone_int_nil (n c:Nat) (w:World) :
  Calls Try.prog 97 #[.slice none n c] w fun e w'=>e=.returned (.slice none 0 0)∧w'=w:=Any.slices_Clone_int_nil Try.laysNm215 n c w
open Go.RowKit Go.Lib in
theorem Try.slices_Clone_int_zero (a:Addr) (c:Nat) (w:World) :
  Calls Try.prog 97 #[.slice (some a) 0 c] w fun e w'=>∃ v',e=.returned v'∧w'.ownsRow w.heap.size 3 1 v' 0 []∧v' ≠ .slice none 0 0∧Below w.heap.size w w':=Any.slices_Clone_int_zero Try.laysNm215 a c w
def Try.laysSlH6_f117_ren:Go.Shelf.Ren:=⟨fun|6=>117|n=>n,fun|22=>22|23=>3|25=>77|3=>3|0=>0|4=>4|n=>n,fun|n=>n⟩
theorem Try.laysSlH6_f117:Go.Proofs.SlLaysH.n6 Try.prog Try.laysSlH6_f117_ren:={
 mixed:=by kernel_rfl
 f6:=⟨Try.f117.name,by decide,Try.func117.trans (congrArg some (by kernel_rfl))⟩
 t0:=Try.underlying0
 a0:=Try.isAgg0
 z0:=Try.sizeOf0
 v0:=Try.zeroValue0
 t3:=Try.underlying3
 a3:=Try.isAgg3
 z3:=Try.sizeOf3
 v3:=Try.zeroValue3
 t4:=Try.underlying4
 a4:=Try.isAgg4
 z4:=Try.sizeOf4
 v4:=Try.zeroValue4
 t22:=Try.underlying22
 a22:=Try.isAgg22
 z22:=Try.sizeOf22
 v22:=Try.zeroValue22
 a23:=Try.isAgg3
 z23:=Try.sizeOf3
 t25:=Try.underlying77
 a25:=Try.isAgg77
 z25:=Try.sizeOf77
 v25:=Try.zeroValue77 }
open Go.RowKit Go.Lib in
theorem Try.slices_IndexFunc_empty {α:Type} [Inhabited α] (a:Option Addr) (c:Nat) (fv:Value) (w:World) :
  Calls Try.prog 117 #[.slice a 0 c,fv] w fun e w'=>e=.returned (.int .i64 (-1))∧w'=w:=AnyE.slices_IndexFunc_empty Try.laysSlH6_f117 a c fv w
def Try.laysSlH8_f99_ren:Go.Shelf.Ren:=⟨fun|8=>99|6=>117|n=>n,fun|22=>22|23=>3|25=>77|4=>4|3=>3|0=>0|n=>n,fun|n=>n⟩
theorem Try.laysSlH8_f99:Go.Proofs.SlLaysH.n8 Try.prog Try.laysSlH8_f99_ren:={
 mixed:=by kernel_rfl
 f6:=⟨Try.f117.name,by decide,Try.func117.trans (congrArg some (by kernel_rfl))⟩
 f8:=⟨Try.f99.name,by decide,Try.func99.trans (congrArg some (by kernel_rfl))⟩
 t0:=Try.underlying0
 a0:=Try.isAgg0
 z0:=Try.sizeOf0
 v0:=Try.zeroValue0
 t3:=Try.underlying3
 a3:=Try.isAgg3
 z3:=Try.sizeOf3
 v3:=Try.zeroValue3
 t4:=Try.underlying4
 a4:=Try.isAgg4
 z4:=Try.sizeOf4
 v4:=Try.zeroValue4
 t22:=Try.underlying22
 a22:=Try.isAgg22
 z22:=Try.sizeOf22
 v22:=Try.zeroValue22
 a23:=Try.isAgg3
 z23:=Try.sizeOf3
 t25:=Try.underlying77
 a25:=Try.isAgg77
 z25:=Try.sizeOf77
 v25:=Try.zeroValue77 }
open Go.RowKit Go.Lib in
theorem Try.slices_ContainsFunc {α:Type} [Inhabited α] (enc:α→Value) (p:α→Bool) (g:Nat) (lb:Array Value) (eg:∀ args w,(callFunc g args).run Try.prog w=.ok (.enter g args) w) (b off n c:Nat) (zs:List α) (w:World) (hp:PredAt Try.prog g lb enc p w) (hz:n≤zs.length) (hbig:n≤9223372036854775807) (hc:∀ j,j < zs.length→w.cell? ⟨b,off+j,none⟩=some (enc zs[j]!)) :
  Calls Try.prog 99 #[.slice (some ⟨b,off,none⟩) n c,.func (.func g) #[] lb] w fun e w'=>e=.returned (.bool ((zs.take n).any p))∧∃ q,w'=w.drewN q:=AnyE.slices_ContainsFunc Try.laysSlH8_f99 enc p g lb eg b off n c zs w hp hz hbig hc
open Go.RowKit Go.Lib in
theorem Try.slices_ContainsFunc_empty {α:Type} [Inhabited α] (a:Option Addr) (c:Nat) (fv:Value) (w:World) :
  Calls Try.prog 99 #[.slice a 0 c,fv] w fun e w'=>e=.returned (.bool false)∧w'=w:=AnyE.slices_ContainsFunc_empty Try.laysSlH8_f99 a c fv w
def Try.laysSlH10_f96_ren:Go.Shelf.Ren:=⟨fun|10=>96|6=>117|n=>n,fun|22=>22|23=>3|25=>77|3=>3|4=>4|0=>0|n=>n,fun|n=>n⟩
theorem Try.laysSlH10_f96:Go.Proofs.SlLaysH.n10 Try.prog Try.laysSlH10_f96_ren:={
 mixed:=by kernel_rfl
 f6:=⟨Try.f117.name,by decide,Try.func117.trans (congrArg some (by kernel_rfl))⟩
 f10:=⟨Try.f96.name,by decide,Try.func96.trans (congrArg some (by kernel_rfl))⟩
 t0:=Try.underlying0
 a0:=Try.isAgg0
 z0:=Try.sizeOf0
 v0:=Try.zeroValue0
 t3:=Try.underlying3
 a3:=Try.isAgg3
 z3:=Try.sizeOf3
 v3:=Try.zeroValue3
 t4:=Try.underlying4
 a4:=Try.isAgg4
 z4:=Try.sizeOf4
 v4:=Try.zeroValue4
 t22:=Try.underlying22
 a22:=Try.isAgg22
 z22:=Try.sizeOf22
 v22:=Try.zeroValue22
 a23:=Try.isAgg3
 z23:=Try.sizeOf3
 t25:=Try.underlying77
 a25:=Try.isAgg77
 z25:=Try.sizeOf77
 v25:=Try.zeroValue77 }
open Go.RowKit Go.Lib Go.Sort in
theorem Try.slices_DeleteFunc {α:Type} [Inhabited α] (enc:α→Value) (hO:OneCell enc) (p:α→Bool) (g:Nat) (lb:Array Value) (eg:∀ args w,(callFunc g args).run Try.prog w=.ok (.enter g args) w) (zr:α) (v23:∀ w,(zeroValue 3).run Try.prog w=.ok (enc zr) w) (blk off cap:Nat) (d:Array α) (w:World) (hp:PredAt Try.prog g lb enc p w) (hpo:PredOver Try.prog g lb enc p blk off d.size w) (hH:Holds enc w blk off d) (hsz:d.size≤9223372036854775807) (hcap:d.size≤cap) :
  Calls Try.prog 96 #[.slice (some ⟨blk,off,none⟩) d.size cap,.func (.func g) #[] lb] w fun e w'=>e=.returned (.slice (some ⟨blk,off,none⟩) (d.toList.filter fun x=>!p x).length cap)∧∃ q,w'=putRow enc (Sort.ahead w q) blk off ((d.toList.filter fun x=>!p x)++List.replicate (d.size - (d.toList.filter fun x=>!p x).length) zr).toArray:=AnyE.slices_DeleteFunc Try.laysSlH10_f96 enc hO p g lb eg zr v23 blk off cap d w hp hpo hH hsz hcap
def Try.laysSlF06_f93_ren:Go.Shelf.Ren:=⟨fun|6=>93|15=>113|14=>112|28=>137|29=>138|20=>129|21=>130|22=>131|23=>132|24=>133|25=>134|26=>135|27=>136|46=>148|47=>149|48=>150|49=>151|50=>152|57=>154|n=>n,fun|22=>22|24=>3|25=>64|3=>3|39=>102|0=>0|53=>118|55=>120|4=>4|46=>112|45=>111|50=>81|5=>5|9=>9|66=>123|70=>127|76=>129|77=>104|n=>n,fun|n=>n⟩
theorem Try.laysSlF06_f93:Go.Proofs.SlLaysF0.n6 Try.prog Try.laysSlF06_f93_ren:={
 mixed:=by kernel_rfl
 f6:=⟨Try.f93.name,by decide,Try.func93.trans (congrArg some (by kernel_rfl))⟩
 f14:=⟨Try.f112.name,by decide,Try.func112.trans (congrArg some (by kernel_rfl))⟩
 f15:=Try.func113.trans (congrArg some (by kernel_rfl))
 f20:=⟨Try.f129.name,by decide,Try.func129.trans (congrArg some (by kernel_rfl))⟩
 f21:=⟨Try.f130.name,by decide,Try.func130.trans (congrArg some (by kernel_rfl))⟩
 f22:=⟨Try.f131.name,by decide,Try.func131.trans (congrArg some (by kernel_rfl))⟩
 f23:=⟨Try.f132.name,by decide,Try.func132.trans (congrArg some (by kernel_rfl))⟩
 f24:=⟨Try.f133.name,by decide,Try.func133.trans (congrArg some (by kernel_rfl))⟩
 f25:=⟨Try.f134.name,by decide,Try.func134.trans (congrArg some (by kernel_rfl))⟩
 f26:=⟨Try.f135.name,by decide,Try.func135.trans (congrArg some (by kernel_rfl))⟩
 f27:=⟨Try.f136.name,by decide,Try.func136.trans (congrArg some (by kernel_rfl))⟩
 f28:=Try.func137.trans (congrArg some (by kernel_rfl))
 f29:=Try.func138.trans (congrArg some (by kernel_rfl))
 f46:=⟨Try.f148.name,by decide,Try.func148.trans (congrArg some (by kernel_rfl))⟩
 f47:=Try.func149.trans (congrArg some (by kernel_rfl))
 f48:=Try.func150.trans (congrArg some (by kernel_rfl))
 f49:=⟨Try.f151.name,by decide,Try.func151.trans (congrArg some (by kernel_rfl))⟩
 f50:=⟨Try.f152.name,by decide,Try.func152.trans (congrArg some (by kernel_rfl))⟩
 f57:=⟨Try.f154.name,by decide,Try.func154.trans (congrArg some (by kernel_rfl))⟩
 t0:=Try.underlying0
 a0:=Try.isAgg0
 z0:=Try.sizeOf0
 v0:=Try.zeroValue0
 t3:=Try.underlying3
 a3:=Try.isAgg3
 z3:=Try.sizeOf3
 v3:=Try.zeroValue3
 t4:=Try.underlying4
 a4:=Try.isAgg4
 z4:=Try.sizeOf4
 v4:=Try.zeroValue4
 t5:=Try.underlying5
 a5:=Try.isAgg5
 z5:=Try.sizeOf5
 v5:=Try.zeroValue5
 t9:=Try.underlying9
 a9:=Try.isAgg9
 z9:=Try.sizeOf9
 v9:=Try.zeroValue9
 t22:=Try.underlying22
 a22:=Try.isAgg22
 z22:=Try.sizeOf22
 v22:=Try.zeroValue22
 t25:=Try.underlying64
 a25:=Try.isAgg64
 z25:=Try.sizeOf64
 v25:=Try.zeroValue64
 t39:=Try.underlying102
 a39:=Try.isAgg102
 z39:=Try.sizeOf102
 v39:=Try.zeroValue102
 t45:=Try.underlying111
 a45:=Try.isAgg111
 z45:=Try.sizeOf111
 v45:=Try.zeroValue111
 t46:=Try.underlying112
 a46:=Try.isAgg112
 z46:=Try.sizeOf112
 v46:=Try.zeroValue112
 t50:=Try.underlying81
 a50:=Try.isAgg81
 z50:=Try.sizeOf81
 v50:=Try.zeroValue81
 t53:=Try.underlying118
 a53:=Try.isAgg118
 z53:=Try.sizeOf118
 v53:=Try.zeroValue118
 t55:=Try.underlying120
 a55:=Try.isAgg120
 z55:=Try.sizeOf120
 v55:=Try.zeroValue120
 t66:=Try.underlying123
 a66:=Try.isAgg123
 z66:=Try.sizeOf123
 v66:=Try.zeroValue123
 t70:=Try.underlying127
 a70:=Try.isAgg127
 z70:=Try.sizeOf127
 v70:=Try.zeroValue127
 t76:=Try.underlying129
 a76:=Try.isAgg129
 z76:=Try.sizeOf129
 v76:=Try.zeroValue129
 t77:=Try.underlying104
 a77:=Try.isAgg104
 z77:=Try.sizeOf104
 v77:=Try.zeroValue104 }
open Go.RowKit Go.Lib Go.Sort in
theorem Try.slices_SortFunc_none {α:Type} [Inhabited α] (p:Option Addr) (cap:Nat) (fv:Value) (w:World) :
  Calls Try.prog 93 #[.slice p 0 cap,fv] w fun e w'=>e=.returned (.tuple #[])∧w'=w:=AnyF.slices_SortFunc_none Try.laysSlF06_f93 p cap fv w
def Try.laysSlF6_f93_ren:Go.Shelf.Ren:=⟨fun|6=>93|15=>113|14=>112|28=>137|29=>138|20=>129|21=>130|22=>131|23=>132|24=>133|25=>134|26=>135|27=>136|46=>148|47=>149|48=>150|49=>151|50=>152|57=>154|n=>n,fun|22=>22|24=>3|25=>64|3=>3|39=>102|0=>0|53=>118|55=>120|4=>4|46=>112|45=>111|50=>81|5=>5|9=>9|66=>123|70=>127|76=>129|77=>104|n=>n,fun|n=>n⟩
theorem Try.laysSlF6_f93:Go.Proofs.SlLaysF.n6 Try.prog Try.laysSlF6_f93_ren:={
 mixed:=by kernel_rfl
 f6:=⟨Try.f93.name,by decide,Try.func93.trans (congrArg some (by kernel_rfl))⟩
 f14:=⟨Try.f112.name,by decide,Try.func112.trans (congrArg some (by kernel_rfl))⟩
 f15:=Try.func113.trans (congrArg some (by kernel_rfl))
 f20:=⟨Try.f129.name,by decide,Try.func129.trans (congrArg some (by kernel_rfl))⟩
 f21:=⟨Try.f130.name,by decide,Try.func130.trans (congrArg some (by kernel_rfl))⟩
 f22:=⟨Try.f131.name,by decide,Try.func131.trans (congrArg some (by kernel_rfl))⟩
 f23:=⟨Try.f132.name,by decide,Try.func132.trans (congrArg some (by kernel_rfl))⟩
 f24:=⟨Try.f133.name,by decide,Try.func133.trans (congrArg some (by kernel_rfl))⟩
 f25:=⟨Try.f134.name,by decide,Try.func134.trans (congrArg some (by kernel_rfl))⟩
 f26:=⟨Try.f135.name,by decide,Try.func135.trans (congrArg some (by kernel_rfl))⟩
 f27:=⟨Try.f136.name,by decide,Try.func136.trans (congrArg some (by kernel_rfl))⟩
 f28:=Try.func137.trans (congrArg some (by kernel_rfl))
 f29:=Try.func138.trans (congrArg some (by kernel_rfl))
 f46:=⟨Try.f148.name,by decide,Try.func148.trans (congrArg some (by kernel_rfl))⟩
 f47:=Try.func149.trans (congrArg some (by kernel_rfl))
 f48:=Try.func150.trans (congrArg some (by kernel_rfl))
 f49:=⟨Try.f151.name,by decide,Try.func151.trans (congrArg some (by kernel_rfl))⟩
 f50:=⟨Try.f152.name,by decide,Try.func152.trans (congrArg some (by kernel_rfl))⟩
 f57:=⟨Try.f154.name,by decide,Try.func154.trans (congrArg some (by kernel_rfl))⟩
 t0:=Try.underlying0
 a0:=Try.isAgg0
 z0:=Try.sizeOf0
 v0:=Try.zeroValue0
 t3:=Try.underlying3
 a3:=Try.isAgg3
 z3:=Try.sizeOf3
 v3:=Try.zeroValue3
 t4:=Try.underlying4
 a4:=Try.isAgg4
 z4:=Try.sizeOf4
 v4:=Try.zeroValue4
 t5:=Try.underlying5
 a5:=Try.isAgg5
 z5:=Try.sizeOf5
 v5:=Try.zeroValue5
 t9:=Try.underlying9
 a9:=Try.isAgg9
 z9:=Try.sizeOf9
 v9:=Try.zeroValue9
 t22:=Try.underlying22
 a22:=Try.isAgg22
 z22:=Try.sizeOf22
 v22:=Try.zeroValue22
 a24:=Try.isAgg3
 z24:=Try.sizeOf3
 t25:=Try.underlying64
 a25:=Try.isAgg64
 z25:=Try.sizeOf64
 v25:=Try.zeroValue64
 t39:=Try.underlying102
 a39:=Try.isAgg102
 z39:=Try.sizeOf102
 v39:=Try.zeroValue102
 t45:=Try.underlying111
 a45:=Try.isAgg111
 z45:=Try.sizeOf111
 v45:=Try.zeroValue111
 t46:=Try.underlying112
 a46:=Try.isAgg112
 z46:=Try.sizeOf112
 v46:=Try.zeroValue112
 t50:=Try.underlying81
 a50:=Try.isAgg81
 z50:=Try.sizeOf81
 v50:=Try.zeroValue81
 t53:=Try.underlying118
 a53:=Try.isAgg118
 z53:=Try.sizeOf118
 v53:=Try.zeroValue118
 t55:=Try.underlying120
 a55:=Try.isAgg120
 z55:=Try.sizeOf120
 v55:=Try.zeroValue120
 t66:=Try.underlying123
 a66:=Try.isAgg123
 z66:=Try.sizeOf123
 v66:=Try.zeroValue123
 t70:=Try.underlying127
 a70:=Try.isAgg127
 z70:=Try.sizeOf127
 v70:=Try.zeroValue127
 t76:=Try.underlying129
 a76:=Try.isAgg129
 z76:=Try.sizeOf129
 v76:=Try.zeroValue129
 t77:=Try.underlying104
 a77:=Try.isAgg104
 z77:=Try.sizeOf104
 v77:=Try.zeroValue104 }
open Go.RowKit Go.Lib Go.Sort in
theorem Try.slices_SortFunc_total {α:Type} [Inhabited α] (enc:α→Value) (h1:OneCell enc) (cf:α→α→Int) (hO:SWO (ltOf cf)) (g:Nat) (cb:Array Value) (blk off cap:Nat) (d:Array α) (w:World) (eg:∀ args w,(callFunc g args).run Try.prog w=.ok (.enter g args) w) (hcmp:CmpLays1 Try.prog g cb enc cf blk off d.size w) (hH:Holds enc w blk off d) (hblk:blk < w.heap.size) (hsz:d.size < 4611686018427387904) (hT:∀ x y,(ltOf cf) x y=false→(ltOf cf) y x=false→x=y) :
  Calls Try.prog 93 #[.slice (some ⟨blk,off,none⟩) d.size cap,.func (.func g) #[] cb] w fun e w' =>
   e=.returned (.tuple #[])∧∃ n os,w'=sortWorld enc w blk off n (d.toList.mergeSort fun x y=>!(ltOf cf) y x).toArray os:=Any.slices_SortFunc_total Try.laysSlF6_f93 enc h1 cf hO g cb blk off cap d w eg hcmp hH hblk hsz hT
end Go.Proofs
namespace Go.Proofs.Ytkjlcbfjllpcnaa.X
open Go.RowKit Go.Proofs.YtkjlcbfjllpcnaaW.PrintWords Go.Proofs.YtkjlcbfjllpcnaaW.PrintLast Go.Proofs.YtkjlcbfjllpcnaaW.PrintMore
set_option linter.unusedVariables false
theorem spot_none {w:World} {ad:Addr} {v:Value} (h:w.cell? ad=some v):ad.spot=none:=by
 unfold World.cell? at h
 split at h
 ·split at h
  ·cases h
  ·rename_i hs;simpa using hs
 ·cases h
theorem C_ints {w:World} {A:Option Addr} {xs:List Int} (h:(Kd.int .i64).C w A xs.length xs) (hn:0 < xs.length) :
  ∃ b off,A=some ⟨b,off,none⟩∧b < w.heap.size∧∀ j,j < xs.length→w.cell? ⟨b,off+j,none⟩=some (.int .i64 xs[j]!):=by
 obtain ⟨_,_,h2⟩:=h
 obtain ⟨ad,rfl,hc⟩:=h2 hn
 have hcell:∀ j,j < xs.length→w.cell? (ad.add j)=some (.int .i64 xs[j]!):=by
  intro j hj
  obtain ⟨c,hl,hr,hu⟩:=hc j xs[j] (List.getElem?_eq_getElem hj)
  have hr':c=[.int .i64 xs[j]]:=hr
  subst hr'
  have:=hu 0 _ rfl
  simpa [Kd.int,Kd.scalar,hj] using this
 have hs:ad.spot=none:=by
  have:=hcell 0 hn
  rw [show ad.add 0=ad by simp [Addr.add]] at this
  exact spot_none this
 obtain ⟨b,off,spot⟩:=ad
 simp only at hs
 subst hs
 refine ⟨b,off,rfl,?_,fun j hj=>?_⟩
 ·have:=World.block_lt_of_cell? w _ (hcell 0 hn)
  rw [show (⟨b,off,none⟩:Addr).add 0=⟨b,off,none⟩ by simp [Addr.add]] at this
  exact this
 ·have:=hcell j hj
  rcases Nat.eq_zero_or_pos j with rfl|hj0
  ·simpa [Addr.add] using this
  ·have he:(⟨b,off,none⟩:Addr).add j=⟨b,off+j,none⟩:=by simp [Addr.add,Nat.pos_iff_ne_zero.1 hj0]
   rwa [he] at this
theorem C_max {w:World} {A:Option Addr} {xs:List Int} (h:(Kd.int .i64).C w A xs.length xs):xs.length≤9223372036854775807:=h.2.1
end Go.Proofs.Ytkjlcbfjllpcnaa.X
namespace Go.Proofs.Ytkjlcbfjllpcnaa.X
open Go.RowKit Go.Proofs.YtkjlcbfjllpcnaaW.PrintWords Go.Proofs.YtkjlcbfjllpcnaaW.PrintLast Go.Proofs.YtkjlcbfjllpcnaaW.PrintMore
attribute [local go_sem] max2_int min2_int max_two min_two max_three min_three max_four min_four
set_option linter.unusedVariables false
set_option linter.unusedSimpArgs false
mutual
def trustquorummake_trust.l0:Nat→Int→Int→List Int→Int→Int→List Int→Int→Int→List Int→Option (Int × List Int × (List (S32)) × Int)
 | 0,_,_,_,_,_,_,_,_,_=>none
 | k+1,x1,x2,x20,x21,x22,x1000,x1001,x142000,x142001=>if x22 < x21 then (if 0≤x22 then (if x22 < (x20.length:Int) then (if x142001.length < 17592186044416 then (trustquorummake_trust.l0 k x1 x2 x20 x21 (wrap64 (x22+1)) x1000 x1001 x142000 (x142001++[rd x20 x22])) else (none)) else (none)) else (none)) else (if x2 > 1 then ((trustquorummake_Tape_Pick.f x1000 x1001 (([0,0,1,1,2,3]:List Int))).bind fun bt159=>(trustquorummake_trust.l1 k x1 x2 bt159.1 x1000 bt159.2 x142000 x142001 ([]:List (S32)))) else ((trustquorummake_Tape_Range.f x1000 x1001 1 (wrap64 ((x142001.length:Int)+(([]:List (S32)).length:Int)))).bind fun bt180=>(some (bt180.1,x142001,([]:List (S32)),bt180.2))))
def trustquorummake_trust.l1:Nat→Int→Int→Int→List Int→Int→Int→List Int→List (S32)→Option (Int × List Int × (List (S32)) × Int)
 | 0,_,_,_,_,_,_,_,_=>none
 | k+1,x1,x2,x11,x1000,x1001,x142000,x142001,x142002=>if x11 > 0 then ((trustquorummake_trust.f k x1000 x1001 x1 (wrap64 (x2 - 1))).bind fun bt161=>(if x142002.length < 2513169434916 then (trustquorummake_trust.l1 k x1 x2 (wrap64 (x11 - 1)) x1000 bt161.2.2.2 x142000 x142001 (x142002++[(⟨bt161.1,bt161.2.1,bt161.2.2.1⟩:S32)])) else (none))) else (if (x142002.length:Int) > 0 then ((trustquorummake_Tape_N.f x1000 x1001 3).bind fun bt172=>(if bt172.1=0 then ((trustquorummake_Tape_Range.f x1000 bt172.2 1 (wrap64 ((([]:List Int).length:Int)+(x142002.length:Int)))).bind fun bt174=>(some (bt174.1,([]:List Int),x142002,bt174.2))) else ((trustquorummake_Tape_Range.f x1000 bt172.2 1 (wrap64 ((x142001.length:Int)+(x142002.length:Int)))).bind fun bt176=>(some (bt176.1,x142001,x142002,bt176.2))))) else ((trustquorummake_Tape_Range.f x1000 x1001 1 (wrap64 ((x142001.length:Int)+(x142002.length:Int)))).bind fun bt178=>(some (bt178.1,x142001,x142002,bt178.2))))
def trustquorummake_trust.f:Nat→List Int→Int→Int→Int→Option (Int × List Int × (List (S32)) × Int)
 | 0,_,_,_,_=>none
 | k+1,s0_0,s0_1,a1,a2=>(trustquorummake_Tape_Order.f k s0_0 s0_1 a1).bind fun bt142=>((trustquorummake_Tape_Range.f s0_0 bt142.2 1 (mn a1 5)).bind fun bt146=>(if 0≤bt146.1 then (if bt146.1≤(bt142.1.length:Int) then ((some (bt142.1.take (bt146.1:Int).toNat:List Int)).bind fun y148=>(trustquorummake_trust.l0 k a1 a2 y148 (y148.length:Int) 0 s0_0 bt146.2 0 ([]:List Int))) else (none)) else (none)))
end
def trustquorummake_trust.T12:Bool × List (List Nat × List Nat):=(true,[([],[]),([0],[0]),([],[]),([],[]),([],[]),([4],[4]),([2,3,5],[2,3,5]),([6],[6]),([1,7,6],[1,7]),([0,1,2,3,4,5,6,7,8],[]),([9,8,8,0,1,2,3,4,5,6,7,8],[8,9])])
def trustquorummake_trust.B12:List Nat:=[0,1,0,0,0,16,60,124,255,511,1023]
theorem trustquorummake_trust.tab12:rtab .any (opsOf Try.f79 12)=trustquorummake_trust.T12:=by kernel_rfl
theorem trustquorummake_trust.bits12:waitsOk trustquorummake_trust.T12.2 trustquorummake_trust.B12=true:=by kernel_rfl
set_option maxHeartbeats 8000000 in
set_option maxRecDepth 100000 in
theorem trustquorummake_trust.calls (k:Nat):∀ (g:Nat) (s0_0:List Int) (s0_1:Int) (a1:Int) (a2:Int) (r1:Int) (r2:List Int) (r3:List (S32)) (r4:Int) (w0 w:World) (hI:IsS71 w0 w g s0_0 s0_1) (hB:Below w0.heap.size w0 w) (h:trustquorummake_trust.f k s0_0 s0_1 a1 a2=some (r1,r2,r3,r4)),
  Calls Try.prog 79 #[.pointer (some ⟨g,0,none⟩),.int .i64 a1,.int .i64 a2] w fun e w'=>∃ v1_ v2_:Value,e=.returned (.agg #[.int .i64 r1,v1_,v2_])∧Kd.R (Kd.int .i64) 3 w' w.heap.size (fun _=>True) v1_ r2∧Kd.R k32 32 w' w.heap.size (fun k_=>some k_ ≠ (v1_:Value).ownBlock) v2_ r3∧IsS71 w0 w' g s0_0 r4∧Below w0.heap.size w0 w'∧KeepBut w w' g none:=by
 induction k using Nat.strongRecOn with
 | _ k ih =>
 intro g s0_0 s0_1 a1 a2 r1 r2 r3 r4 w0 w hI hB h
 cases k with
 | zero=>exact absurd h (by simp [trustquorummake_trust.f])
 | succ k =>
 simp only [trustquorummake_trust.f] at h
 have hu32:=Try.underlying32
 have HI0:=Aside0.mk hI
 have HK:=Aside0.mk (KeepBut.refl w g none)
 have HL:=Aside0.mk hB.size
 clear hI
 have HW0:=Aside0.mk hB.size
 have HB:=Aside0.mk hB
 clear hB
 have H:((trustquorummake_Tape_Order.f k s0_0 s0_1 a1).bind fun bt142=>((trustquorummake_Tape_Range.f s0_0 bt142.2 1 (mn a1 5)).bind fun bt146=>(if 0≤bt146.1 then (if bt146.1≤(bt142.1.length:Int) then ((some (bt142.1.take (bt146.1:Int).toNat:List Int)).bind fun y148=>(trustquorummake_trust.l0 k a1 a2 y148 (y148.length:Int) 0 s0_0 bt146.2 0 ([]:List Int))) else (none)) else (none))))=some (r1,r2,r3,r4):=h
 clear h
 replace H:=Option.bind_eq_some_iff.mp H
 obtain ⟨⟨t142,t145⟩,A40,H⟩:=H
 replace H:((trustquorummake_Tape_Range.f s0_0 t145 1 (mn a1 5)).bind fun bt146=>(if 0≤bt146.1 then (if bt146.1≤(t142.length:Int) then ((some (t142.take (bt146.1:Int).toNat:List Int)).bind fun y148=>(trustquorummake_trust.l0 k a1 a2 y148 (y148.length:Int) 0 s0_0 bt146.2 0 ([]:List Int))) else (none)) else (none)))=some (r1,r2,r3,r4):=H
 have A4:=Aside0.mk A40
 clear A40
 obtain ⟨ji5,hji5⟩:∃ j_:Int,(mn a1 5)=j_:=⟨_,rfl⟩
 replace H:((trustquorummake_Tape_Range.f s0_0 t145 1 (ji5)).bind fun bt146=>(if 0≤bt146.1 then (if bt146.1≤(t142.length:Int) then ((some (t142.take (bt146.1:Int).toNat:List Int)).bind fun y148=>(trustquorummake_trust.l0 k a1 a2 y148 (y148.length:Int) 0 s0_0 bt146.2 0 ([]:List Int))) else (none)) else (none)))=some (r1,r2,r3,r4):=by first|(rw [hji5] at H;exact H)|(simp only [hji5] at H ⊢;exact H)
 (try rw [hji5] at A4)
 (try (have hji5h:ji5≤5:=by (rw [← hji5];unfold mn;(repeat' split) <;> omega)))
 (try (have hji5g:ji5≤64:=by omega))
 have hji5_:(if 5 < a1 then 5 else a1)=ji5:=hji5
 replace H:=Option.bind_eq_some_iff.mp H
 obtain ⟨⟨t146,t147⟩,A60,H⟩:=H
 replace H:(if 0≤t146 then (if t146≤(t142.length:Int) then ((some (t142.take (t146:Int).toNat:List Int)).bind fun y148=>(trustquorummake_trust.l0 k a1 a2 y148 (y148.length:Int) 0 s0_0 t147 0 ([]:List Int))) else (none)) else (none))=some (r1,r2,r3,r4):=H
 have A6:=Aside0.mk A60
 clear A60
 by_cases c7:0≤t146
 ·rw [if_pos c7] at H
  have c7b0:=eq_true c7
  have c7b1:decide (0≤t146)=true:=decide_eq_true c7
  clear c7
  by_cases c8:t146≤(t142.length:Int)
  ·rw [if_pos c8] at H
   have c8b0:=eq_true c8
   have c8b1:decide (t146≤(t142.length:Int))=true:=decide_eq_true c8
   clear c8
   obtain ⟨y148,hy148⟩:∃ y_:List Int,y_=(t142.take (t146:Int).toNat):=⟨_,rfl⟩
   replace H:(trustquorummake_trust.l0 k a1 a2 y148 (y148.length:Int) 0 s0_0 t147 0 ([]:List Int))=some (r1,r2,r3,r4):=by first|(rw [hy148];with_reducible exact H)|(have H2_:=(Option.bind_some _ _).symm.trans H;rw [hy148];with_reducible exact H2_)|(have H2_:=(Option.bind_some _ _).symm.trans H;with_reducible exact H2_)|with_reducible exact H|(rw [hy148];exact H)|exact H
   have Ny148:=Aside0.mk hy148
   clear hy148
   have H':=Aside0.mk H
   clear H
   go_enter Try.func79,Try.ntmps79
   go_wp2_with (first|((with_reducible refine gate_dst (N:=6) rfl ?_);refine box_event ?hg (N:=6) ?hd (cs:=#[.int .i64 0,.slice none 0 0,.slice none 0 0]) (t:=32) ?hr ?_;(case hd=>rfl);(case hg=>rfl);(case hr=>first|(go_simp;done)|(go_simp;rfl));intro gb140 hg w9 hbox hb;have n0_:=Aside0.mk (IsS71.below (by repeat (first|(with_reducible first|exact HI0.out|apply IsS71.alloc|apply IsS71.drewN|apply IsS71.drew|apply IsS71.set_1)|exact HI0.out)) hb);have n1_:=Aside0.mk (KeepBut.trans (by repeat (first|(with_reducible first|exact HK.out|apply KeepBut.set_|apply keep_drewN|apply keep_drew|apply keep_alloc)|exact HK.out)) (KeepBut.of_below hb g none) (.inl rfl));have n2_:=Aside0.mk (below_step (by repeat (first|(with_reducible first|exact HB.out|apply wA|apply wN|apply wD|refine wS ?_ (IsS71.ge HI0.out))|exact HB.out)) hb);have n3_:=Aside0.mk (hbox);have n4_:=Aside0.mk ((by rw [hg];exact (keep_size (w:=w) (g:=g) (row:=none) (by repeat (first|(with_reducible first|exact HK.out|apply KeepBut.set_|apply keep_drewN|apply keep_drew|apply keep_alloc)|exact HK.out))):w.heap.size≤gb140));have n5_:=Aside0.mk ((Nat.le_trans HW0.out (by rw [hg];exact (keep_size (w:=w) (g:=g) (row:=none) (by repeat (first|(with_reducible first|exact HK.out|apply KeepBut.set_|apply keep_drewN|apply keep_drew|apply keep_alloc)|exact HK.out))):w.heap.size≤gb140):w0.heap.size≤gb140));have n6_:=Aside0.mk ((by rw [hg];exact Nat.ne_of_lt (IsS71.lt (show IsS71 w0 _ g s0_0 s0_1 from by repeat (first|(with_reducible first|exact HI0.out|apply IsS71.alloc|apply IsS71.drewN|apply IsS71.drew|apply IsS71.set_1)|exact HI0.out))):g ≠ gb140));have n7_:=Aside0.mk ((by rw [hg];exact Nat.ne_of_gt (IsS71.lt (show IsS71 w0 _ g s0_0 s0_1 from by repeat (first|(with_reducible first|exact HI0.out|apply IsS71.alloc|apply IsS71.drewN|apply IsS71.drew|apply IsS71.set_1)|exact HI0.out))):gb140 ≠ g));clear HI0;clear HK;clear HB;have HI0:=n0_;have HK:=n1_;have HB:=n2_;have BK140:=n3_;have GW140:=n4_;have GE140:=n5_;have NB0_140:=n6_;have NB140_0:=n7_;clear n0_ n1_ n2_ n3_ n4_ n5_ n6_ n7_;clear hb hbox hg)|((with_reducible refine gate_dst (N:=7) rfl ?_);refine box_event ?hg (N:=7) ?hd (cs:=#[.int .i64 0,.slice none 0 0,.slice none 0 0]) (t:=32) ?hr ?_;(case hd=>rfl);(case hg=>rfl);(case hr=>first|(go_simp;done)|(go_simp;rfl));intro gb141 hg w10 hbox hb;have n0_:=Aside0.mk (IsS71.below (by repeat (first|(with_reducible first|exact HI0.out|apply IsS71.alloc|apply IsS71.drewN|apply IsS71.drew|apply IsS71.set_1|refine IsS71.far ?_ NB0_140.out _)|exact HI0.out)) hb);have n1_:=Aside0.mk (blk_below (g:=gb140) (o:=.cells #[.int .i64 0,.slice none 0 0,.slice none 0 0] 32 (0,0)) (by (with_reducible repeat (first|refine kN ?_ _|refine kD ?_|refine kA ?_ _));exact BK140.out) hb);have n2_:=Aside0.mk (KeepBut.trans (by repeat (first|(with_reducible first|exact HK.out|apply KeepBut.set_|apply keep_drewN|apply keep_drew|apply keep_alloc|refine eF ?_ GW140.out _)|exact HK.out)) (KeepBut.of_below hb g none) (.inl rfl));have n3_:=Aside0.mk (below_step (by repeat (first|(with_reducible first|exact HB.out|apply wA|apply wN|apply wD|refine wS ?_ (IsS71.ge HI0.out)|refine wS ?_ GE140.out)|exact HB.out)) hb);have n4_:=Aside0.mk (hbox);have n5_:=Aside0.mk ((by rw [hg];exact (keep_size (w:=w) (g:=g) (row:=none) (by repeat (first|(with_reducible first|exact HK.out|apply KeepBut.set_|apply keep_drewN|apply keep_drew|apply keep_alloc|refine eF ?_ GW140.out _)|exact HK.out))):w.heap.size≤gb141));have n6_:=Aside0.mk ((Nat.le_trans HW0.out (by rw [hg];exact (keep_size (w:=w) (g:=g) (row:=none) (by repeat (first|(with_reducible first|exact HK.out|apply KeepBut.set_|apply keep_drewN|apply keep_drew|apply keep_alloc|refine eF ?_ GW140.out _)|exact HK.out))):w.heap.size≤gb141):w0.heap.size≤gb141));have n7_:=Aside0.mk ((by rw [hg];exact Nat.ne_of_lt (blk_lt (g:=gb140) (o:=.cells #[.int .i64 0,.slice none 0 0,.slice none 0 0] 32 (0,0)) (by (with_reducible repeat (first|refine kN ?_ _|refine kD ?_|refine kA ?_ _));exact BK140.out)):gb140 ≠ gb141));have n8_:=Aside0.mk ((by rw [hg];exact Nat.ne_of_gt (blk_lt (g:=gb140) (o:=.cells #[.int .i64 0,.slice none 0 0,.slice none 0 0] 32 (0,0)) (by (with_reducible repeat (first|refine kN ?_ _|refine kD ?_|refine kA ?_ _));exact BK140.out)):gb141 ≠ gb140));have n9_:=Aside0.mk ((by rw [hg];exact Nat.ne_of_lt (IsS71.lt (show IsS71 w0 _ g s0_0 s0_1 from by repeat (first|(with_reducible first|exact HI0.out|apply IsS71.alloc|apply IsS71.drewN|apply IsS71.drew|apply IsS71.set_1|refine IsS71.far ?_ NB0_140.out _)|exact HI0.out))):g ≠ gb141));have n10_:=Aside0.mk ((by rw [hg];exact Nat.ne_of_gt (IsS71.lt (show IsS71 w0 _ g s0_0 s0_1 from by repeat (first|(with_reducible first|exact HI0.out|apply IsS71.alloc|apply IsS71.drewN|apply IsS71.drew|apply IsS71.set_1|refine IsS71.far ?_ NB0_140.out _)|exact HI0.out))):gb141 ≠ g));clear HI0;clear BK140;clear HK;clear HB;have HI0:=n0_;have BK140:=n1_;have HK:=n2_;have HB:=n3_;have BK141:=n4_;have GW141:=n5_;have GE141:=n6_;have NB140_141:=n7_;have NB141_140:=n8_;have NB0_141:=n9_;have NB141_0:=n10_;clear n0_ n1_ n2_ n3_ n4_ n5_ n6_ n7_ n8_ n9_ n10_;clear hb hbox hg)|((with_reducible refine gate_callee (f:=33) rfl ?_);refine goesL_ (some 14) rfl rfl Try.func33 (by kernel_rfl) rfl #[.pointer (some ⟨g,0,none⟩),.int .i64 a1] rfl (by (try simp only [List.map_toArray,List.map_cons,List.map_nil]);first|done|rfl|(simp only [List.length_drop,List.length_take];rfl)) ?_;(with_reducible refine (trustquorummake_Tape_Order.calls k g s0_0 s0_1 a1 t142 t145 w0 _ ?side1 ?side2 A4.out).mono ?_);(case side1=>repeat (first|(with_reducible first|exact HI0.out|apply IsS71.alloc|apply IsS71.drewN|apply IsS71.drew|apply IsS71.set_1|refine IsS71.far ?_ NB0_140.out _|refine IsS71.far ?_ NB0_141.out _)|exact HI0.out));(case side2=>repeat (first|(with_reducible first|exact HB.out|apply wA|apply wN|apply wD|refine wS ?_ (IsS71.ge HI0.out)|refine wS ?_ GE140.out|refine wS ?_ GE141.out)|exact HB.out));rintro e w11 ⟨v143,rfl,ho0,hi,hb,hk⟩;refine ⟨_,rfl,?_⟩;have n0_:=Aside0.mk (KeepBut.blk hk (g':=gb140) (o:=.cells #[.int .i64 0,.slice none 0 0,.slice none 0 0] 32 (0,0)) (by (with_reducible repeat (first|refine kN ?_ _|refine kD ?_|refine kA ?_ _));exact BK140.out) NB140_0.out (by simp));have n1_:=Aside0.mk (KeepBut.blk hk (g':=gb141) (o:=.cells #[.int .i64 0,.slice none 0 0,.slice none 0 0] 32 (0,0)) (by (with_reducible repeat (first|refine kN ?_ _|refine kD ?_|refine kA ?_ _));exact BK141.out) NB141_0.out (by simp));have n2_:=Aside0.mk (Kd.R_lower ho0 (keep_size (w:=w) (g:=g) (row:=none) (by repeat (first|(with_reducible first|exact HK.out|apply KeepBut.set_|apply keep_drewN|apply keep_drew|apply keep_alloc|refine eF ?_ GW140.out _|refine eF ?_ GW141.out _)|exact HK.out))));have n3_:=Aside0.mk (KeepBut.trans (by repeat (first|(with_reducible first|exact HK.out|apply KeepBut.set_|apply keep_drewN|apply keep_drew|apply keep_alloc|refine eF ?_ GW140.out _|refine eF ?_ GW141.out _)|exact HK.out)) hk (.inl rfl));have n4_:=Aside0.mk (hb);have n5_:=Aside0.mk (hi);clear BK140;clear BK141;clear HK;clear HB;clear HI0;have BK140:=n0_;have BK141:=n1_;have HO144:=n2_;have HK:=n3_;have HB:=n4_;have HI0:=n5_;clear n0_ n1_ n2_ n3_ n4_ n5_;(try clear hb);(try clear hb2);(try clear hk);(try clear hi);(try clear ho0))|((with_reducible refine gate_callee (f:=44) rfl ?_);refine goesL_ (some 19) rfl rfl Try.func44 (by kernel_rfl) rfl #[.pointer (some ⟨g,0,none⟩),.int .i64 1,.int .i64 ji5] rfl (by (try simp only [List.map_toArray,List.map_cons,List.map_nil]);first|done|(simp only [hji5];rfl)|rfl|(simp only [List.length_drop,List.length_take];rfl)) ?_;(with_reducible refine (trustquorummake_Tape_Range.calls g s0_0 t145 1 ji5 t146 t147 w0 _ ?side1 ?side2 A6.out).mono ?_);(case side1=>repeat (first|(with_reducible first|exact HI0.out|apply IsS71.alloc|apply IsS71.drewN|apply IsS71.drew|apply IsS71.set_1|refine IsS71.far ?_ NB0_140.out _|refine IsS71.far ?_ NB0_141.out _)|exact HI0.out));(case side2=>repeat (first|(with_reducible first|exact HB.out|apply wA|apply wN|apply wD|refine wS ?_ (IsS71.ge HI0.out)|refine wS ?_ GE140.out|refine wS ?_ GE141.out)|exact HB.out));rintro e w12 ⟨rfl,hi,hb,hk⟩;refine ⟨_,rfl,?_⟩;have n0_:=Aside0.mk (KeepBut.blk hk (g':=gb140) (o:=.cells #[.int .i64 0,.slice none 0 0,.slice none 0 0] 32 (0,0)) (by (with_reducible repeat (first|refine kN ?_ _|refine kD ?_|refine kA ?_ _));exact BK140.out) NB140_0.out (by simp));have n1_:=Aside0.mk (KeepBut.blk hk (g':=gb141) (o:=.cells #[.int .i64 0,.slice none 0 0,.slice none 0 0] 32 (0,0)) (by (with_reducible repeat (first|refine kN ?_ _|refine kD ?_|refine kA ?_ _));exact BK141.out) NB141_0.out (by simp));have n2_:=Aside0.mk (Kd.R_mono (Kd.R_keep (IsS71.apart (show IsS71 w0 _ g s0_0 t145 from by repeat (first|(with_reducible first|exact HI0.out|apply IsS71.alloc|apply IsS71.drewN|apply IsS71.drew|apply IsS71.set_1|refine IsS71.far ?_ NB0_140.out _|refine IsS71.far ?_ NB0_141.out _)|exact HI0.out)) (by (with_reducible repeat (first|apply Kd.R_alloc|apply Kd.R_drewN|apply Kd.R_drew));exact HO144.out) (by decide)) hk (fun _ h=>h.2)) (fun _ h=>h.1));have n3_:=Aside0.mk (KeepBut.trans (by repeat (first|(with_reducible first|exact HK.out|apply KeepBut.set_|apply keep_drewN|apply keep_drew|apply keep_alloc|refine eF ?_ GW140.out _|refine eF ?_ GW141.out _)|exact HK.out)) hk (.inl rfl));have n4_:=Aside0.mk (hb);have n5_:=Aside0.mk (hi);clear BK140;clear BK141;clear HO144;clear HK;clear HB;clear HI0;have BK140:=n0_;have BK141:=n1_;have HO144:=n2_;have HK:=n3_;have HB:=n4_;have HI0:=n5_;clear n0_ n1_ n2_ n3_ n4_ n5_;(try clear hb);(try clear hb2);(try clear hk);(try clear hi);obtain ⟨Ao14,co14,eo14⟩:=Kd.R_slice HO144.out;subst eo14;have q13:(t146:Int)≤((t142.length:Int):Int):=of_decide_eq_true (by first|(with_reducible assumption)|assumption);obtain ⟨i013,hi013,_,hsz13,_⟩:=info_parts info3;have hroom13:t142.length≤co14:=(Kd.R_reads' HO144.out).2.1;have hC13:Kd.C (Kd.int .i64) _ Ao14 t142.length t142:=(Kd.R_reads' HO144.out).2.2;have hcut13:=cut_to (P:=Try.prog) 22 3 .i64 Try.underlying22 hi013 Ao14 t142.length co14 t146 (of_decide_eq_true (by first|(with_reducible assumption)|assumption)) q13 hroom13;have hr13:=Kd.C_take (m:=(t146:Int).toNat) hC13 (by omega);have hy13:y148.length=(t146:Int).toNat:=(by rw [Ny148.out,List.length_take];omega);rw [← Ny148.out] at hr13;rw [← hy13] at hcut13;have HR151:=Aside0.mk hr13;have HC151:=Aside0.mk (show y148.length≤co14 from by omega);clear hr13 hC13 hroom13 hi013 hsz13;have KY13:=Aside0.mk hy13;clear hy13;have KL13:=Aside0.mk (show (t146:Int).toNat≤t142.length from by omega);replace q13:=eq_true q13))
   go_loopg [22] k (fun kq v22 w'=>∃ (x22_1:Int) (x142001_1:List Int) (u142001:Value),v22=.int .i64 x22_1∧Aside0 (trustquorummake_trust.l0 kq a1 a2 y148 (y148.length:Int) x22_1 s0_0 t147 0 x142001_1=some (r1,r2,r3,r4))∧Aside0 (kq≤k)∧Aside0 (Kd.R (Kd.int .i64) 3 w' w.heap.size (fun _=>True) u142001 x142001_1)∧Aside0 (w'.heap[gb140]?=some (.cells #[.int .i64 0,(.slice none 0 0),(.slice none 0 0)] 32 (0,0)))∧Aside0 (w'.heap[gb141]?=some (.cells #[.int .i64 0,u142001,(.slice none 0 0)] 32 (0,0)))∧Aside0 (IsS71 w0 w' g s0_0 t147)∧Aside0 (KeepBut w w' g none)∧Aside0 (Below w0.heap.size w0 w')∧Aside0 (Kd.R (Kd.int .i64) 3 w' w.heap.size (fun k_=>True∧some k_ ≠ (u142001:Value).ownBlock) (.slice Ao14 t142.length co14) t142))
   case atStart=>exact ⟨(0),(([]:List Int)),(.slice none 0 0),(by first|rfl|(simp;done)|(simp [*];done)),H',⟨Nat.le_refl _⟩,⟨by first|exact Kd.R_nil _ _ _ _ _|exact Kd.N_nil _ _ _ _ _|exact Kd.V_nil _ _ _ _ _|exact Kd.Q_nil _ _ _ _ _|exact Kd.S_nil _ _ _ _ _⟩,⟨by (with_reducible repeat (first|refine kN ?_ _|refine kD ?_|refine kA ?_ _));exact BK140.out⟩,⟨by (with_reducible repeat (first|refine kN ?_ _|refine kD ?_|refine kA ?_ _));exact BK141.out⟩,⟨by repeat (first|(with_reducible first|exact HI0.out|apply IsS71.alloc|apply IsS71.drewN|apply IsS71.drew|apply IsS71.set_1|refine IsS71.far ?_ NB0_140.out _|refine IsS71.far ?_ NB0_141.out _)|exact HI0.out)⟩,⟨by repeat (first|(with_reducible first|exact HK.out|apply KeepBut.set_|apply keep_drewN|apply keep_drew|apply keep_alloc|refine eF ?_ GW140.out _|refine eF ?_ GW141.out _)|exact HK.out)⟩,⟨by repeat (first|(with_reducible first|exact HB.out|apply wA|apply wN|apply wD|refine wS ?_ (IsS71.ge HI0.out)|refine wS ?_ GE140.out|refine wS ?_ GE141.out)|exact HB.out)⟩,⟨Kd.R_mono (by (with_reducible repeat (first|apply Kd.R_alloc|apply Kd.R_drewN|apply Kd.R_drew));exact HO144.out) (fun _ _=>⟨trivial,by simp [Value.ownBlock]⟩)⟩⟩
   case round =>
    clear H'
    try clear q1
    try clear p2
    try clear c3
    try clear c4
    try clear c7
    try clear c7b0
    try clear c7b1
    try clear c8
    try clear c8b0
    try clear c8b1
    try clear q13
    try clear q13
    obtain ⟨x22_1,x142001_1,u142001,rfl,HA,HK1,HO_142001,BK140,BK141,HI0,HK,HB,HZ⟩:=hrel
    cases gk with
    | zero=>exact absurd HA.out (by simp [trustquorummake_trust.l0])
    | succ k1 =>
     have H:=HA.out
     clear HA
     simp only [trustquorummake_trust.l0] at H
     by_cases c15:x22_1 < (y148.length:Int)
     ·rw [if_pos c15] at H
      have c15b0:decide (x22_1 < (y148.length:Int))=true:=decide_eq_true c15
      clear c15
      by_cases c16:0≤x22_1
      ·rw [if_pos c16] at H
       have c16b0:decide (0≤x22_1)=true:=decide_eq_true c16
       clear c16
       by_cases c17:x22_1 < (y148.length:Int)
       ·rw [if_pos c17] at H
        have c17b0:decide (x22_1 < (y148.length:Int))=true:=decide_eq_true c17
        clear c17
        by_cases c18:x142001_1.length < 17592186044416
        ·rw [if_pos c18] at H
         have LMc18:=Aside0.mk c18
         clear c18
         obtain ⟨y153,hy153⟩:∃ y_:List Int,y_=(x142001_1++[rd y148 x22_1]):=⟨_,rfl⟩
         replace H:(trustquorummake_trust.l0 k1 a1 a2 y148 (y148.length:Int) (wrap64 (x22_1+1)) s0_0 t147 0 y153)=some (r1,r2,r3,r4):=by first|(rw [hy153];with_reducible exact H)|(have H2_:=(Option.bind_some _ _).symm.trans H;rw [hy153];with_reducible exact H2_)|(have H2_:=(Option.bind_some _ _).symm.trans H;with_reducible exact H2_)|with_reducible exact H|(rw [hy153];exact H)|exact H
         have Ny153:=Aside0.mk hy153
         clear hy153
         have H':=Aside0.mk H
         clear H
         have p152:0≤(x22_1:Int):=of_decide_eq_true (by first|(with_reducible assumption)|assumption)
         have q152:x22_1 < (y148.length:Int):=of_decide_eq_true (by first|(with_reducible assumption)|assumption)
         have hz_:=Kd.C_take (m:=(t146:Int).toNat) (Kd.R_reads' HZ.out).2.2 KL13.out
         rw [← Ny148.out] at hz_
         obtain ⟨ad152,e152,hx152_0⟩:=Kd.at_int hz_ x22_1 p152 q152
         cases e152
         clear hz_
         replace p152:=eq_true p152
         replace q152:=eq_true q152
         have hnb19:=NB141_140.out
         have hnc19:=NB140_141.out
         have hnb20:=NB141_0.out
         have hnc20:=NB0_141.out
         have hcz21_0:wr.cell? ⟨gb141,0,none⟩=some (.int .i64 0):=(kC BK141.out 0).trans rfl
         have hcz21_1:wr.cell? ⟨gb141,1,none⟩=some (u142001):=(kC BK141.out 1).trans rfl
         have hcz21_2:wr.cell? ⟨gb141,2,none⟩=some (.slice none 0 0):=(kC BK141.out 2).trans rfl
         have hfz21_0:=kF BK141.out 0
         have hfz21_1:=kF BK141.out 1
         have hfz21_2:=kF BK141.out 2
         go_wp2_with (first|((with_reducible refine gate_builtin (b:=.append) (xs:=#[.tmp 27,.tmp 29]) rfl ?_);at_builtin;refine Kd.R_append (Kd.int .i64) w.heap.size rfl (.tmp 27) (.tmp 29) 22 3 (.int .i64 0) 8 rfl Try.underlying22 info3 rfl (by decide) (by omega) u142001 x142001_1 (rd y148 x22_1) [.int .i64 (rd y148 x22_1)] (fun _=>True) (fun _=>False) rfl rfl ?aP (fun _ hk=>hk.elim) ?aF ?aO (Below.refl _ _) ?aS ?aL ?_;(case aP=>exact rfl);(case aF=>exact (fun _ _=>trivial));(case aO=>exact (by (with_reducible repeat (first|apply Kd.R_alloc|apply Kd.R_drewN|apply Kd.R_drew));exact HO_142001.out));(case aS=>exact (keep_size (w:=w) (g:=g) (row:=none) (by repeat (first|(with_reducible first|exact HK.out|apply KeepBut.set_|apply keep_drewN|apply keep_drew|apply keep_alloc|refine eF ?_ GW140.out _|refine eF ?_ GW141.out _)|exact HK.out))));(case aL=>have:=LMc18.out;omega);intro v154 w22 ho hb hg hat;rw [← Ny153.out] at ho;have n0_:=Aside0.mk (blk_grown (g:=gb140) (o:=.cells #[.int .i64 0,.slice none 0 0,.slice none 0 0] 32 (0,0)) (by (with_reducible repeat (first|refine kN ?_ _|refine kD ?_|refine kA ?_ _));exact BK140.out) hg (Kd.R_ne HO_142001.out BK140.out (by decide)));have n1_:=Aside0.mk (blk_grown (g:=gb141) (o:=.cells #[.int .i64 0,u142001,.slice none 0 0] 32 (0,0)) (by (with_reducible repeat (first|refine kN ?_ _|refine kD ?_|refine kA ?_ _));exact BK141.out) hg (Kd.R_ne HO_142001.out BK141.out (by decide)));have n2_:=Aside0.mk (IsS71.grown (by repeat (first|(with_reducible first|exact HI0.out|apply IsS71.alloc|apply IsS71.drewN|apply IsS71.drew|apply IsS71.set_1|refine IsS71.far ?_ NB0_140.out _|refine IsS71.far ?_ NB0_141.out _)|exact HI0.out)) hg (IsS71.own_ne HI0.out HO_142001.out (by decide)));have n3_:=Aside0.mk (below_weaken (by repeat (first|(with_reducible first|exact HB.out|apply wA|apply wN|apply wD|refine wS ?_ (IsS71.ge HI0.out)|refine wS ?_ GE140.out|refine wS ?_ GE141.out)|exact HB.out)) HL.out hb);have n4_:=Aside0.mk (KeepBut.trans (by repeat (first|(with_reducible first|exact HK.out|apply KeepBut.set_|apply keep_drewN|apply keep_drew|apply keep_alloc|refine eF ?_ GW140.out _|refine eF ?_ GW141.out _)|exact HK.out)) (KeepBut.of_grown hg g) (Kd.R_base2 HO_142001.out));have n5_:=Aside0.mk (ho);have n6_:=Aside0.mk (Kd.R_after (by (with_reducible repeat (first|apply Kd.R_alloc|apply Kd.R_drewN|apply Kd.R_drew));exact HZ.out) hg hat);clear HZ;have HZ:=n6_;clear BK140;clear BK141;clear HI0;clear HB;clear HK;clear HO_142001;have BK140:=n0_;have BK141:=n1_;have HI0:=n2_;have HB:=n3_;have HK:=n4_;have HO155:=n5_;clear n0_ n1_ n2_ n3_ n4_ n5_;clear ho hb hg hat;obtain ⟨Ao23,co23,eo23⟩:=Kd.R_slice HO155.out;subst eo23;have hcz24_0:w22.cell? ⟨gb141,0,none⟩=some (.int .i64 0):=(kC BK141.out 0).trans rfl;have hcz24_1:w22.cell? ⟨gb141,1,none⟩=some (u142001):=(kC BK141.out 1).trans rfl;have hcz24_2:w22.cell? ⟨gb141,2,none⟩=some (.slice none 0 0):=(kC BK141.out 2).trans rfl;have hfz24_0:=kF BK141.out 0;have hfz24_1:=kF BK141.out 1;have hfz24_2:=kF BK141.out 2))
         go_roundg k1
         case measure=>have:=HK1.out;omega
         case rel=>exact ⟨(wrap64 (x22_1+1)),(y153),(.slice Ao23 y153.length co23),(by first|rfl|(simp;done)|(simp [*];done)),H',⟨by have:=HK1.out;omega⟩,⟨by (with_reducible repeat (first|apply Kd.R_alloc|apply Kd.R_drewN|apply Kd.R_drew));exact Kd.R_mono (Kd.R_far (p:=⟨gb141,1,none⟩) (Kd.R_types HO155.out BK141.out (by decide)) (fun _ hk=>hk.2) (.slice Ao23 y153.length co23)) (fun _ hk=>trivial)⟩,⟨by (with_reducible repeat (first|refine kN ?_ _|refine kD ?_|refine kA ?_ _));refine blk_far ?_ NB140_141.out _;(with_reducible repeat (first|refine kN ?_ _|refine kD ?_|refine kA ?_ _));exact BK140.out⟩,⟨by (with_reducible repeat (first|refine kN ?_ _|refine kD ?_|refine kA ?_ _));refine blk_put (cs:=#[.int .i64 0,u142001,.slice none 0 0]) ?_ 1 _ rfl;(with_reducible repeat (first|refine kN ?_ _|refine kD ?_|refine kA ?_ _));exact BK141.out⟩,⟨by repeat (first|(with_reducible first|exact HI0.out|apply IsS71.alloc|apply IsS71.drewN|apply IsS71.drew|apply IsS71.set_1|refine IsS71.far ?_ NB0_140.out _|refine IsS71.far ?_ NB0_141.out _)|exact HI0.out)⟩,⟨by repeat (first|(with_reducible first|exact HK.out|apply KeepBut.set_|apply keep_drewN|apply keep_drew|apply keep_alloc|refine eF ?_ GW140.out _|refine eF ?_ GW141.out _)|exact HK.out)⟩,⟨by repeat (first|(with_reducible first|exact HB.out|apply wA|apply wN|apply wD|refine wS ?_ (IsS71.ge HI0.out)|refine wS ?_ GE140.out|refine wS ?_ GE141.out)|exact HB.out)⟩,⟨by (with_reducible repeat (first|apply Kd.R_alloc|apply Kd.R_drewN|apply Kd.R_drew));exact Kd.R_mono (Kd.R_far (p:=⟨gb141,1,none⟩) (Kd.R_types HZ.out BK141.out (by decide)) (fun _ hk=>hk.2) (.slice Ao23 y153.length co23)) (fun _ hk=>hk.1)⟩⟩
        ·rw [if_neg c18] at H
         exact absurd H (by simp)
       ·rw [if_neg c17] at H
        exact absurd H (by simp)
      ·rw [if_neg c16] at H
       exact absurd H (by simp)
     ·rw [if_neg c15] at H
      have c15b0:decide (x22_1 < (y148.length:Int))=false:=decide_eq_false c15
      clear c15
      by_cases c25:a2 > 1
      ·rw [if_pos c25] at H
       have c25b0:decide (1 < a2)=true:=decide_eq_true c25
       clear c25
       obtain ⟨y156,hy156⟩:∃ y_:List Int,y_=(([0,0,1,1,2,3]:List Int)):=⟨_,rfl⟩
       replace H:((trustquorummake_Tape_Pick.f s0_0 t147 y156).bind fun bt159=>(trustquorummake_trust.l1 k1 a1 a2 bt159.1 s0_0 bt159.2 0 x142001_1 ([]:List (S32))))=some (r1,r2,r3,r4):=by first|(rw [hy156];with_reducible exact H)|(have H2_:=(Option.bind_some _ _).symm.trans H;rw [hy156];with_reducible exact H2_)|(have H2_:=(Option.bind_some _ _).symm.trans H;with_reducible exact H2_)|with_reducible exact H|(rw [hy156];exact H)|exact H
       have Ny156:=Aside0.mk hy156
       clear hy156
       replace H:=Option.bind_eq_some_iff.mp H
       obtain ⟨⟨t159,t160⟩,A260,H⟩:=H
       replace H:(trustquorummake_trust.l1 k1 a1 a2 t159 s0_0 t160 0 x142001_1 ([]:List (S32)))=some (r1,r2,r3,r4):=H
       have A26:=Aside0.mk A260
       clear A260
       have H':=Aside0.mk H
       clear H
       go_wp2_with (first|((with_reducible refine gate_dst (N:=36) rfl ?_);refine Kd.R_lit (Kd.int .i64) _ 3 ?hg (N:=36) ?hd (xs:=([0,0,1,1,2,3]:List Int)) (inner:=[.int .i64 0,.int .i64 0,.int .i64 1,.int .i64 1,.int .i64 2,.int .i64 3]) (ok:=fun _=>True) (okp:=fun _=>True) ?hr ?hp (fun _ hk=>hk) trivial (Below.refl _ _) (Nat.le_refl _) (by simp) ?_;(case hd=>rfl);(case hg=>rfl);(case hr=>first|(go_simp;done)|(go_simp;rfl));(case hp=>exact (Reps.one (show Kd.M (Kd.int .i64) _ _ _ 0 [.int .i64 0] from rfl) (Reps.one (show Kd.M (Kd.int .i64) _ _ _ 0 [.int .i64 0] from rfl) (Reps.one (show Kd.M (Kd.int .i64) _ _ _ 1 [.int .i64 1] from rfl) (Reps.one (show Kd.M (Kd.int .i64) _ _ _ 1 [.int .i64 1] from rfl) (Reps.one (show Kd.M (Kd.int .i64) _ _ _ 2 [.int .i64 2] from rfl) (Reps.one (show Kd.M (Kd.int .i64) _ _ _ 3 [.int .i64 3] from rfl) (Reps.none _ _))))))));intro v157 w27 ho28 hb hg_ hnew_;clear hg_ hnew_;(first|rw [← Ny156.out] at ho28|(simp only [Int.reduceToNat] at ho28;rw [← Ny156.out] at ho28));have n0_:=Aside0.mk (Kd.R_elder' (by (with_reducible repeat (first|apply Kd.R_alloc|apply Kd.R_drewN|apply Kd.R_drew));exact HO_142001.out) (Kd.R_base ho28) hb);have n1_:=Aside0.mk (Kd.R_lower (Kd.R_new' ho28 (Kd.R_lt (by (with_reducible repeat (first|apply Kd.R_alloc|apply Kd.R_drewN|apply Kd.R_drew));exact HO_142001.out))) (keep_size (w:=w) (g:=g) (row:=none) (by repeat (first|(with_reducible first|exact HK.out|apply KeepBut.set_|apply keep_drewN|apply keep_drew|apply keep_alloc|refine eF ?_ GW140.out _|refine eF ?_ GW141.out _)|exact HK.out))));have n2_:=Aside0.mk (blk_below (g:=gb140) (o:=.cells #[.int .i64 0,.slice none 0 0,.slice none 0 0] 32 (0,0)) (by (with_reducible repeat (first|refine kN ?_ _|refine kD ?_|refine kA ?_ _));exact BK140.out) hb);have n3_:=Aside0.mk (blk_below (g:=gb141) (o:=.cells #[.int .i64 0,u142001,.slice none 0 0] 32 (0,0)) (by (with_reducible repeat (first|refine kN ?_ _|refine kD ?_|refine kA ?_ _));exact BK141.out) hb);have n4_:=Aside0.mk (IsS71.below (by repeat (first|(with_reducible first|exact HI0.out|apply IsS71.alloc|apply IsS71.drewN|apply IsS71.drew|apply IsS71.set_1|refine IsS71.far ?_ NB0_140.out _|refine IsS71.far ?_ NB0_141.out _)|exact HI0.out)) hb);have n5_:=Aside0.mk (KeepBut.trans (by repeat (first|(with_reducible first|exact HK.out|apply KeepBut.set_|apply keep_drewN|apply keep_drew|apply keep_alloc|refine eF ?_ GW140.out _|refine eF ?_ GW141.out _)|exact HK.out)) (KeepBut.of_below hb g none) (.inl rfl));have n6_:=Aside0.mk (below_step (by repeat (first|(with_reducible first|exact HB.out|apply wA|apply wN|apply wD|refine wS ?_ (IsS71.ge HI0.out)|refine wS ?_ GE140.out|refine wS ?_ GE141.out)|exact HB.out)) hb);clear HO_142001;clear BK140;clear BK141;clear HI0;clear HK;clear HB;have HO_142001:=n0_;have HO158:=n1_;have BK140:=n2_;have BK141:=n3_;have HI0:=n4_;have HK:=n5_;have HB:=n6_;clear n0_ n1_ n2_ n3_ n4_ n5_ n6_;clear hb ho28;obtain ⟨Ao29,co29,eo29⟩:=Kd.R_slice HO158.out;subst eo29)|((with_reducible refine gate_callee (f:=71) rfl ?_);refine goesL_ (some 37) rfl rfl Try.func71 (by kernel_rfl) rfl #[.pointer (some ⟨g,0,none⟩),.slice Ao29 y156.length co29] rfl (by (try simp only [List.map_toArray,List.map_cons,List.map_nil]);first|done|rfl|(simp only [List.length_drop,List.length_take];rfl)) ?_;(with_reducible refine (trustquorummake_Tape_Pick.calls g s0_0 t147 _ _ y156 t159 t160 w0 _ ?side1 ?side2 ?side3 ?side4 ?side5 A26.out).mono ?_);(case side1=>repeat (first|(with_reducible first|exact HI0.out|apply IsS71.alloc|apply IsS71.drewN|apply IsS71.drew|apply IsS71.set_1|refine IsS71.far ?_ NB0_140.out _|refine IsS71.far ?_ NB0_141.out _)|exact HI0.out));(case side2=>repeat (first|(with_reducible first|exact HB.out|apply wA|apply wN|apply wD|refine wS ?_ (IsS71.ge HI0.out)|refine wS ?_ GE140.out|refine wS ?_ GE141.out)|exact HB.out));(case side3=>repeat (first|exact (Kd.R_reads' HO158.out).2.2|(with_reducible refine Kd.C_alloc ?_ _)|(with_reducible refine Kd.C_drewN ?_ _)|(with_reducible refine Kd.C_drew ?_)));(case side4=>exact (Kd.R_reads' HO158.out).2.1);(case side5=>exact far_slice (IsS71.own_ne HI0.out HO158.out (by decide)));rintro e w30 ⟨rfl,hi,hb,hk⟩;refine ⟨_,rfl,?_⟩;have n0_:=Aside0.mk (Kd.R_mono (Kd.R_keep (IsS71.apart (show IsS71 w0 _ g s0_0 t147 from by repeat (first|(with_reducible first|exact HI0.out|apply IsS71.alloc|apply IsS71.drewN|apply IsS71.drew|apply IsS71.set_1|refine IsS71.far ?_ NB0_140.out _|refine IsS71.far ?_ NB0_141.out _)|exact HI0.out)) (by (with_reducible repeat (first|apply Kd.R_alloc|apply Kd.R_drewN|apply Kd.R_drew));exact HO_142001.out) (by decide)) hk (fun _ h=>h.2)) (fun _ h=>h.1));have n1_:=Aside0.mk (KeepBut.blk hk (g':=gb140) (o:=.cells #[.int .i64 0,.slice none 0 0,.slice none 0 0] 32 (0,0)) (by (with_reducible repeat (first|refine kN ?_ _|refine kD ?_|refine kA ?_ _));exact BK140.out) NB140_0.out (by simp));have n2_:=Aside0.mk (KeepBut.blk hk (g':=gb141) (o:=.cells #[.int .i64 0,u142001,.slice none 0 0] 32 (0,0)) (by (with_reducible repeat (first|refine kN ?_ _|refine kD ?_|refine kA ?_ _));exact BK141.out) NB141_0.out (by simp));have n3_:=Aside0.mk (Kd.R_mono (Kd.R_keep (IsS71.apart (show IsS71 w0 _ g s0_0 t147 from by repeat (first|(with_reducible first|exact HI0.out|apply IsS71.alloc|apply IsS71.drewN|apply IsS71.drew|apply IsS71.set_1|refine IsS71.far ?_ NB0_140.out _|refine IsS71.far ?_ NB0_141.out _)|exact HI0.out)) (by (with_reducible repeat (first|apply Kd.R_alloc|apply Kd.R_drewN|apply Kd.R_drew));exact HO158.out) (by decide)) hk (fun _ h=>h.2)) (fun _ h=>h.1));have n4_:=Aside0.mk (KeepBut.trans (by repeat (first|(with_reducible first|exact HK.out|apply KeepBut.set_|apply keep_drewN|apply keep_drew|apply keep_alloc|refine eF ?_ GW140.out _|refine eF ?_ GW141.out _)|exact HK.out)) hk (.inl rfl));have n5_:=Aside0.mk (hb);have n6_:=Aside0.mk (hi);clear HO_142001;clear BK140;clear BK141;clear HO158;clear HK;clear HB;clear HI0;have HO_142001:=n0_;have BK140:=n1_;have BK141:=n2_;have HO158:=n3_;have HK:=n4_;have HB:=n5_;have HI0:=n6_;clear n0_ n1_ n2_ n3_ n4_ n5_ n6_;(try clear hb);(try clear hb2);(try clear hk);(try clear hi)))
       go_loopg [11] k1 (fun kq v11 w'=>∃ (x11_2:Int) (x1001_2:Int) (x142002_2:List (S32)) (u142002:Value),v11=.int .i64 x11_2∧Aside0 (trustquorummake_trust.l1 kq a1 a2 x11_2 s0_0 x1001_2 0 x142001_1 x142002_2=some (r1,r2,r3,r4))∧Aside0 (kq≤k1)∧Aside0 (Kd.R (Kd.int .i64) 3 w' w.heap.size (fun _=>True) u142001 x142001_1)∧Aside0 (Kd.R k32 32 w' w.heap.size (fun k_=>some k_ ≠ (u142001:Value).ownBlock∧k_ ≠ gb140∧k_ ≠ gb141) u142002 x142002_2)∧Aside0 (w'.heap[gb140]?=some (.cells #[.int .i64 0,(.slice none 0 0),(.slice none 0 0)] 32 (0,0)))∧Aside0 (w'.heap[gb141]?=some (.cells #[.int .i64 0,u142001,u142002] 32 (0,0)))∧Aside0 (IsS71 w0 w' g s0_0 x1001_2)∧Aside0 (KeepBut w w' g none)∧Aside0 (Below w0.heap.size w0 w'))
       case atStart=>exact ⟨(t159),(t160),(([]:List (S32))),(.slice none 0 0),(by first|rfl|(simp;done)|(simp [*];done)),H',⟨Nat.le_refl _⟩,⟨by (with_reducible repeat (first|apply Kd.R_alloc|apply Kd.R_drewN|apply Kd.R_drew));exact Kd.R_mono HO_142001.out (fun _ hk=>trivial)⟩,⟨by first|exact Kd.R_nil _ _ _ _ _|exact Kd.N_nil _ _ _ _ _|exact Kd.V_nil _ _ _ _ _|exact Kd.Q_nil _ _ _ _ _|exact Kd.S_nil _ _ _ _ _⟩,⟨by (with_reducible repeat (first|refine kN ?_ _|refine kD ?_|refine kA ?_ _));exact BK140.out⟩,⟨by (with_reducible repeat (first|refine kN ?_ _|refine kD ?_|refine kA ?_ _));exact BK141.out⟩,⟨by repeat (first|(with_reducible first|exact HI0.out|apply IsS71.alloc|apply IsS71.drewN|apply IsS71.drew|apply IsS71.set_1|refine IsS71.far ?_ NB0_140.out _|refine IsS71.far ?_ NB0_141.out _)|exact HI0.out)⟩,⟨by repeat (first|(with_reducible first|exact HK.out|apply KeepBut.set_|apply keep_drewN|apply keep_drew|apply keep_alloc|refine eF ?_ GW140.out _|refine eF ?_ GW141.out _)|exact HK.out)⟩,⟨by repeat (first|(with_reducible first|exact HB.out|apply wA|apply wN|apply wD|refine wS ?_ (IsS71.ge HI0.out)|refine wS ?_ GE140.out|refine wS ?_ GE141.out)|exact HB.out)⟩⟩
       case round =>
        clear H'
        try clear c1
        try clear p1
        try clear q1
        try clear hx1
        try clear c2
        try clear p2
        try clear c3
        try clear c4
        try clear p6
        try clear c7
        try clear c7b0
        try clear c7b1
        try clear c8
        try clear c8b0
        try clear c8b1
        try clear q13
        try clear c15
        try clear c15b0
        try clear p15
        try clear q15
        try clear hx15
        try clear hf15
        try clear c16
        try clear c16b0
        try clear c17
        try clear c17b0
        try clear c18
        try clear c19
        try clear c20
        try clear c25
        try clear c25b0
        try clear hcz21_0
        try clear hcz21_1
        try clear hcz21_2
        try clear hcz24_0
        try clear hcz24_1
        try clear hcz24_2
        try clear hfz21_0
        try clear hfz21_1
        try clear hfz21_2
        try clear hfz24_0
        try clear hfz24_1
        try clear hfz24_2
        try clear hx152_0
        try clear p152
        try clear p2
        try clear q1
        try clear q13
        try clear q152
        obtain ⟨x11_2,x1001_2,x142002_2,u142002,rfl,HA,HK2,HO_142001,HO_142002,BK140,BK141,HI0,HK,HB⟩:=hrel
        cases gk with
        | zero=>exact absurd HA.out (by simp [trustquorummake_trust.l1])
        | succ k2 =>
         have H:=HA.out
         clear HA
         simp only [trustquorummake_trust.l1] at H
         by_cases c31:x11_2 > 0
         ·rw [if_pos c31] at H
          have c31b0:decide (0 < x11_2)=true:=decide_eq_true c31
          clear c31
          replace H:=Option.bind_eq_some_iff.mp H
          obtain ⟨⟨t161,t162,t165,t168⟩,A320,H⟩:=H
          replace H:(if x142002_2.length < 2513169434916 then (trustquorummake_trust.l1 k2 a1 a2 (wrap64 (x11_2 - 1)) s0_0 t168 0 x142001_1 (x142002_2++[(⟨t161,t162,t165⟩:S32)])) else (none))=some (r1,r2,r3,r4):=H
          have A32:=Aside0.mk A320
          clear A320
          by_cases c33:x142002_2.length < 2513169434916
          ·rw [if_pos c33] at H
           have LMc33:=Aside0.mk c33
           clear c33
           obtain ⟨y169,hy169⟩:∃ y_:List (S32),y_=(x142002_2++[(⟨t161,t162,t165⟩:S32)]):=⟨_,rfl⟩
           replace H:(trustquorummake_trust.l1 k2 a1 a2 (wrap64 (x11_2 - 1)) s0_0 t168 0 x142001_1 y169)=some (r1,r2,r3,r4):=by first|(rw [hy169];with_reducible exact H)|(have H2_:=(Option.bind_some _ _).symm.trans H;rw [hy169];with_reducible exact H2_)|(have H2_:=(Option.bind_some _ _).symm.trans H;with_reducible exact H2_)|with_reducible exact H|(rw [hy169];exact H)|exact H
           have Ny169:=Aside0.mk hy169
           clear hy169
           have H':=Aside0.mk H
           clear H
           try go_wp2
           have n0_:=Aside0.mk (Kd.R_drew HO_142001.out)
           have n1_:=Aside0.mk (Kd.R_drew HO_142002.out)
           have n2_:=Aside0.mk (kD BK140.out)
           have n3_:=Aside0.mk (kD BK141.out)
           have n4_:=Aside0.mk (IsS71.drew HI0.out)
           have n5_:=Aside0.mk (keep_drew HK.out)
           have n6_:=Aside0.mk (wD HB.out)
           clear HO_142001
           clear HO_142002
           clear BK140
           clear BK141
           clear HI0
           clear HK
           clear HB
           have HO_142001:=n0_
           have HO_142002:=n1_
           have BK140:=n2_
           have BK141:=n3_
           have HI0:=n4_
           have HK:=n5_
           have HB:=n6_
           clear n0_ n1_ n2_ n3_ n4_ n5_ n6_
           refine start_ (n:=11) (S:=fun w'=>w'.cell? ⟨gb141,0,none⟩=some (.int .i64 0)∧w'.cell? ⟨gb141,1,none⟩=some (u142001)∧w'.cell? ⟨gb141,2,none⟩=some (u142002)) (ds:=[10]) #[false,false,false,false,false,false,false,false,false,false,false] (by kernel_rfl) rfl rfl ⟨(kC BK141.out 0).trans rfl,(kC BK141.out 1).trans rfl,(kC BK141.out 2).trans rfl⟩ (fun hHeld=>?_);refine with_tabW trustquorummake_trust.tab12 trustquorummake_trust.bits12 (fun HT_ HW_=>?_)
           generalize wr.drew=w34 at HO_142001 HO_142002 BK140 BK141 HI0 HK HB hHeld ⊢
           refine pure_ (i:=0) (N:=some 42) (v:=?_) (a':=?_) #[true,false,false,false,false,false,false,false,false,false,false] rfl rfl (any_of HT_.out (by kernel_rfl)) (fun _ _ _ h=>h) (Or.inl ⟨by rfl,?_⟩) ?_ ?_
           rotate_left
           ·intro w'
            go_simp
            with_reducible rfl
           rotate_left
           ·simp only [Act.put,List.setIfInBounds_toArray,List.set_cons_zero,List.set_cons_succ,i64_w,i32_w]
            rfl
           refine pure_ (i:=2) (N:=some 44) (v:=?_) (a':=?_) #[true,false,true,false,false,false,false,false,false,false,false] rfl rfl (any_of HT_.out (by kernel_rfl)) (fun _ _ _ h=>h) (Or.inl ⟨by rfl,?_⟩) ?_ ?_
           rotate_left
           ·intro w'
            go_simp
            with_reducible rfl
           rotate_left
           ·simp only [Act.put,List.setIfInBounds_toArray,List.set_cons_zero,List.set_cons_succ,i64_w,i32_w]
            rfl
           refine pure_ (i:=3) (N:=some 45) (v:=?_) (a':=?_) #[true,false,true,true,false,false,false,false,false,false,false] rfl rfl (any_of HT_.out (by kernel_rfl)) (fun _ _ _ h=>h) (Or.inl ⟨by rfl,?_⟩) ?_ ?_
           rotate_left
           ·intro w'
            go_simp
            with_reducible rfl
           rotate_left
           ·simp only [Act.put,List.setIfInBounds_toArray,List.set_cons_zero,List.set_cons_succ,i64_w,i32_w]
            rfl
           refine pure_ (i:=4) (N:=some 46) (v:=?_) (a':=?_) #[true,false,true,true,true,false,false,false,false,false,false] rfl rfl (any_of HT_.out (by kernel_rfl)) (fun _ _ _ h=>h) (Or.inl ⟨by rfl,?_⟩) ?_ ?_
           rotate_left
           ·intro w'
            go_simp
            with_reducible rfl
           rotate_left
           ·simp only [Act.put,List.setIfInBounds_toArray,List.set_cons_zero,List.set_cons_succ,i64_w,i32_w]
            rfl
           refine pure_ (i:=5) (N:=some 47) (v:=?_) (a':=?_) #[true,false,true,true,true,true,false,false,false,false,false] rfl rfl (any_of HT_.out (by kernel_rfl)) (fun _ _ _ h=>h) (Or.inl ⟨by rfl,?_⟩) ?_ ?_
           rotate_left
           ·intro w'
            go_simp
            with_reducible rfl
           rotate_left
           ·simp only [Act.put,List.setIfInBounds_toArray,List.set_cons_zero,List.set_cons_succ,i64_w,i32_w]
            rfl
           refine take_ (i:=1) (N:=some 43) (v:=?_) (a':=?_) #[true,true,true,true,true,true,false,false,false,false,false] rfl rfl (take_ofW HT_.out HW_.out (by kernel_rfl)) (fun _ _ _ h=>h) (Or.inl ⟨by rfl,?_⟩) hHeld ?_ ?_
           rotate_left
           ·rintro w' ⟨s0,s1,s2⟩
            go_simp
            with_reducible rfl
           rotate_left
           ·simp only [Act.put,List.setIfInBounds_toArray,List.set_cons_zero,List.set_cons_succ,i64_w,i32_w]
            rfl
           refine one_ (i:=6) (N:=some 48) #[true,true,true,true,true,true,true,false,false,false,false] rfl rfl (one_of HT_.out (by kernel_rfl)) (by decide) (fun K hK=>?_)
           refine goes_ Try.func79 (by kernel_rfl) rfl #[.pointer (some ⟨g,0,none⟩),.int .i64 a1,.int .i64 (wrap64 (a2 - 1))] (by rfl) rfl rfl (by (try simp only [List.map_toArray,List.map_cons,List.map_nil]);first|done|rfl|(simp only [List.length_drop,List.length_take];rfl)) ?_
           with_reducible refine (ih k2 (by have:=HK1.out;have:=HK2.out;omega) g s0_0 x1001_2 a1 (wrap64 (a2 - 1)) t161 t162 t165 t168 w0 _ ?side1 ?side2 A32.out).mono ?_
           (case side1=>repeat (first|(with_reducible first|exact HI0.out|apply IsS71.alloc|apply IsS71.drewN|apply IsS71.drew|apply IsS71.set_1|refine IsS71.far ?_ NB0_140.out _|refine IsS71.far ?_ NB0_141.out _)|exact HI0.out))
           (case side2=>repeat (first|(with_reducible first|exact HB.out|apply wA|apply wN|apply wD|refine wS ?_ (IsS71.ge HI0.out)|refine wS ?_ GE140.out|refine wS ?_ GE141.out)|exact HB.out))
           rintro e w35 ⟨v163,v166,rfl,ho0,ho1,hi,hb,hk⟩
           refine ⟨_,rfl,?_⟩
           have n0_:=Aside0.mk (Kd.R_mono (Kd.R_told (Kd.R_oldK (IsS71.apart (show IsS71 w0 _ g s0_0 x1001_2 from by repeat (first|(with_reducible first|exact HI0.out|apply IsS71.alloc|apply IsS71.drewN|apply IsS71.drew|apply IsS71.set_1|refine IsS71.far ?_ NB0_140.out _|refine IsS71.far ?_ NB0_141.out _)|exact HI0.out)) (by (with_reducible repeat (first|apply Kd.R_alloc|apply Kd.R_drewN|apply Kd.R_drew));exact HO_142001.out) (by decide)) hk) (Kd.R_base ho0)) (fun _ h_=>h_.1))
           have n1_:=Aside0.mk (Kd.R_mono (Kd.R_told (Kd.R_told (Kd.R_oldK (IsS71.apart (show IsS71 w0 _ g s0_0 x1001_2 from by repeat (first|(with_reducible first|exact HI0.out|apply IsS71.alloc|apply IsS71.drewN|apply IsS71.drew|apply IsS71.set_1|refine IsS71.far ?_ NB0_140.out _|refine IsS71.far ?_ NB0_141.out _)|exact HI0.out)) (by (with_reducible repeat (first|apply Kd.R_alloc|apply Kd.R_drewN|apply Kd.R_drew));exact HO_142002.out) (by decide)) hk) (Kd.R_base ho0)) (Kd.R_base ho1)) (fun _ h_=>h_.1))
           have n2_:=Aside0.mk (KeepBut.blk hk (g':=gb140) (o:=.cells #[.int .i64 0,.slice none 0 0,.slice none 0 0] 32 (0,0)) (by (with_reducible repeat (first|refine kN ?_ _|refine kD ?_|refine kA ?_ _));exact BK140.out) NB140_0.out (by simp))
           have n3_:=Aside0.mk (KeepBut.blk hk (g':=gb141) (o:=.cells #[.int .i64 0,u142001,u142002] 32 (0,0)) (by (with_reducible repeat (first|refine kN ?_ _|refine kD ?_|refine kA ?_ _));exact BK141.out) NB141_0.out (by simp))
           have n4_:=Aside0.mk (Kd.R_lower (Kd.R_new' ho0 (Kd.R_lt (by (with_reducible repeat (first|apply Kd.R_alloc|apply Kd.R_drewN|apply Kd.R_drew));exact HO_142001.out))) (keep_size (w:=w) (g:=g) (row:=none) (by repeat (first|(with_reducible first|exact HK.out|apply KeepBut.set_|apply keep_drewN|apply keep_drew|apply keep_alloc|refine eF ?_ GW140.out _|refine eF ?_ GW141.out _)|exact HK.out))))
           have n5_:=Aside0.mk (Kd.R_lower (Kd.R_newB (Kd.R_newB (Kd.R_new' (Kd.R_new' ho1 (Kd.R_lt (by (with_reducible repeat (first|apply Kd.R_alloc|apply Kd.R_drewN|apply Kd.R_drew));exact HO_142001.out))) (Kd.R_lt (by (with_reducible repeat (first|apply Kd.R_alloc|apply Kd.R_drewN|apply Kd.R_drew));exact HO_142002.out))) (g:=gb140) (o:=.cells #[.int .i64 0,.slice none 0 0,.slice none 0 0] 32 (0,0)) (by (with_reducible repeat (first|refine kN ?_ _|refine kD ?_|refine kA ?_ _));exact BK140.out)) (g:=gb141) (o:=.cells #[.int .i64 0,u142001,u142002] 32 (0,0)) (by (with_reducible repeat (first|refine kN ?_ _|refine kD ?_|refine kA ?_ _));exact BK141.out)) (keep_size (w:=w) (g:=g) (row:=none) (by repeat (first|(with_reducible first|exact HK.out|apply KeepBut.set_|apply keep_drewN|apply keep_drew|apply keep_alloc|refine eF ?_ GW140.out _|refine eF ?_ GW141.out _)|exact HK.out))))
           have n6_:=Aside0.mk (KeepBut.trans (by repeat (first|(with_reducible first|exact HK.out|apply KeepBut.set_|apply keep_drewN|apply keep_drew|apply keep_alloc|refine eF ?_ GW140.out _|refine eF ?_ GW141.out _)|exact HK.out)) hk (.inl rfl))
           have n7_:=Aside0.mk (hb)
           have n8_:=Aside0.mk (hi)
           clear HO_142001
           clear HO_142002
           clear BK140
           clear BK141
           clear HK
           clear HB
           clear HI0
           have HO_142001:=n0_
           have HO_142002:=n1_
           have BK140:=n2_
           have BK141:=n3_
           have HO164:=n4_
           have HO167:=n5_
           have HK:=n6_
           have HB:=n7_
           have HI0:=n8_
           clear n0_ n1_ n2_ n3_ n4_ n5_ n6_ n7_ n8_
           (try clear hb)
           (try clear hb2)
           (try clear hk)
           (try clear hi)
           (try clear ho0)
           (try clear ho1)
           obtain ⟨Ao37,co37,eo37⟩:=Kd.R_slice HO164.out
           (first|subst eo37|(injection eo37 with f1_ f2_ f3_;have f4_:=f1_.symm;have f5_:=f3_.symm;clear f1_ f2_ f3_;subst f4_;subst f5_))
           obtain ⟨Ao38,co38,eo38⟩:=Kd.R_slice HO167.out
           (first|subst eo38|(injection eo38 with f1_ f2_ f3_;have f4_:=f1_.symm;have f5_:=f3_.symm;clear f1_ f2_ f3_;subst f4_;subst f5_))
           refine hK.out _ _ ⟨(kC BK141.out 0).trans rfl,(kC BK141.out 1).trans rfl,(kC BK141.out 2).trans rfl⟩ (fun hHeld=>?_)
           clear hK K
           refine norm_ (a':=?_) ?_ ?_
           rotate_left
           ·show Act.put _ (some 48) _=_
            simp only [Act.put,List.setIfInBounds_toArray,List.set_cons_zero,List.set_cons_succ,i64_w,i32_w]
            rfl
           refine one_ (i:=7) (N:=some 49) #[true,true,true,true,true,true,true,true,false,false,false] rfl rfl (one_of HT_.out (by kernel_rfl)) (by decide) (fun K hK=>?_)
           refine value_ (w1:=?_) (v:=?_) (by rfl) rfl ?_ ?_
           rotate_left 2
           ·go_simp
            constructor
            ·rfl
            ·rfl
           refine hK.out _ _ ⟨(kC (kA BK141.out _) 0).trans rfl,(kC (kA BK141.out _) 1).trans rfl,(kC (kA BK141.out _) 2).trans rfl⟩ (fun hHeld=>?_)
           clear hK K
           refine norm_ (a':=?_) ?_ ?_
           rotate_left
           ·show Act.put _ (some 49) _=_
            simp only [Act.put,List.setIfInBounds_toArray,List.set_cons_zero,List.set_cons_succ,i64_w,i32_w]
            rfl
           refine one_ (i:=8) (N:=some 50) #[true,true,true,true,true,true,true,true,true,false,false] rfl rfl (one_of HT_.out (by kernel_rfl)) (by decide) (fun K hK=>?_)
           refine Kd.R_append_step k32 w.heap.size (by rfl) (.tmp 43) (.tmp 49) 30 32 (.agg #[(.int .i64 0),(.slice none 0 0),(.slice none 0 0)]) 56 rfl Try.underlying30 info32 rfl (by decide) (by omega) u142002 x142002_2 (⟨t161,t162,t165⟩:S32) [.int .i64 t161,.slice Ao37 t162.length co37,.slice Ao38 t165.length co38] (fun k_=>some k_ ≠ (u142001:Value).ownBlock∧k_ ≠ gb140∧k_ ≠ gb141) (fun k_=>((fun k_=>some k_ ≠ (u142001:Value).ownBlock∧k_ ≠ gb140∧k_ ≠ gb141)) k_∧some k_ ≠ (u142002:Value).ownBlock) rfl rfl ?aP (fun _ hk=>hk) ?aF ?aO (Below.refl _ _) ?aS ?aL ?_
           (case aP=>exact k32_mkM _ _ _ (⟨t161,t162,t165⟩:S32) (Kd.R_mono (Kd.R_types (Kd.R_types (Kd.R_apart' (HO164.out) (Kd.R_typed HO_142002.out) (by decide)) BK140.out (by decide)) BK141.out (by decide)) (fun k_ hk=>⟨⟨hk.1.1.1.2,⟨hk.1.2,hk.2⟩⟩,hk.1.1.2⟩)) (Kd.R_mono (HO167.out) (fun k_ hk=>⟨⟨hk.1.1.1.2,⟨hk.1.2,hk.2⟩⟩,hk.1.1.2⟩)))
           (case aF=>exact (fun k_ hk=>⟨Kd.fresh' (Kd.R_lt (by (with_reducible repeat (first|apply Kd.R_alloc|apply Kd.R_drewN|apply Kd.R_drew));exact HO_142001.out)) k_ hk,Kd.freshB (g:=gb140) (o:=.cells #[.int .i64 0,.slice none 0 0,.slice none 0 0] 32 (0,0)) (by (with_reducible repeat (first|refine kN ?_ _|refine kD ?_|refine kA ?_ _));exact BK140.out) k_ hk,Kd.freshB (g:=gb141) (o:=.cells #[.int .i64 0,u142001,u142002] 32 (0,0)) (by (with_reducible repeat (first|refine kN ?_ _|refine kD ?_|refine kA ?_ _));exact BK141.out) k_ hk⟩))
           (case aO=>exact (by (with_reducible repeat (first|apply Kd.R_alloc|apply Kd.R_drewN|apply Kd.R_drew));exact Kd.R_mono HO_142002.out (fun _ hk=>⟨hk.1.1.1,⟨hk.1.1.2.1,hk.1.1.2.2⟩⟩)))
           (case aS=>exact (keep_size (w:=w) (g:=g) (row:=none) (by repeat (first|(with_reducible first|exact HK.out|apply KeepBut.set_|apply keep_drewN|apply keep_drew|apply keep_alloc|refine eF ?_ GW140.out _|refine eF ?_ GW141.out _)|exact HK.out))))
           (case aL=>have:=LMc33.out;omega)
           intro v170 w36 ho hb hg hat
           rw [← Ny169.out] at ho
           have n0_:=Aside0.mk (Kd.R_over' (by (with_reducible repeat (first|apply Kd.R_alloc|apply Kd.R_drewN|apply Kd.R_drew));exact HO_142001.out) (Kd.R_typed (by (with_reducible repeat (first|apply Kd.R_alloc|apply Kd.R_drewN|apply Kd.R_drew));exact HO_142002.out)) (by decide) hg)
           have n1_:=Aside0.mk (blk_grown (g:=gb140) (o:=.cells #[.int .i64 0,.slice none 0 0,.slice none 0 0] 32 (0,0)) (by (with_reducible repeat (first|refine kN ?_ _|refine kD ?_|refine kA ?_ _));exact BK140.out) hg (Kd.R_away HO_142002.out (fun _ hk=>hk.1.1.2.1)))
           have n2_:=Aside0.mk (blk_grown (g:=gb141) (o:=.cells #[.int .i64 0,u142001,u142002] 32 (0,0)) (by (with_reducible repeat (first|refine kN ?_ _|refine kD ?_|refine kA ?_ _));exact BK141.out) hg (Kd.R_away HO_142002.out (fun _ hk=>hk.1.1.2.2)))
           have n3_:=Aside0.mk (IsS71.grown (by repeat (first|(with_reducible first|exact HI0.out|apply IsS71.alloc|apply IsS71.drewN|apply IsS71.drew|apply IsS71.set_1|refine IsS71.far ?_ NB0_140.out _|refine IsS71.far ?_ NB0_141.out _)|exact HI0.out)) hg (IsS71.own_ne HI0.out HO_142002.out (by decide)))
           have n4_:=Aside0.mk (below_weaken (by repeat (first|(with_reducible first|exact HB.out|apply wA|apply wN|apply wD|refine wS ?_ (IsS71.ge HI0.out)|refine wS ?_ GE140.out|refine wS ?_ GE141.out)|exact HB.out)) HL.out hb)
           have n5_:=Aside0.mk (KeepBut.trans (by repeat (first|(with_reducible first|exact HK.out|apply KeepBut.set_|apply keep_drewN|apply keep_drew|apply keep_alloc|refine eF ?_ GW140.out _|refine eF ?_ GW141.out _)|exact HK.out)) (KeepBut.of_grown hg g) (Kd.R_base2 HO_142002.out))
           have n6_:=Aside0.mk (ho)
           clear HO_142001
           clear BK140
           clear BK141
           clear HI0
           clear HB
           clear HK
           clear HO_142002
           clear HO164
           clear HO167
           have HO_142001:=n0_
           have BK140:=n1_
           have BK141:=n2_
           have HI0:=n3_
           have HB:=n4_
           have HK:=n5_
           have HO171:=n6_
           clear n0_ n1_ n2_ n3_ n4_ n5_ n6_
           clear ho hb hg hat
           obtain ⟨Ao39,co39,eo39⟩:=Kd.R_slice HO171.out
           (first|subst eo39|(injection eo39 with f1_ f2_ f3_;have f4_:=f1_.symm;have f5_:=f3_.symm;clear f1_ f2_ f3_;subst f4_;subst f5_))
           refine hK.out _ _ ⟨(kC BK141.out 0).trans rfl,(kC BK141.out 1).trans rfl,(kC BK141.out 2).trans rfl⟩ (fun hHeld=>?_)
           clear hK K
           refine norm_ (a':=?_) ?_ ?_
           rotate_left
           ·show Act.put _ (some 50) _=_
            simp only [Act.put,List.setIfInBounds_toArray,List.set_cons_zero,List.set_cons_succ,i64_w,i32_w]
            rfl
           refine pure_ (i:=9) (N:=some 51) (v:=?_) (a':=?_) #[true,true,true,true,true,true,true,true,true,true,false] rfl rfl (any_of HT_.out (by kernel_rfl)) (fun _ _ _ h=>h) (Or.inl ⟨by rfl,?_⟩) ?_ ?_
           rotate_left
           ·intro w'
            go_simp
            with_reducible rfl
           rotate_left
           ·simp only [Act.put,List.setIfInBounds_toArray,List.set_cons_zero,List.set_cons_succ,i64_w,i32_w]
            rfl
           refine last_ (i:=10) (N:=none) #[true,true,true,true,true,true,true,true,true,true,true] rfl rfl (one_of HT_.out (by kernel_rfl)) (by decide) (fun K hK=>?_)
           have hs40:w36.cell? ⟨gb141,2,none⟩=some (u142002):=(kC BK141.out 2).trans rfl
           have hfs40:=kF BK141.out 2
           have hns40_0:=NB140_141.out
           have hms40_0:=NB141_140.out
           refine skip_ (w1:=?_) (by rfl) rfl ?_ ?_
           rotate_left
           ·go_simp
            rfl
           refine hK.out _ _ ?_
           clear hK K
           refine done_ (done_of HT_.out (by kernel_rfl)) ?_
           try go_wp2
           go_roundg k2
           case measure=>have:=HK1.out;have:=HK2.out;omega
           case rel=>exact ⟨(wrap64 (x11_2 - 1)),(t168),(y169),(.slice Ao39 y169.length co39),(by first|rfl|(simp;done)|(simp [*];done)),H',⟨by have:=HK1.out;have:=HK2.out;omega⟩,⟨by (with_reducible repeat (first|apply Kd.R_alloc|apply Kd.R_drewN|apply Kd.R_drew));exact Kd.R_mono (Kd.R_far (p:=⟨gb141,2,none⟩) (Kd.R_types HO_142001.out BK141.out (by decide)) (fun _ hk=>hk.2) (.slice Ao39 y169.length co39)) (fun _ hk=>trivial)⟩,⟨by (with_reducible repeat (first|apply Kd.R_alloc|apply Kd.R_drewN|apply Kd.R_drew));exact Kd.R_mono (Kd.R_far (p:=⟨gb141,2,none⟩) (Kd.R_mono HO171.out (fun k_ hk=>(⟨hk,hk.2.2⟩:_∧k_ ≠ gb141))) (fun _ hk=>hk.2) (.slice Ao39 y169.length co39)) (fun _ hk=>⟨hk.1.1,⟨hk.1.2.1,hk.1.2.2⟩⟩)⟩,⟨by (with_reducible repeat (first|refine kN ?_ _|refine kD ?_|refine kA ?_ _));refine blk_far ?_ NB140_141.out _;(with_reducible repeat (first|refine kN ?_ _|refine kD ?_|refine kA ?_ _));exact BK140.out⟩,⟨by (with_reducible repeat (first|refine kN ?_ _|refine kD ?_|refine kA ?_ _));refine blk_put (cs:=#[.int .i64 0,u142001,u142002]) ?_ 2 _ rfl;(with_reducible repeat (first|refine kN ?_ _|refine kD ?_|refine kA ?_ _));exact BK141.out⟩,⟨by repeat (first|(with_reducible first|exact HI0.out|apply IsS71.alloc|apply IsS71.drewN|apply IsS71.drew|apply IsS71.set_1|refine IsS71.far ?_ NB0_140.out _|refine IsS71.far ?_ NB0_141.out _)|exact HI0.out)⟩,⟨by repeat (first|(with_reducible first|exact HK.out|apply KeepBut.set_|apply keep_drewN|apply keep_drew|apply keep_alloc|refine eF ?_ GW140.out _|refine eF ?_ GW141.out _)|exact HK.out)⟩,⟨by repeat (first|(with_reducible first|exact HB.out|apply wA|apply wN|apply wD|refine wS ?_ (IsS71.ge HI0.out)|refine wS ?_ GE140.out|refine wS ?_ GE141.out)|exact HB.out)⟩⟩
          ·rw [if_neg c33] at H
           exact absurd H (by simp)
         ·rw [if_neg c31] at H
          have c31b0:decide (0 < x11_2)=false:=decide_eq_false c31
          clear c31
          by_cases c41:(x142002_2.length:Int) > 0
          ·rw [if_pos c41] at H
           have c41b0:decide (0 < (x142002_2.length:Int))=true:=decide_eq_true c41
           have c41b1:decide (0 < x142002_2.length)=true:=decide_eq_true (by omega)
           clear c41
           replace H:=Option.bind_eq_some_iff.mp H
           obtain ⟨⟨t172,t173⟩,A420,H⟩:=H
           replace H:(if t172=0 then ((trustquorummake_Tape_Range.f s0_0 t173 1 (wrap64 ((([]:List Int).length:Int)+(x142002_2.length:Int)))).bind fun bt174=>(some (bt174.1,([]:List Int),x142002_2,bt174.2))) else ((trustquorummake_Tape_Range.f s0_0 t173 1 (wrap64 ((x142001_1.length:Int)+(x142002_2.length:Int)))).bind fun bt176=>(some (bt176.1,x142001_1,x142002_2,bt176.2))))=some (r1,r2,r3,r4):=H
           have A42:=Aside0.mk A420
           clear A420
           by_cases c43:t172=0
           ·rw [if_pos c43] at H
            have c43b0:(t172 == 0)=true:=beq_iff_eq.mpr c43
            have c43b1:(t172 != 0)=false:=bne_eq_false_iff_eq.mpr c43
            clear c43
            replace H:=Option.bind_eq_some_iff.mp H
            obtain ⟨⟨t174,t175⟩,A440,H⟩:=H
            replace H:(some (t174,([]:List Int),x142002_2,t175))=some (r1,r2,r3,r4):=H
            have A44:=Aside0.mk A440
            clear A440
            simp only [Option.some.injEq,Prod.mk.injEq] at H
            obtain ⟨rfl,rfl,rfl,rfl⟩:=H
            have hnb45:=NB141_140.out
            have hnc45:=NB140_141.out
            have hnb46:=NB141_0.out
            have hnc46:=NB0_141.out
            have hcz47_0:wr.cell? ⟨gb141,0,none⟩=some (.int .i64 0):=(kC BK141.out 0).trans rfl
            have hcz47_1:wr.cell? ⟨gb141,1,none⟩=some (u142001):=(kC BK141.out 1).trans rfl
            have hcz47_2:wr.cell? ⟨gb141,2,none⟩=some (u142002):=(kC BK141.out 2).trans rfl
            have hfz47_0:=kF BK141.out 0
            have hfz47_1:=kF BK141.out 1
            have hfz47_2:=kF BK141.out 2
            obtain ⟨Ao48,co48,eo48⟩:=Kd.R_slice HO_142002.out
            subst eo48
            go_wp2_with (first|(go_at_call 16;(with_reducible refine (trustquorummake_Tape_N.calls g s0_0 x1001_2 3 t172 t173 w0 _ ?side1 ?side2 A42.out).mono ?_);(case side1=>repeat (first|(with_reducible first|exact HI0.out|apply IsS71.alloc|apply IsS71.drewN|apply IsS71.drew|apply IsS71.set_1|refine IsS71.far ?_ NB0_140.out _|refine IsS71.far ?_ NB0_141.out _)|exact HI0.out));(case side2=>repeat (first|(with_reducible first|exact HB.out|apply wA|apply wN|apply wD|refine wS ?_ (IsS71.ge HI0.out)|refine wS ?_ GE140.out|refine wS ?_ GE141.out)|exact HB.out));rintro e w49 ⟨rfl,hi,hb,hk⟩;have n0_:=Aside0.mk (Kd.R_mono (Kd.R_keep (IsS71.apart (show IsS71 w0 _ g s0_0 x1001_2 from by repeat (first|(with_reducible first|exact HI0.out|apply IsS71.alloc|apply IsS71.drewN|apply IsS71.drew|apply IsS71.set_1|refine IsS71.far ?_ NB0_140.out _|refine IsS71.far ?_ NB0_141.out _)|exact HI0.out)) (by (with_reducible repeat (first|apply Kd.R_alloc|apply Kd.R_drewN|apply Kd.R_drew));exact HO_142001.out) (by decide)) hk (fun _ h=>h.2)) (fun _ h=>h.1));have n1_:=Aside0.mk (Kd.R_mono (Kd.R_keep (IsS71.apart (show IsS71 w0 _ g s0_0 x1001_2 from by repeat (first|(with_reducible first|exact HI0.out|apply IsS71.alloc|apply IsS71.drewN|apply IsS71.drew|apply IsS71.set_1|refine IsS71.far ?_ NB0_140.out _|refine IsS71.far ?_ NB0_141.out _)|exact HI0.out)) (by (with_reducible repeat (first|apply Kd.R_alloc|apply Kd.R_drewN|apply Kd.R_drew));exact HO_142002.out) (by decide)) hk (fun _ h=>h.2)) (fun _ h=>h.1));have n2_:=Aside0.mk (KeepBut.blk hk (g':=gb140) (o:=.cells #[.int .i64 0,.slice none 0 0,.slice none 0 0] 32 (0,0)) (by (with_reducible repeat (first|refine kN ?_ _|refine kD ?_|refine kA ?_ _));exact BK140.out) NB140_0.out (by simp));have n3_:=Aside0.mk (KeepBut.blk hk (g':=gb141) (o:=.cells #[.int .i64 0,u142001,.slice Ao48 x142002_2.length co48] 32 (0,0)) (by (with_reducible repeat (first|refine kN ?_ _|refine kD ?_|refine kA ?_ _));exact BK141.out) NB141_0.out (by simp));have n4_:=Aside0.mk (KeepBut.trans (by repeat (first|(with_reducible first|exact HK.out|apply KeepBut.set_|apply keep_drewN|apply keep_drew|apply keep_alloc|refine eF ?_ GW140.out _|refine eF ?_ GW141.out _)|exact HK.out)) hk (.inl rfl));have n5_:=Aside0.mk (hb);have n6_:=Aside0.mk (hi);clear HO_142001;clear HO_142002;clear BK140;clear BK141;clear HK;clear HB;clear HI0;have HO_142001:=n0_;have HO_142002:=n1_;have BK140:=n2_;have BK141:=n3_;have HK:=n4_;have HB:=n5_;have HI0:=n6_;clear n0_ n1_ n2_ n3_ n4_ n5_ n6_;(try clear hb);(try clear hb2);(try clear hk);(try clear hi);have hcz50_0:w49.cell? ⟨gb141,0,none⟩=some (.int .i64 0):=(kC BK141.out 0).trans rfl;have hcz50_1:w49.cell? ⟨gb141,1,none⟩=some (u142001):=(kC BK141.out 1).trans rfl;have hcz50_2:w49.cell? ⟨gb141,2,none⟩=some (.slice Ao48 x142002_2.length co48):=(kC BK141.out 2).trans rfl;have hfz50_0:=kF BK141.out 0;have hfz50_1:=kF BK141.out 1;have hfz50_2:=kF BK141.out 2)|((with_reducible refine gate_callee (f:=44) rfl ?_);refine goesL_ (some 70) rfl rfl Try.func44 (by kernel_rfl) rfl #[.pointer (some ⟨g,0,none⟩),.int .i64 1,.int .i64 (wrap64 (x142002_2.length:Int))] rfl (by (try simp only [List.map_toArray,List.map_cons,List.map_nil]);first|done|rfl|(simp only [List.length_drop,List.length_take];rfl)) ?_;(with_reducible refine (trustquorummake_Tape_Range.calls g s0_0 t173 1 (wrap64 (x142002_2.length:Int)) t174 t175 w0 _ ?side1 ?side2 (by have h_:=A44.out;rw [show ((([]:List Int).length:Int)+(x142002_2.length:Int))=(x142002_2.length:Int) from by simp] at h_;exact h_)).mono ?_);(case side1=>repeat (first|(with_reducible first|exact HI0.out|apply IsS71.alloc|apply IsS71.drewN|apply IsS71.drew|apply IsS71.set_1|refine IsS71.far ?_ NB0_140.out _|refine IsS71.far ?_ NB0_141.out _)|exact HI0.out));(case side2=>repeat (first|(with_reducible first|exact HB.out|apply wA|apply wN|apply wD|refine wS ?_ (IsS71.ge HI0.out)|refine wS ?_ GE140.out|refine wS ?_ GE141.out)|exact HB.out));rintro e w51 ⟨rfl,hi,hb,hk⟩;refine ⟨_,rfl,?_⟩;have n0_:=Aside0.mk (Kd.R_mono (Kd.R_keep (IsS71.apart (show IsS71 w0 _ g s0_0 t173 from by repeat (first|(with_reducible first|exact HI0.out|apply IsS71.alloc|apply IsS71.drewN|apply IsS71.drew|apply IsS71.set_1|refine IsS71.far ?_ NB0_140.out _|refine IsS71.far ?_ NB0_141.out _)|exact HI0.out)) (by (with_reducible repeat (first|apply Kd.R_alloc|apply Kd.R_drewN|apply Kd.R_drew));exact (Kd.R_mono (Kd.R_far (p:=⟨gb141,1,none⟩) (Kd.R_types HO_142001.out BK141.out (by decide)) (fun _ hk=>hk.2) (.slice none 0 0)) (fun _ h_=>h_.1))) (by decide)) hk (fun _ h=>h.2)) (fun _ h=>h.1));have n1_:=Aside0.mk (Kd.R_mono (Kd.R_keep (IsS71.apart (show IsS71 w0 _ g s0_0 t173 from by repeat (first|(with_reducible first|exact HI0.out|apply IsS71.alloc|apply IsS71.drewN|apply IsS71.drew|apply IsS71.set_1|refine IsS71.far ?_ NB0_140.out _|refine IsS71.far ?_ NB0_141.out _)|exact HI0.out)) (by (with_reducible repeat (first|apply Kd.R_alloc|apply Kd.R_drewN|apply Kd.R_drew));exact (Kd.R_mono (Kd.R_far (p:=⟨gb141,1,none⟩) (Kd.R_mono HO_142002.out (fun k_ hk=>(⟨hk,hk.2.2⟩:_∧k_ ≠ gb141))) (fun _ hk=>hk.2) (.slice none 0 0)) (fun _ h_=>h_.1))) (by decide)) hk (fun _ h=>h.2)) (fun _ h=>h.1));have n2_:=Aside0.mk (KeepBut.blk hk (g':=gb140) (o:=.cells #[.int .i64 0,.slice none 0 0,.slice none 0 0] 32 (0,0)) (by (with_reducible repeat (first|refine kN ?_ _|refine kD ?_|refine kA ?_ _));refine blk_far ?_ NB140_141.out _;(with_reducible repeat (first|refine kN ?_ _|refine kD ?_|refine kA ?_ _));exact BK140.out) NB140_0.out (by simp));have n3_:=Aside0.mk (KeepBut.blk hk (g':=gb141) (o:=.cells #[.int .i64 0,.slice none 0 0,.slice Ao48 x142002_2.length co48] 32 (0,0)) (by (with_reducible repeat (first|refine kN ?_ _|refine kD ?_|refine kA ?_ _));refine blk_put (cs:=#[.int .i64 0,u142001,.slice Ao48 x142002_2.length co48]) ?_ 1 _ rfl;(with_reducible repeat (first|refine kN ?_ _|refine kD ?_|refine kA ?_ _));exact BK141.out) NB141_0.out (by simp));have n4_:=Aside0.mk (KeepBut.trans (by repeat (first|(with_reducible first|exact HK.out|apply KeepBut.set_|apply keep_drewN|apply keep_drew|apply keep_alloc|refine eF ?_ GW140.out _|refine eF ?_ GW141.out _)|exact HK.out)) hk (.inl rfl));have n5_:=Aside0.mk (hb);have n6_:=Aside0.mk (hi);clear HO_142001;clear HO_142002;clear BK140;clear BK141;clear HK;clear HB;clear HI0;have HO_142001:=n0_;have HO_142002:=n1_;have BK140:=n2_;have BK141:=n3_;have HK:=n4_;have HB:=n5_;have HI0:=n6_;clear n0_ n1_ n2_ n3_ n4_ n5_ n6_;(try clear hb);(try clear hb2);(try clear hk);(try clear hi);have hcz52_0:w51.cell? ⟨gb141,0,none⟩=some (.int .i64 0):=(kC BK141.out 0).trans rfl;have hcz52_1:w51.cell? ⟨gb141,1,none⟩=some (.slice none 0 0):=(kC BK141.out 1).trans rfl;have hcz52_2:w51.cell? ⟨gb141,2,none⟩=some (.slice Ao48 x142002_2.length co48):=(kC BK141.out 2).trans rfl;have hfz52_0:=kF BK141.out 0;have hfz52_1:=kF BK141.out 1;have hfz52_2:=kF BK141.out 2;have hnb53:=NB140_0.out;have hnc53:=NB0_140.out;have hcz54_0:w51.cell? ⟨gb140,0,none⟩=some (.int .i64 0):=(kC BK140.out 0).trans rfl;have hcz54_1:w51.cell? ⟨gb140,1,none⟩=some (.slice none 0 0):=(kC BK140.out 1).trans rfl;have hcz54_2:w51.cell? ⟨gb140,2,none⟩=some (.slice none 0 0):=(kC BK140.out 2).trans rfl;have hfz54_0:=kF BK140.out 0;have hfz54_1:=kF BK140.out 1;have hfz54_2:=kF BK140.out 2))
            refine bodyPost_ret (results_cell_row rfl _ _ gb140 32 #[.int .i64 t174,.slice none 0 0,.slice Ao48 x142002_2.length co48] (0,0) _ rfl (by (with_reducible repeat (first|refine kN ?_ _|refine kD ?_|refine kA ?_ _));refine blk_put (cs:=#[.int .i64 t174,.slice none 0 0,.slice none 0 0]) ?_ 2 _ rfl;(with_reducible repeat (first|refine kN ?_ _|refine kD ?_|refine kA ?_ _));refine blk_put (cs:=#[.int .i64 t174,.slice none 0 0,.slice none 0 0]) ?_ 1 _ rfl;(with_reducible repeat (first|refine kN ?_ _|refine kD ?_|refine kA ?_ _));refine blk_put (cs:=#[.int .i64 0,.slice none 0 0,.slice none 0 0]) ?_ 0 _ rfl;(with_reducible repeat (first|refine kN ?_ _|refine kD ?_|refine kA ?_ _));refine blk_far ?_ NB140_141.out _;(with_reducible repeat (first|refine kN ?_ _|refine kD ?_|refine kA ?_ _));exact BK140.out) Try.underlying32 rfl (by kernel_rfl)) rfl ?_
            exact ⟨_,_,by first|rfl|(simp [errW_none,errW_some] <;> rfl)|(simp only [← hji5];first|rfl|(simp [errW_none,errW_some] <;> rfl))|(simp [*,errW_none,errW_some] <;> rfl),by first|exact Kd.R_nil _ _ _ _ _|exact Kd.N_nil _ _ _ _ _|exact Kd.V_nil _ _ _ _ _|exact Kd.Q_nil _ _ _ _ _|exact Kd.S_nil _ _ _ _ _,by (with_reducible repeat (first|apply Kd.R_alloc|apply Kd.R_drewN|apply Kd.R_drew));exact Kd.R_mono (Kd.R_far (p:=⟨gb140,2,none⟩) (Kd.R_far (p:=⟨gb140,1,none⟩) (Kd.R_far (p:=⟨gb140,0,none⟩) (Kd.R_far (p:=⟨gb141,0,none⟩) (Kd.R_mono (Kd.R_mono HO_142002.out (fun k_ hk=>(⟨hk,hk.2.2⟩:_∧k_ ≠ gb141))) (fun k_ hk=>(⟨hk,hk.1.2.1⟩:_∧k_ ≠ gb140))) (fun _ hk=>hk.1.2) (.int .i64 t174)) (fun _ hk=>hk.2) (.int .i64 t174)) (fun _ hk=>hk.2) (.slice none 0 0)) (fun _ hk=>hk.2) (.slice Ao48 x142002_2.length co48)) (fun _ hk=>(by simp [Value.ownBlock])),by repeat (first|(with_reducible first|exact HI0.out|apply IsS71.alloc|apply IsS71.drewN|apply IsS71.drew|apply IsS71.set_1|refine IsS71.far ?_ NB0_140.out _|refine IsS71.far ?_ NB0_141.out _)|exact HI0.out),by repeat (first|(with_reducible first|exact HB.out|apply wA|apply wN|apply wD|refine wS ?_ (IsS71.ge HI0.out)|refine wS ?_ GE140.out|refine wS ?_ GE141.out)|exact HB.out),by repeat (first|(with_reducible first|exact HK.out|apply KeepBut.set_|apply keep_drewN|apply keep_drew|apply keep_alloc|refine eF ?_ GW140.out _|refine eF ?_ GW141.out _)|exact HK.out)⟩
           ·rw [if_neg c43] at H
            have c43b0:(t172 == 0)=false:=beq_eq_false_iff_ne.mpr c43
            have c43b1:(t172 != 0)=true:=bne_iff_ne.mpr c43
            replace H:=Option.bind_eq_some_iff.mp H
            obtain ⟨⟨t176,t177⟩,A550,H⟩:=H
            replace H:(some (t176,x142001_1,x142002_2,t177))=some (r1,r2,r3,r4):=H
            have A55:=Aside0.mk A550
            clear A550
            simp only [Option.some.injEq,Prod.mk.injEq] at H
            obtain ⟨rfl,rfl,rfl,rfl⟩:=H
            have hnb56:=NB141_140.out
            have hnc56:=NB140_141.out
            have hnb57:=NB141_0.out
            have hnc57:=NB0_141.out
            have hcz58_0:wr.cell? ⟨gb141,0,none⟩=some (.int .i64 0):=(kC BK141.out 0).trans rfl
            have hcz58_1:wr.cell? ⟨gb141,1,none⟩=some (u142001):=(kC BK141.out 1).trans rfl
            have hcz58_2:wr.cell? ⟨gb141,2,none⟩=some (u142002):=(kC BK141.out 2).trans rfl
            have hfz58_0:=kF BK141.out 0
            have hfz58_1:=kF BK141.out 1
            have hfz58_2:=kF BK141.out 2
            obtain ⟨Ao59,co59,eo59⟩:=Kd.R_slice HO_142002.out
            subst eo59
            go_wp2_with (first|(go_at_call 16;(with_reducible refine (trustquorummake_Tape_N.calls g s0_0 x1001_2 3 t172 t173 w0 _ ?side1 ?side2 A42.out).mono ?_);(case side1=>repeat (first|(with_reducible first|exact HI0.out|apply IsS71.alloc|apply IsS71.drewN|apply IsS71.drew|apply IsS71.set_1|refine IsS71.far ?_ NB0_140.out _|refine IsS71.far ?_ NB0_141.out _)|exact HI0.out));(case side2=>repeat (first|(with_reducible first|exact HB.out|apply wA|apply wN|apply wD|refine wS ?_ (IsS71.ge HI0.out)|refine wS ?_ GE140.out|refine wS ?_ GE141.out)|exact HB.out));rintro e w60 ⟨rfl,hi,hb,hk⟩;have n0_:=Aside0.mk (Kd.R_mono (Kd.R_keep (IsS71.apart (show IsS71 w0 _ g s0_0 x1001_2 from by repeat (first|(with_reducible first|exact HI0.out|apply IsS71.alloc|apply IsS71.drewN|apply IsS71.drew|apply IsS71.set_1|refine IsS71.far ?_ NB0_140.out _|refine IsS71.far ?_ NB0_141.out _)|exact HI0.out)) (by (with_reducible repeat (first|apply Kd.R_alloc|apply Kd.R_drewN|apply Kd.R_drew));exact HO_142001.out) (by decide)) hk (fun _ h=>h.2)) (fun _ h=>h.1));have n1_:=Aside0.mk (Kd.R_mono (Kd.R_keep (IsS71.apart (show IsS71 w0 _ g s0_0 x1001_2 from by repeat (first|(with_reducible first|exact HI0.out|apply IsS71.alloc|apply IsS71.drewN|apply IsS71.drew|apply IsS71.set_1|refine IsS71.far ?_ NB0_140.out _|refine IsS71.far ?_ NB0_141.out _)|exact HI0.out)) (by (with_reducible repeat (first|apply Kd.R_alloc|apply Kd.R_drewN|apply Kd.R_drew));exact HO_142002.out) (by decide)) hk (fun _ h=>h.2)) (fun _ h=>h.1));have n2_:=Aside0.mk (KeepBut.blk hk (g':=gb140) (o:=.cells #[.int .i64 0,.slice none 0 0,.slice none 0 0] 32 (0,0)) (by (with_reducible repeat (first|refine kN ?_ _|refine kD ?_|refine kA ?_ _));exact BK140.out) NB140_0.out (by simp));have n3_:=Aside0.mk (KeepBut.blk hk (g':=gb141) (o:=.cells #[.int .i64 0,u142001,.slice Ao59 x142002_2.length co59] 32 (0,0)) (by (with_reducible repeat (first|refine kN ?_ _|refine kD ?_|refine kA ?_ _));exact BK141.out) NB141_0.out (by simp));have n4_:=Aside0.mk (KeepBut.trans (by repeat (first|(with_reducible first|exact HK.out|apply KeepBut.set_|apply keep_drewN|apply keep_drew|apply keep_alloc|refine eF ?_ GW140.out _|refine eF ?_ GW141.out _)|exact HK.out)) hk (.inl rfl));have n5_:=Aside0.mk (hb);have n6_:=Aside0.mk (hi);clear HO_142001;clear HO_142002;clear BK140;clear BK141;clear HK;clear HB;clear HI0;have HO_142001:=n0_;have HO_142002:=n1_;have BK140:=n2_;have BK141:=n3_;have HK:=n4_;have HB:=n5_;have HI0:=n6_;clear n0_ n1_ n2_ n3_ n4_ n5_ n6_;(try clear hb);(try clear hb2);(try clear hk);(try clear hi);have hcz61_0:w60.cell? ⟨gb141,0,none⟩=some (.int .i64 0):=(kC BK141.out 0).trans rfl;have hcz61_1:w60.cell? ⟨gb141,1,none⟩=some (u142001):=(kC BK141.out 1).trans rfl;have hcz61_2:w60.cell? ⟨gb141,2,none⟩=some (.slice Ao59 x142002_2.length co59):=(kC BK141.out 2).trans rfl;have hfz61_0:=kF BK141.out 0;have hfz61_1:=kF BK141.out 1;have hfz61_2:=kF BK141.out 2;obtain ⟨Ao62,co62,eo62⟩:=Kd.R_slice HO_142001.out;subst eo62)|((with_reducible refine gate_callee (f:=44) rfl ?_);refine goesL_ (some 70) rfl rfl Try.func44 (by kernel_rfl) rfl #[.pointer (some ⟨g,0,none⟩),.int .i64 1,.int .i64 (wrap64 ((x142001_1.length:Int)+(x142002_2.length:Int)))] rfl (by (try simp only [List.map_toArray,List.map_cons,List.map_nil]);first|done|rfl|(simp only [List.length_drop,List.length_take];rfl)) ?_;(with_reducible refine (trustquorummake_Tape_Range.calls g s0_0 t173 1 (wrap64 ((x142001_1.length:Int)+(x142002_2.length:Int))) t176 t177 w0 _ ?side1 ?side2 A55.out).mono ?_);(case side1=>repeat (first|(with_reducible first|exact HI0.out|apply IsS71.alloc|apply IsS71.drewN|apply IsS71.drew|apply IsS71.set_1|refine IsS71.far ?_ NB0_140.out _|refine IsS71.far ?_ NB0_141.out _)|exact HI0.out));(case side2=>repeat (first|(with_reducible first|exact HB.out|apply wA|apply wN|apply wD|refine wS ?_ (IsS71.ge HI0.out)|refine wS ?_ GE140.out|refine wS ?_ GE141.out)|exact HB.out));rintro e w63 ⟨rfl,hi,hb,hk⟩;refine ⟨_,rfl,?_⟩;have n0_:=Aside0.mk (Kd.R_mono (Kd.R_keep (IsS71.apart (show IsS71 w0 _ g s0_0 t173 from by repeat (first|(with_reducible first|exact HI0.out|apply IsS71.alloc|apply IsS71.drewN|apply IsS71.drew|apply IsS71.set_1|refine IsS71.far ?_ NB0_140.out _|refine IsS71.far ?_ NB0_141.out _)|exact HI0.out)) (by (with_reducible repeat (first|apply Kd.R_alloc|apply Kd.R_drewN|apply Kd.R_drew));exact HO_142001.out) (by decide)) hk (fun _ h=>h.2)) (fun _ h=>h.1));have n1_:=Aside0.mk (Kd.R_mono (Kd.R_keep (IsS71.apart (show IsS71 w0 _ g s0_0 t173 from by repeat (first|(with_reducible first|exact HI0.out|apply IsS71.alloc|apply IsS71.drewN|apply IsS71.drew|apply IsS71.set_1|refine IsS71.far ?_ NB0_140.out _|refine IsS71.far ?_ NB0_141.out _)|exact HI0.out)) (by (with_reducible repeat (first|apply Kd.R_alloc|apply Kd.R_drewN|apply Kd.R_drew));exact HO_142002.out) (by decide)) hk (fun _ h=>h.2)) (fun _ h=>h.1));have n2_:=Aside0.mk (KeepBut.blk hk (g':=gb140) (o:=.cells #[.int .i64 0,.slice none 0 0,.slice none 0 0] 32 (0,0)) (by (with_reducible repeat (first|refine kN ?_ _|refine kD ?_|refine kA ?_ _));exact BK140.out) NB140_0.out (by simp));have n3_:=Aside0.mk (KeepBut.blk hk (g':=gb141) (o:=.cells #[.int .i64 0,.slice Ao62 x142001_1.length co62,.slice Ao59 x142002_2.length co59] 32 (0,0)) (by (with_reducible repeat (first|refine kN ?_ _|refine kD ?_|refine kA ?_ _));exact BK141.out) NB141_0.out (by simp));have n4_:=Aside0.mk (KeepBut.trans (by repeat (first|(with_reducible first|exact HK.out|apply KeepBut.set_|apply keep_drewN|apply keep_drew|apply keep_alloc|refine eF ?_ GW140.out _|refine eF ?_ GW141.out _)|exact HK.out)) hk (.inl rfl));have n5_:=Aside0.mk (hb);have n6_:=Aside0.mk (hi);clear HO_142001;clear HO_142002;clear BK140;clear BK141;clear HK;clear HB;clear HI0;have HO_142001:=n0_;have HO_142002:=n1_;have BK140:=n2_;have BK141:=n3_;have HK:=n4_;have HB:=n5_;have HI0:=n6_;clear n0_ n1_ n2_ n3_ n4_ n5_ n6_;(try clear hb);(try clear hb2);(try clear hk);(try clear hi);have hcz64_0:w63.cell? ⟨gb141,0,none⟩=some (.int .i64 0):=(kC BK141.out 0).trans rfl;have hcz64_1:w63.cell? ⟨gb141,1,none⟩=some (.slice Ao62 x142001_1.length co62):=(kC BK141.out 1).trans rfl;have hcz64_2:w63.cell? ⟨gb141,2,none⟩=some (.slice Ao59 x142002_2.length co59):=(kC BK141.out 2).trans rfl;have hfz64_0:=kF BK141.out 0;have hfz64_1:=kF BK141.out 1;have hfz64_2:=kF BK141.out 2;have hnb65:=NB140_0.out;have hnc65:=NB0_140.out;have hcz66_0:w63.cell? ⟨gb140,0,none⟩=some (.int .i64 0):=(kC BK140.out 0).trans rfl;have hcz66_1:w63.cell? ⟨gb140,1,none⟩=some (.slice none 0 0):=(kC BK140.out 1).trans rfl;have hcz66_2:w63.cell? ⟨gb140,2,none⟩=some (.slice none 0 0):=(kC BK140.out 2).trans rfl;have hfz66_0:=kF BK140.out 0;have hfz66_1:=kF BK140.out 1;have hfz66_2:=kF BK140.out 2))
            refine bodyPost_ret (results_cell_row rfl _ _ gb140 32 #[.int .i64 t176,.slice Ao62 x142001_1.length co62,.slice Ao59 x142002_2.length co59] (0,0) _ rfl (by (with_reducible repeat (first|refine kN ?_ _|refine kD ?_|refine kA ?_ _));refine blk_put (cs:=#[.int .i64 t176,.slice Ao62 x142001_1.length co62,.slice none 0 0]) ?_ 2 _ rfl;(with_reducible repeat (first|refine kN ?_ _|refine kD ?_|refine kA ?_ _));refine blk_put (cs:=#[.int .i64 t176,.slice none 0 0,.slice none 0 0]) ?_ 1 _ rfl;(with_reducible repeat (first|refine kN ?_ _|refine kD ?_|refine kA ?_ _));refine blk_put (cs:=#[.int .i64 0,.slice none 0 0,.slice none 0 0]) ?_ 0 _ rfl;(with_reducible repeat (first|refine kN ?_ _|refine kD ?_|refine kA ?_ _));refine blk_far ?_ NB140_141.out _;(with_reducible repeat (first|refine kN ?_ _|refine kD ?_|refine kA ?_ _));exact BK140.out) Try.underlying32 rfl (by kernel_rfl)) rfl ?_
            exact ⟨_,_,by first|rfl|(simp [errW_none,errW_some] <;> rfl)|(simp only [← hji5];first|rfl|(simp [errW_none,errW_some] <;> rfl))|(simp [*,errW_none,errW_some] <;> rfl),by (with_reducible repeat (first|apply Kd.R_alloc|apply Kd.R_drewN|apply Kd.R_drew));exact Kd.R_mono (Kd.R_far (p:=⟨gb140,2,none⟩) (Kd.R_far (p:=⟨gb140,1,none⟩) (Kd.R_far (p:=⟨gb140,0,none⟩) (Kd.R_far (p:=⟨gb141,0,none⟩) (Kd.R_types (Kd.R_types HO_142001.out BK141.out (by decide)) BK140.out (by decide)) (fun _ hk=>hk.1.2) (.int .i64 t176)) (fun _ hk=>hk.2) (.int .i64 t176)) (fun _ hk=>hk.2) (.slice Ao62 x142001_1.length co62)) (fun _ hk=>hk.2) (.slice Ao59 x142002_2.length co59)) (fun _ hk=>trivial),by (with_reducible repeat (first|apply Kd.R_alloc|apply Kd.R_drewN|apply Kd.R_drew));exact Kd.R_mono (Kd.R_far (p:=⟨gb140,2,none⟩) (Kd.R_far (p:=⟨gb140,1,none⟩) (Kd.R_far (p:=⟨gb140,0,none⟩) (Kd.R_far (p:=⟨gb141,0,none⟩) (Kd.R_mono (Kd.R_mono HO_142002.out (fun k_ hk=>(⟨hk,hk.2.2⟩:_∧k_ ≠ gb141))) (fun k_ hk=>(⟨hk,hk.1.2.1⟩:_∧k_ ≠ gb140))) (fun _ hk=>hk.1.2) (.int .i64 t176)) (fun _ hk=>hk.2) (.int .i64 t176)) (fun _ hk=>hk.2) (.slice Ao62 x142001_1.length co62)) (fun _ hk=>hk.2) (.slice Ao59 x142002_2.length co59)) (fun _ hk=>hk.1.1.1),by repeat (first|(with_reducible first|exact HI0.out|apply IsS71.alloc|apply IsS71.drewN|apply IsS71.drew|apply IsS71.set_1|refine IsS71.far ?_ NB0_140.out _|refine IsS71.far ?_ NB0_141.out _)|exact HI0.out),by repeat (first|(with_reducible first|exact HB.out|apply wA|apply wN|apply wD|refine wS ?_ (IsS71.ge HI0.out)|refine wS ?_ GE140.out|refine wS ?_ GE141.out)|exact HB.out),by repeat (first|(with_reducible first|exact HK.out|apply KeepBut.set_|apply keep_drewN|apply keep_drew|apply keep_alloc|refine eF ?_ GW140.out _|refine eF ?_ GW141.out _)|exact HK.out)⟩
          ·rw [if_neg c41] at H
           have c41b0:decide (0 < (x142002_2.length:Int))=false:=decide_eq_false c41
           have c41b1:decide (0 < x142002_2.length)=false:=decide_eq_false (by omega)
           clear c41
           replace H:=Option.bind_eq_some_iff.mp H
           obtain ⟨⟨t178,t179⟩,A670,H⟩:=H
           replace H:(some (t178,x142001_1,x142002_2,t179))=some (r1,r2,r3,r4):=H
           have A67:=Aside0.mk A670
           clear A670
           simp only [Option.some.injEq,Prod.mk.injEq] at H
           obtain ⟨rfl,rfl,rfl,rfl⟩:=H
           have hnb68:=NB141_140.out
           have hnc68:=NB140_141.out
           have hnb69:=NB141_0.out
           have hnc69:=NB0_141.out
           have hcz70_0:wr.cell? ⟨gb141,0,none⟩=some (.int .i64 0):=(kC BK141.out 0).trans rfl
           have hcz70_1:wr.cell? ⟨gb141,1,none⟩=some (u142001):=(kC BK141.out 1).trans rfl
           have hcz70_2:wr.cell? ⟨gb141,2,none⟩=some (u142002):=(kC BK141.out 2).trans rfl
           have hfz70_0:=kF BK141.out 0
           have hfz70_1:=kF BK141.out 1
           have hfz70_2:=kF BK141.out 2
           obtain ⟨Ao71,co71,eo71⟩:=Kd.R_slice HO_142002.out
           subst eo71
           obtain ⟨Ao72,co72,eo72⟩:=Kd.R_slice HO_142001.out
           subst eo72
           go_wp2_with (first|((with_reducible refine gate_callee (f:=44) rfl ?_);refine goesL_ (some 70) rfl rfl Try.func44 (by kernel_rfl) rfl #[.pointer (some ⟨g,0,none⟩),.int .i64 1,.int .i64 (wrap64 ((x142001_1.length:Int)+(x142002_2.length:Int)))] rfl (by (try simp only [List.map_toArray,List.map_cons,List.map_nil]);first|done|rfl|(simp only [List.length_drop,List.length_take];rfl)) ?_;(with_reducible refine (trustquorummake_Tape_Range.calls g s0_0 x1001_2 1 (wrap64 ((x142001_1.length:Int)+(x142002_2.length:Int))) t178 t179 w0 _ ?side1 ?side2 A67.out).mono ?_);(case side1=>repeat (first|(with_reducible first|exact HI0.out|apply IsS71.alloc|apply IsS71.drewN|apply IsS71.drew|apply IsS71.set_1|refine IsS71.far ?_ NB0_140.out _|refine IsS71.far ?_ NB0_141.out _)|exact HI0.out));(case side2=>repeat (first|(with_reducible first|exact HB.out|apply wA|apply wN|apply wD|refine wS ?_ (IsS71.ge HI0.out)|refine wS ?_ GE140.out|refine wS ?_ GE141.out)|exact HB.out));rintro e w73 ⟨rfl,hi,hb,hk⟩;refine ⟨_,rfl,?_⟩;have n0_:=Aside0.mk (Kd.R_mono (Kd.R_keep (IsS71.apart (show IsS71 w0 _ g s0_0 x1001_2 from by repeat (first|(with_reducible first|exact HI0.out|apply IsS71.alloc|apply IsS71.drewN|apply IsS71.drew|apply IsS71.set_1|refine IsS71.far ?_ NB0_140.out _|refine IsS71.far ?_ NB0_141.out _)|exact HI0.out)) (by (with_reducible repeat (first|apply Kd.R_alloc|apply Kd.R_drewN|apply Kd.R_drew));exact HO_142001.out) (by decide)) hk (fun _ h=>h.2)) (fun _ h=>h.1));have n1_:=Aside0.mk (Kd.R_mono (Kd.R_keep (IsS71.apart (show IsS71 w0 _ g s0_0 x1001_2 from by repeat (first|(with_reducible first|exact HI0.out|apply IsS71.alloc|apply IsS71.drewN|apply IsS71.drew|apply IsS71.set_1|refine IsS71.far ?_ NB0_140.out _|refine IsS71.far ?_ NB0_141.out _)|exact HI0.out)) (by (with_reducible repeat (first|apply Kd.R_alloc|apply Kd.R_drewN|apply Kd.R_drew));exact HO_142002.out) (by decide)) hk (fun _ h=>h.2)) (fun _ h=>h.1));have n2_:=Aside0.mk (KeepBut.blk hk (g':=gb140) (o:=.cells #[.int .i64 0,.slice none 0 0,.slice none 0 0] 32 (0,0)) (by (with_reducible repeat (first|refine kN ?_ _|refine kD ?_|refine kA ?_ _));exact BK140.out) NB140_0.out (by simp));have n3_:=Aside0.mk (KeepBut.blk hk (g':=gb141) (o:=.cells #[.int .i64 0,.slice Ao72 x142001_1.length co72,.slice Ao71 x142002_2.length co71] 32 (0,0)) (by (with_reducible repeat (first|refine kN ?_ _|refine kD ?_|refine kA ?_ _));exact BK141.out) NB141_0.out (by simp));have n4_:=Aside0.mk (KeepBut.trans (by repeat (first|(with_reducible first|exact HK.out|apply KeepBut.set_|apply keep_drewN|apply keep_drew|apply keep_alloc|refine eF ?_ GW140.out _|refine eF ?_ GW141.out _)|exact HK.out)) hk (.inl rfl));have n5_:=Aside0.mk (hb);have n6_:=Aside0.mk (hi);clear HO_142001;clear HO_142002;clear BK140;clear BK141;clear HK;clear HB;clear HI0;have HO_142001:=n0_;have HO_142002:=n1_;have BK140:=n2_;have BK141:=n3_;have HK:=n4_;have HB:=n5_;have HI0:=n6_;clear n0_ n1_ n2_ n3_ n4_ n5_ n6_;(try clear hb);(try clear hb2);(try clear hk);(try clear hi);have hcz74_0:w73.cell? ⟨gb141,0,none⟩=some (.int .i64 0):=(kC BK141.out 0).trans rfl;have hcz74_1:w73.cell? ⟨gb141,1,none⟩=some (.slice Ao72 x142001_1.length co72):=(kC BK141.out 1).trans rfl;have hcz74_2:w73.cell? ⟨gb141,2,none⟩=some (.slice Ao71 x142002_2.length co71):=(kC BK141.out 2).trans rfl;have hfz74_0:=kF BK141.out 0;have hfz74_1:=kF BK141.out 1;have hfz74_2:=kF BK141.out 2;have hnb75:=NB140_0.out;have hnc75:=NB0_140.out;have hcz76_0:w73.cell? ⟨gb140,0,none⟩=some (.int .i64 0):=(kC BK140.out 0).trans rfl;have hcz76_1:w73.cell? ⟨gb140,1,none⟩=some (.slice none 0 0):=(kC BK140.out 1).trans rfl;have hcz76_2:w73.cell? ⟨gb140,2,none⟩=some (.slice none 0 0):=(kC BK140.out 2).trans rfl;have hfz76_0:=kF BK140.out 0;have hfz76_1:=kF BK140.out 1;have hfz76_2:=kF BK140.out 2))
           refine bodyPost_ret (results_cell_row rfl _ _ gb140 32 #[.int .i64 t178,.slice Ao72 x142001_1.length co72,.slice Ao71 x142002_2.length co71] (0,0) _ rfl (by (with_reducible repeat (first|refine kN ?_ _|refine kD ?_|refine kA ?_ _));refine blk_put (cs:=#[.int .i64 t178,.slice Ao72 x142001_1.length co72,.slice none 0 0]) ?_ 2 _ rfl;(with_reducible repeat (first|refine kN ?_ _|refine kD ?_|refine kA ?_ _));refine blk_put (cs:=#[.int .i64 t178,.slice none 0 0,.slice none 0 0]) ?_ 1 _ rfl;(with_reducible repeat (first|refine kN ?_ _|refine kD ?_|refine kA ?_ _));refine blk_put (cs:=#[.int .i64 0,.slice none 0 0,.slice none 0 0]) ?_ 0 _ rfl;(with_reducible repeat (first|refine kN ?_ _|refine kD ?_|refine kA ?_ _));refine blk_far ?_ NB140_141.out _;(with_reducible repeat (first|refine kN ?_ _|refine kD ?_|refine kA ?_ _));exact BK140.out) Try.underlying32 rfl (by kernel_rfl)) rfl ?_
           exact ⟨_,_,by first|rfl|(simp [errW_none,errW_some] <;> rfl)|(simp only [← hji5];first|rfl|(simp [errW_none,errW_some] <;> rfl))|(simp [*,errW_none,errW_some] <;> rfl),by (with_reducible repeat (first|apply Kd.R_alloc|apply Kd.R_drewN|apply Kd.R_drew));exact Kd.R_mono (Kd.R_far (p:=⟨gb140,2,none⟩) (Kd.R_far (p:=⟨gb140,1,none⟩) (Kd.R_far (p:=⟨gb140,0,none⟩) (Kd.R_far (p:=⟨gb141,0,none⟩) (Kd.R_types (Kd.R_types HO_142001.out BK141.out (by decide)) BK140.out (by decide)) (fun _ hk=>hk.1.2) (.int .i64 t178)) (fun _ hk=>hk.2) (.int .i64 t178)) (fun _ hk=>hk.2) (.slice Ao72 x142001_1.length co72)) (fun _ hk=>hk.2) (.slice Ao71 x142002_2.length co71)) (fun _ hk=>trivial),by (with_reducible repeat (first|apply Kd.R_alloc|apply Kd.R_drewN|apply Kd.R_drew));exact Kd.R_mono (Kd.R_far (p:=⟨gb140,2,none⟩) (Kd.R_far (p:=⟨gb140,1,none⟩) (Kd.R_far (p:=⟨gb140,0,none⟩) (Kd.R_far (p:=⟨gb141,0,none⟩) (Kd.R_mono (Kd.R_mono HO_142002.out (fun k_ hk=>(⟨hk,hk.2.2⟩:_∧k_ ≠ gb141))) (fun k_ hk=>(⟨hk,hk.1.2.1⟩:_∧k_ ≠ gb140))) (fun _ hk=>hk.1.2) (.int .i64 t178)) (fun _ hk=>hk.2) (.int .i64 t178)) (fun _ hk=>hk.2) (.slice Ao72 x142001_1.length co72)) (fun _ hk=>hk.2) (.slice Ao71 x142002_2.length co71)) (fun _ hk=>hk.1.1.1),by repeat (first|(with_reducible first|exact HI0.out|apply IsS71.alloc|apply IsS71.drewN|apply IsS71.drew|apply IsS71.set_1|refine IsS71.far ?_ NB0_140.out _|refine IsS71.far ?_ NB0_141.out _)|exact HI0.out),by repeat (first|(with_reducible first|exact HB.out|apply wA|apply wN|apply wD|refine wS ?_ (IsS71.ge HI0.out)|refine wS ?_ GE140.out|refine wS ?_ GE141.out)|exact HB.out),by repeat (first|(with_reducible first|exact HK.out|apply KeepBut.set_|apply keep_drewN|apply keep_drew|apply keep_alloc|refine eF ?_ GW140.out _|refine eF ?_ GW141.out _)|exact HK.out)⟩
      ·rw [if_neg c25] at H
       have c25b0:decide (1 < a2)=false:=decide_eq_false c25
       clear c25
       replace H:=Option.bind_eq_some_iff.mp H
       obtain ⟨⟨t180,t181⟩,A770,H⟩:=H
       replace H:(some (t180,x142001_1,([]:List (S32)),t181))=some (r1,r2,r3,r4):=H
       have A77:=Aside0.mk A770
       clear A770
       simp only [Option.some.injEq,Prod.mk.injEq] at H
       obtain ⟨rfl,rfl,rfl,rfl⟩:=H
       have hnb78:=NB141_140.out
       have hnc78:=NB140_141.out
       have hnb79:=NB141_0.out
       have hnc79:=NB0_141.out
       have hcz80_0:wr.cell? ⟨gb141,0,none⟩=some (.int .i64 0):=(kC BK141.out 0).trans rfl
       have hcz80_1:wr.cell? ⟨gb141,1,none⟩=some (u142001):=(kC BK141.out 1).trans rfl
       have hcz80_2:wr.cell? ⟨gb141,2,none⟩=some (.slice none 0 0):=(kC BK141.out 2).trans rfl
       have hfz80_0:=kF BK141.out 0
       have hfz80_1:=kF BK141.out 1
       have hfz80_2:=kF BK141.out 2
       obtain ⟨Ao81,co81,eo81⟩:=Kd.R_slice HO_142001.out
       subst eo81
       go_wp2_with (first|((with_reducible refine gate_callee (f:=44) rfl ?_);refine goesL_ (some 70) rfl rfl Try.func44 (by kernel_rfl) rfl #[.pointer (some ⟨g,0,none⟩),.int .i64 1,.int .i64 (wrap64 ((x142001_1.length:Int)+(([]:List (S32)).length:Int)))] rfl (by (try simp only [List.map_toArray,List.map_cons,List.map_nil]);first|done|rfl|(simp only [List.length_drop,List.length_take];rfl)) ?_;(with_reducible refine (trustquorummake_Tape_Range.calls g s0_0 t147 1 (wrap64 ((x142001_1.length:Int)+(([]:List (S32)).length:Int))) t180 t181 w0 _ ?side1 ?side2 A77.out).mono ?_);(case side1=>repeat (first|(with_reducible first|exact HI0.out|apply IsS71.alloc|apply IsS71.drewN|apply IsS71.drew|apply IsS71.set_1|refine IsS71.far ?_ NB0_140.out _|refine IsS71.far ?_ NB0_141.out _)|exact HI0.out));(case side2=>repeat (first|(with_reducible first|exact HB.out|apply wA|apply wN|apply wD|refine wS ?_ (IsS71.ge HI0.out)|refine wS ?_ GE140.out|refine wS ?_ GE141.out)|exact HB.out));rintro e w82 ⟨rfl,hi,hb,hk⟩;refine ⟨_,rfl,?_⟩;have n0_:=Aside0.mk (Kd.R_mono (Kd.R_keep (IsS71.apart (show IsS71 w0 _ g s0_0 t147 from by repeat (first|(with_reducible first|exact HI0.out|apply IsS71.alloc|apply IsS71.drewN|apply IsS71.drew|apply IsS71.set_1|refine IsS71.far ?_ NB0_140.out _|refine IsS71.far ?_ NB0_141.out _)|exact HI0.out)) (by (with_reducible repeat (first|apply Kd.R_alloc|apply Kd.R_drewN|apply Kd.R_drew));exact HO_142001.out) (by decide)) hk (fun _ h=>h.2)) (fun _ h=>h.1));have n1_:=Aside0.mk (KeepBut.blk hk (g':=gb140) (o:=.cells #[.int .i64 0,.slice none 0 0,.slice none 0 0] 32 (0,0)) (by (with_reducible repeat (first|refine kN ?_ _|refine kD ?_|refine kA ?_ _));exact BK140.out) NB140_0.out (by simp));have n2_:=Aside0.mk (KeepBut.blk hk (g':=gb141) (o:=.cells #[.int .i64 0,.slice Ao81 x142001_1.length co81,.slice none 0 0] 32 (0,0)) (by (with_reducible repeat (first|refine kN ?_ _|refine kD ?_|refine kA ?_ _));exact BK141.out) NB141_0.out (by simp));have n3_:=Aside0.mk (KeepBut.trans (by repeat (first|(with_reducible first|exact HK.out|apply KeepBut.set_|apply keep_drewN|apply keep_drew|apply keep_alloc|refine eF ?_ GW140.out _|refine eF ?_ GW141.out _)|exact HK.out)) hk (.inl rfl));have n4_:=Aside0.mk (hb);have n5_:=Aside0.mk (hi);clear HO_142001;clear BK140;clear BK141;clear HK;clear HB;clear HI0;have HO_142001:=n0_;have BK140:=n1_;have BK141:=n2_;have HK:=n3_;have HB:=n4_;have HI0:=n5_;clear n0_ n1_ n2_ n3_ n4_ n5_;(try clear hb);(try clear hb2);(try clear hk);(try clear hi);have hcz83_0:w82.cell? ⟨gb141,0,none⟩=some (.int .i64 0):=(kC BK141.out 0).trans rfl;have hcz83_1:w82.cell? ⟨gb141,1,none⟩=some (.slice Ao81 x142001_1.length co81):=(kC BK141.out 1).trans rfl;have hcz83_2:w82.cell? ⟨gb141,2,none⟩=some (.slice none 0 0):=(kC BK141.out 2).trans rfl;have hfz83_0:=kF BK141.out 0;have hfz83_1:=kF BK141.out 1;have hfz83_2:=kF BK141.out 2;have hnb84:=NB140_0.out;have hnc84:=NB0_140.out;have hcz85_0:w82.cell? ⟨gb140,0,none⟩=some (.int .i64 0):=(kC BK140.out 0).trans rfl;have hcz85_1:w82.cell? ⟨gb140,1,none⟩=some (.slice none 0 0):=(kC BK140.out 1).trans rfl;have hcz85_2:w82.cell? ⟨gb140,2,none⟩=some (.slice none 0 0):=(kC BK140.out 2).trans rfl;have hfz85_0:=kF BK140.out 0;have hfz85_1:=kF BK140.out 1;have hfz85_2:=kF BK140.out 2))
       refine bodyPost_ret (results_cell_row rfl _ _ gb140 32 #[.int .i64 t180,.slice Ao81 x142001_1.length co81,.slice none 0 0] (0,0) _ rfl (by (with_reducible repeat (first|refine kN ?_ _|refine kD ?_|refine kA ?_ _));refine blk_put (cs:=#[.int .i64 t180,.slice Ao81 x142001_1.length co81,.slice none 0 0]) ?_ 2 _ rfl;(with_reducible repeat (first|refine kN ?_ _|refine kD ?_|refine kA ?_ _));refine blk_put (cs:=#[.int .i64 t180,.slice none 0 0,.slice none 0 0]) ?_ 1 _ rfl;(with_reducible repeat (first|refine kN ?_ _|refine kD ?_|refine kA ?_ _));refine blk_put (cs:=#[.int .i64 0,.slice none 0 0,.slice none 0 0]) ?_ 0 _ rfl;(with_reducible repeat (first|refine kN ?_ _|refine kD ?_|refine kA ?_ _));refine blk_far ?_ NB140_141.out _;(with_reducible repeat (first|refine kN ?_ _|refine kD ?_|refine kA ?_ _));exact BK140.out) Try.underlying32 rfl (by kernel_rfl)) rfl ?_
       exact ⟨_,_,by first|rfl|(simp [errW_none,errW_some] <;> rfl)|(simp only [← hji5];first|rfl|(simp [errW_none,errW_some] <;> rfl))|(simp [*,errW_none,errW_some] <;> rfl),by (with_reducible repeat (first|apply Kd.R_alloc|apply Kd.R_drewN|apply Kd.R_drew));exact Kd.R_mono (Kd.R_far (p:=⟨gb140,2,none⟩) (Kd.R_far (p:=⟨gb140,1,none⟩) (Kd.R_far (p:=⟨gb140,0,none⟩) (Kd.R_far (p:=⟨gb141,0,none⟩) (Kd.R_types (Kd.R_types HO_142001.out BK141.out (by decide)) BK140.out (by decide)) (fun _ hk=>hk.1.2) (.int .i64 t180)) (fun _ hk=>hk.2) (.int .i64 t180)) (fun _ hk=>hk.2) (.slice Ao81 x142001_1.length co81)) (fun _ hk=>hk.2) (.slice none 0 0)) (fun _ hk=>trivial),by first|exact Kd.R_nil _ _ _ _ _|exact Kd.N_nil _ _ _ _ _|exact Kd.V_nil _ _ _ _ _|exact Kd.Q_nil _ _ _ _ _|exact Kd.S_nil _ _ _ _ _,by repeat (first|(with_reducible first|exact HI0.out|apply IsS71.alloc|apply IsS71.drewN|apply IsS71.drew|apply IsS71.set_1|refine IsS71.far ?_ NB0_140.out _|refine IsS71.far ?_ NB0_141.out _)|exact HI0.out),by repeat (first|(with_reducible first|exact HB.out|apply wA|apply wN|apply wD|refine wS ?_ (IsS71.ge HI0.out)|refine wS ?_ GE140.out|refine wS ?_ GE141.out)|exact HB.out),by repeat (first|(with_reducible first|exact HK.out|apply KeepBut.set_|apply keep_drewN|apply keep_drew|apply keep_alloc|refine eF ?_ GW140.out _|refine eF ?_ GW141.out _)|exact HK.out)⟩
  ·rw [if_neg c8] at H
   exact absurd H (by simp)
 ·rw [if_neg c7] at H
  exact absurd H (by simp)
def trustquorummake_Trust.f (k:Nat) (s0_0:List Int) (s0_1:Int) (a1:Int) (a2:Int):Option (Int × List Int × (List (S32)) × Int):=(trustquorummake_trust.f k s0_0 s0_1 a1 a2).bind fun bt141=>((trustquorumref02_Valid.f k bt141.1 bt141.2.1 bt141.2.2.1).bind fun t150=>(if t150=0 then (some (bt141.1,bt141.2.1,bt141.2.2.1,bt141.2.2.2)) else ((trustquorummake_Tape_N.f s0_0 bt141.2.2.2 a1).bind fun bt151=>(some (1,(([bt151.1]:List Int)),([]:List (S32)),bt151.2)))))
set_option maxHeartbeats 8000000 in
set_option maxRecDepth 100000 in
theorem trustquorummake_Trust.calls (k:Nat) (g:Nat) (s0_0:List Int) (s0_1:Int) (a1:Int) (a2:Int) (r1:Int) (r2:List Int) (r3:List (S32)) (r4:Int) (w0 w:World) (hI:IsS71 w0 w g s0_0 s0_1) (hB:Below w0.heap.size w0 w) (h:trustquorummake_Trust.f k s0_0 s0_1 a1 a2=some (r1,r2,r3,r4)) :
  Calls Try.prog 45 #[.pointer (some ⟨g,0,none⟩),.int .i64 a1,.int .i64 a2] w fun e w'=>∃ v1_ v2_:Value,e=.returned (.agg #[.int .i64 r1,v1_,v2_])∧Kd.R (Kd.int .i64) 3 w' w.heap.size (fun _=>True) v1_ r2∧Kd.R k32 32 w' w.heap.size (fun k_=>some k_ ≠ (v1_:Value).ownBlock) v2_ r3∧IsS71 w0 w' g s0_0 r4∧Below w0.heap.size w0 w'∧KeepBut w w' g none:=by
 have hu32:=Try.underlying32
 have HI0:=Aside0.mk hI
 have HK:=Aside0.mk (KeepBut.refl w g none)
 have HL:=Aside0.mk hB.size
 clear hI
 have HW0:=Aside0.mk hB.size
 have HB:=Aside0.mk hB
 clear hB
 have H:((trustquorummake_trust.f k s0_0 s0_1 a1 a2).bind fun bt141=>((trustquorumref02_Valid.f k bt141.1 bt141.2.1 bt141.2.2.1).bind fun t150=>(if t150=0 then (some (bt141.1,bt141.2.1,bt141.2.2.1,bt141.2.2.2)) else ((trustquorummake_Tape_N.f s0_0 bt141.2.2.2 a1).bind fun bt151=>(some (1,(([bt151.1]:List Int)),([]:List (S32)),bt151.2))))))=some (r1,r2,r3,r4):=h
 clear h
 replace H:=Option.bind_eq_some_iff.mp H
 obtain ⟨⟨t141,t142,t145,t148⟩,A40,H⟩:=H
 replace H:((trustquorumref02_Valid.f k t141 t142 t145).bind fun t150=>(if t150=0 then (some (t141,t142,t145,t148)) else ((trustquorummake_Tape_N.f s0_0 t148 a1).bind fun bt151=>(some (1,(([bt151.1]:List Int)),([]:List (S32)),bt151.2)))))=some (r1,r2,r3,r4):=H
 have A4:=Aside0.mk A40
 clear A40
 replace H:=Option.bind_eq_some_iff.mp H
 obtain ⟨t150,A50,H⟩:=H
 replace H:(if t150=0 then (some (t141,t142,t145,t148)) else ((trustquorummake_Tape_N.f s0_0 t148 a1).bind fun bt151=>(some (1,(([bt151.1]:List Int)),([]:List (S32)),bt151.2))))=some (r1,r2,r3,r4):=H
 have A5:=Aside0.mk A50
 clear A50
 by_cases c6:t150=0
 ·rw [if_pos c6] at H
  have c6b0:(t150 == 0)=true:=beq_iff_eq.mpr c6
  have c6b1:(t150 != 0)=false:=bne_eq_false_iff_eq.mpr c6
  clear c6
  simp only [Option.some.injEq,Prod.mk.injEq] at H
  obtain ⟨rfl,rfl,rfl,rfl⟩:=H
  go_enter Try.func45,Try.ntmps45
  go_wp2_with (first|((with_reducible refine gate_dst (N:=6) rfl ?_);refine box_event ?hg (N:=6) ?hd (cs:=#[.int .i64 0,.slice none 0 0,.slice none 0 0]) (t:=32) ?hr ?_;(case hd=>rfl);(case hg=>rfl);(case hr=>first|(go_simp;done)|(go_simp;rfl));intro gb140 hg w7 hbox hb;have n0_:=Aside0.mk (IsS71.below (by repeat (first|(with_reducible first|exact HI0.out|apply IsS71.alloc|apply IsS71.drewN|apply IsS71.drew|apply IsS71.set_1)|exact HI0.out)) hb);have n1_:=Aside0.mk (KeepBut.trans (by repeat (first|(with_reducible first|exact HK.out|apply KeepBut.set_|apply keep_drewN|apply keep_drew|apply keep_alloc)|exact HK.out)) (KeepBut.of_below hb g none) (.inl rfl));have n2_:=Aside0.mk (below_step (by repeat (first|(with_reducible first|exact HB.out|apply wA|apply wN|apply wD|refine wS ?_ (IsS71.ge HI0.out))|exact HB.out)) hb);have n3_:=Aside0.mk (hbox);have n4_:=Aside0.mk ((by rw [hg];exact (keep_size (w:=w) (g:=g) (row:=none) (by repeat (first|(with_reducible first|exact HK.out|apply KeepBut.set_|apply keep_drewN|apply keep_drew|apply keep_alloc)|exact HK.out))):w.heap.size≤gb140));have n5_:=Aside0.mk ((Nat.le_trans HW0.out (by rw [hg];exact (keep_size (w:=w) (g:=g) (row:=none) (by repeat (first|(with_reducible first|exact HK.out|apply KeepBut.set_|apply keep_drewN|apply keep_drew|apply keep_alloc)|exact HK.out))):w.heap.size≤gb140):w0.heap.size≤gb140));have n6_:=Aside0.mk ((by rw [hg];exact Nat.ne_of_lt (IsS71.lt (show IsS71 w0 _ g s0_0 s0_1 from by repeat (first|(with_reducible first|exact HI0.out|apply IsS71.alloc|apply IsS71.drewN|apply IsS71.drew|apply IsS71.set_1)|exact HI0.out))):g ≠ gb140));have n7_:=Aside0.mk ((by rw [hg];exact Nat.ne_of_gt (IsS71.lt (show IsS71 w0 _ g s0_0 s0_1 from by repeat (first|(with_reducible first|exact HI0.out|apply IsS71.alloc|apply IsS71.drewN|apply IsS71.drew|apply IsS71.set_1)|exact HI0.out))):gb140 ≠ g));clear HI0;clear HK;clear HB;have HI0:=n0_;have HK:=n1_;have HB:=n2_;have BK140:=n3_;have GW140:=n4_;have GE140:=n5_;have NB0_140:=n6_;have NB140_0:=n7_;clear n0_ n1_ n2_ n3_ n4_ n5_ n6_ n7_;clear hb hbox hg)|((with_reducible refine gate_callee (f:=79) rfl ?_);refine goesL_ (some 11) rfl rfl Try.func79 (by kernel_rfl) rfl #[.pointer (some ⟨g,0,none⟩),.int .i64 a1,.int .i64 a2] rfl (by (try simp only [List.map_toArray,List.map_cons,List.map_nil]);first|done|rfl|(simp only [List.length_drop,List.length_take];rfl)) ?_;(with_reducible refine (trustquorummake_trust.calls k g s0_0 s0_1 a1 a2 t141 t142 t145 t148 w0 _ ?side1 ?side2 A4.out).mono ?_);(case side1=>repeat (first|(with_reducible first|exact HI0.out|apply IsS71.alloc|apply IsS71.drewN|apply IsS71.drew|apply IsS71.set_1|refine IsS71.far ?_ NB0_140.out _)|exact HI0.out));(case side2=>repeat (first|(with_reducible first|exact HB.out|apply wA|apply wN|apply wD|refine wS ?_ (IsS71.ge HI0.out)|refine wS ?_ GE140.out)|exact HB.out));rintro e w8 ⟨v143,v146,rfl,ho0,ho1,hi,hb,hk⟩;refine ⟨_,rfl,?_⟩;have n0_:=Aside0.mk (KeepBut.blk hk (g':=gb140) (o:=.cells #[.int .i64 0,.slice none 0 0,.slice none 0 0] 32 (0,0)) (by (with_reducible repeat (first|refine kN ?_ _|refine kD ?_|refine kA ?_ _));exact BK140.out) NB140_0.out (by simp));have n1_:=Aside0.mk (Kd.R_lower ho0 (keep_size (w:=w) (g:=g) (row:=none) (by repeat (first|(with_reducible first|exact HK.out|apply KeepBut.set_|apply keep_drewN|apply keep_drew|apply keep_alloc|refine eF ?_ GW140.out _)|exact HK.out))));have n2_:=Aside0.mk (Kd.R_lower (Kd.R_newB ho1 (g:=gb140) (o:=.cells #[.int .i64 0,.slice none 0 0,.slice none 0 0] 32 (0,0)) (by (with_reducible repeat (first|refine kN ?_ _|refine kD ?_|refine kA ?_ _));exact BK140.out)) (keep_size (w:=w) (g:=g) (row:=none) (by repeat (first|(with_reducible first|exact HK.out|apply KeepBut.set_|apply keep_drewN|apply keep_drew|apply keep_alloc|refine eF ?_ GW140.out _)|exact HK.out))));have n3_:=Aside0.mk (KeepBut.trans (by repeat (first|(with_reducible first|exact HK.out|apply KeepBut.set_|apply keep_drewN|apply keep_drew|apply keep_alloc|refine eF ?_ GW140.out _)|exact HK.out)) hk (.inl rfl));have n4_:=Aside0.mk (hb);have n5_:=Aside0.mk (hi);clear BK140;clear HK;clear HB;clear HI0;have BK140:=n0_;have HO144:=n1_;have HO147:=n2_;have HK:=n3_;have HB:=n4_;have HI0:=n5_;clear n0_ n1_ n2_ n3_ n4_ n5_;(try clear hb);(try clear hb2);(try clear hk);(try clear hi);(try clear ho0);(try clear ho1))|((with_reducible refine gate_dst (N:=7) rfl ?_);refine box_event ?hg (N:=7) ?hd (cs:=#[.int .i64 0,.slice none 0 0,.slice none 0 0]) (t:=32) ?hr ?_;(case hd=>rfl);(case hg=>rfl);(case hr=>first|(go_simp;done)|(go_simp;rfl));intro gb149 hg w9 hbox hb;have n0_:=Aside0.mk (Kd.R_below (by (with_reducible repeat (first|apply Kd.R_alloc|apply Kd.R_drewN|apply Kd.R_drew));exact HO144.out) hb);have n1_:=Aside0.mk (Kd.R_below (Kd.R_elderB (by (with_reducible repeat (first|apply Kd.R_alloc|apply Kd.R_drewN|apply Kd.R_drew));exact HO147.out) gb149 (Nat.le_of_eq hg.symm)) hb);have n2_:=Aside0.mk (IsS71.below (by repeat (first|(with_reducible first|exact HI0.out|apply IsS71.alloc|apply IsS71.drewN|apply IsS71.drew|apply IsS71.set_1|refine IsS71.far ?_ NB0_140.out _)|exact HI0.out)) hb);have n3_:=Aside0.mk (blk_below (g:=gb140) (o:=.cells #[.int .i64 0,.slice none 0 0,.slice none 0 0] 32 (0,0)) (by (with_reducible repeat (first|refine kN ?_ _|refine kD ?_|refine kA ?_ _));exact BK140.out) hb);have n4_:=Aside0.mk (KeepBut.trans (by repeat (first|(with_reducible first|exact HK.out|apply KeepBut.set_|apply keep_drewN|apply keep_drew|apply keep_alloc|refine eF ?_ GW140.out _)|exact HK.out)) (KeepBut.of_below hb g none) (.inl rfl));have n5_:=Aside0.mk (below_step (by repeat (first|(with_reducible first|exact HB.out|apply wA|apply wN|apply wD|refine wS ?_ (IsS71.ge HI0.out)|refine wS ?_ GE140.out)|exact HB.out)) hb);have n6_:=Aside0.mk (hbox);have n7_:=Aside0.mk ((by rw [hg];exact (keep_size (w:=w) (g:=g) (row:=none) (by repeat (first|(with_reducible first|exact HK.out|apply KeepBut.set_|apply keep_drewN|apply keep_drew|apply keep_alloc|refine eF ?_ GW140.out _)|exact HK.out))):w.heap.size≤gb149));have n8_:=Aside0.mk ((Nat.le_trans HW0.out (by rw [hg];exact (keep_size (w:=w) (g:=g) (row:=none) (by repeat (first|(with_reducible first|exact HK.out|apply KeepBut.set_|apply keep_drewN|apply keep_drew|apply keep_alloc|refine eF ?_ GW140.out _)|exact HK.out))):w.heap.size≤gb149):w0.heap.size≤gb149));have n9_:=Aside0.mk ((by rw [hg];exact Nat.ne_of_lt (blk_lt (g:=gb140) (o:=.cells #[.int .i64 0,.slice none 0 0,.slice none 0 0] 32 (0,0)) (by (with_reducible repeat (first|refine kN ?_ _|refine kD ?_|refine kA ?_ _));exact BK140.out)):gb140 ≠ gb149));have n10_:=Aside0.mk ((by rw [hg];exact Nat.ne_of_gt (blk_lt (g:=gb140) (o:=.cells #[.int .i64 0,.slice none 0 0,.slice none 0 0] 32 (0,0)) (by (with_reducible repeat (first|refine kN ?_ _|refine kD ?_|refine kA ?_ _));exact BK140.out)):gb149 ≠ gb140));have n11_:=Aside0.mk ((by rw [hg];exact Nat.ne_of_lt (IsS71.lt (show IsS71 w0 _ g s0_0 t148 from by repeat (first|(with_reducible first|exact HI0.out|apply IsS71.alloc|apply IsS71.drewN|apply IsS71.drew|apply IsS71.set_1|refine IsS71.far ?_ NB0_140.out _)|exact HI0.out))):g ≠ gb149));have n12_:=Aside0.mk ((by rw [hg];exact Nat.ne_of_gt (IsS71.lt (show IsS71 w0 _ g s0_0 t148 from by repeat (first|(with_reducible first|exact HI0.out|apply IsS71.alloc|apply IsS71.drewN|apply IsS71.drew|apply IsS71.set_1|refine IsS71.far ?_ NB0_140.out _)|exact HI0.out))):gb149 ≠ g));clear HO144;clear HO147;clear HI0;clear BK140;clear HK;clear HB;have HO144:=n0_;have HO147:=n1_;have HI0:=n2_;have BK140:=n3_;have HK:=n4_;have HB:=n5_;have BK149:=n6_;have GW149:=n7_;have GE149:=n8_;have NB140_149:=n9_;have NB149_140:=n10_;have NB0_149:=n11_;have NB149_0:=n12_;clear n0_ n1_ n2_ n3_ n4_ n5_ n6_ n7_ n8_ n9_ n10_ n11_ n12_;clear hb hbox hg;have hnb10:=NB149_140.out;have hnc10:=NB140_149.out;have hnb11:=NB149_0.out;have hnc11:=NB0_149.out;have hcz12_0:w9.cell? ⟨gb149,0,none⟩=some (.int .i64 0):=(kC BK149.out 0).trans rfl;have hcz12_1:w9.cell? ⟨gb149,1,none⟩=some (.slice none 0 0):=(kC BK149.out 1).trans rfl;have hcz12_2:w9.cell? ⟨gb149,2,none⟩=some (.slice none 0 0):=(kC BK149.out 2).trans rfl;have hfz12_0:=kF BK149.out 0;have hfz12_1:=kF BK149.out 1;have hfz12_2:=kF BK149.out 2;obtain ⟨Ao13,co13,eo13⟩:=Kd.R_slice HO144.out;subst eo13;obtain ⟨Ao14,co14,eo14⟩:=Kd.R_slice HO147.out;subst eo14)|((with_reducible refine gate_callee (f:=56) rfl ?_);refine goesL_ (some 13) rfl rfl Try.func56 (by kernel_rfl) rfl #[.agg #[.int .i64 t141,.slice Ao13 t142.length co13,.slice Ao14 t145.length co14]] rfl (by (try simp only [List.map_toArray,List.map_cons,List.map_nil]);first|done|rfl|(simp only [List.length_drop,List.length_take];rfl)) ?_;(with_reducible refine (trustquorumref02_Valid.calls k t141 _ _ t142 _ _ t145 t150 _ ?side1 ?side2 ?side3 ?side4 A5.out).mono ?_);(case side1=>refine (Kd.R_reads' (e:=3) (base:=w.heap.size) (ok:=fun k_=>True) (n:=t142.length) (c:=co13) ?_).2.2;exact (by (with_reducible repeat (first|apply Kd.R_alloc|apply Kd.R_drewN|apply Kd.R_drew));exact (Kd.R_mono (Kd.R_far (p:=⟨gb149,2,none⟩) (Kd.R_far (p:=⟨gb149,1,none⟩) (Kd.R_far (p:=⟨gb149,0,none⟩) (Kd.R_types HO144.out BK149.out (by decide)) (fun _ hk=>hk.2) (.int .i64 t141)) (fun _ hk=>hk.2) (.slice Ao13 t142.length co13)) (fun _ hk=>hk.2) (.slice Ao14 t145.length co14)) (fun _ h_=>h_.1))));(case side2=>exact (Kd.R_reads' HO144.out).2.1);(case side3=>refine (Kd.R_reads' (e:=32) (base:=w.heap.size) (ok:=fun k_=>((some k_ ≠ (.slice Ao13 t142.length co13:Value).ownBlock∧k_ ≠ gb140)∧k_ ≠ gb149)) (n:=t145.length) (c:=co14) ?_).2.2;exact (by (with_reducible repeat (first|apply Kd.R_alloc|apply Kd.R_drewN|apply Kd.R_drew));exact (Kd.R_mono (Kd.R_far (p:=⟨gb149,2,none⟩) (Kd.R_far (p:=⟨gb149,1,none⟩) (Kd.R_far (p:=⟨gb149,0,none⟩) (Kd.R_mono HO147.out (fun k_ hk=>(⟨hk,hk.2⟩:_∧k_ ≠ gb149))) (fun _ hk=>hk.2) (.int .i64 t141)) (fun _ hk=>hk.2) (.slice Ao13 t142.length co13)) (fun _ hk=>hk.2) (.slice Ao14 t145.length co14)) (fun _ h_=>h_.1))));(case side4=>exact (Kd.R_reads' HO147.out).2.1);rintro e w15 ⟨rfl,hb⟩;refine ⟨_,rfl,?_⟩;have n0_:=Aside0.mk (Kd.R_below (by (with_reducible repeat (first|apply Kd.R_alloc|apply Kd.R_drewN|apply Kd.R_drew));exact (Kd.R_mono (Kd.R_far (p:=⟨gb149,2,none⟩) (Kd.R_far (p:=⟨gb149,1,none⟩) (Kd.R_far (p:=⟨gb149,0,none⟩) (Kd.R_types HO144.out BK149.out (by decide)) (fun _ hk=>hk.2) (.int .i64 t141)) (fun _ hk=>hk.2) (.slice Ao13 t142.length co13)) (fun _ hk=>hk.2) (.slice Ao14 t145.length co14)) (fun _ h_=>h_.1))) hb);have n1_:=Aside0.mk (Kd.R_below (by (with_reducible repeat (first|apply Kd.R_alloc|apply Kd.R_drewN|apply Kd.R_drew));exact (Kd.R_mono (Kd.R_far (p:=⟨gb149,2,none⟩) (Kd.R_far (p:=⟨gb149,1,none⟩) (Kd.R_far (p:=⟨gb149,0,none⟩) (Kd.R_mono HO147.out (fun k_ hk=>(⟨hk,hk.2⟩:_∧k_ ≠ gb149))) (fun _ hk=>hk.2) (.int .i64 t141)) (fun _ hk=>hk.2) (.slice Ao13 t142.length co13)) (fun _ hk=>hk.2) (.slice Ao14 t145.length co14)) (fun _ h_=>h_.1))) hb);have n2_:=Aside0.mk (IsS71.below (show IsS71 w0 (((w9.setCell ⟨gb149,0,none⟩ (.int .i64 t141)).setCell ⟨gb149,1,none⟩ (.slice Ao13 t142.length co13)).setCell ⟨gb149,2,none⟩ (.slice Ao14 t145.length co14)) g s0_0 t148 from by repeat (first|(with_reducible first|exact HI0.out|apply IsS71.alloc|apply IsS71.drewN|apply IsS71.drew|apply IsS71.set_1|refine IsS71.far ?_ NB0_140.out _|refine IsS71.far ?_ NB0_149.out _)|exact HI0.out)) hb);have n3_:=Aside0.mk (blk_below (g:=gb140) (o:=.cells #[.int .i64 0,.slice none 0 0,.slice none 0 0] 32 (0,0)) (by (with_reducible repeat (first|refine kN ?_ _|refine kD ?_|refine kA ?_ _));refine blk_far ?_ NB140_149.out _;(with_reducible repeat (first|refine kN ?_ _|refine kD ?_|refine kA ?_ _));refine blk_far ?_ NB140_149.out _;(with_reducible repeat (first|refine kN ?_ _|refine kD ?_|refine kA ?_ _));refine blk_far ?_ NB140_149.out _;(with_reducible repeat (first|refine kN ?_ _|refine kD ?_|refine kA ?_ _));exact BK140.out) hb);have n4_:=Aside0.mk (blk_below (g:=gb149) (o:=.cells #[.int .i64 t141,.slice Ao13 t142.length co13,.slice Ao14 t145.length co14] 32 (0,0)) (by (with_reducible repeat (first|refine kN ?_ _|refine kD ?_|refine kA ?_ _));refine blk_put (cs:=#[.int .i64 t141,.slice Ao13 t142.length co13,.slice none 0 0]) ?_ 2 _ rfl;(with_reducible repeat (first|refine kN ?_ _|refine kD ?_|refine kA ?_ _));refine blk_put (cs:=#[.int .i64 t141,.slice none 0 0,.slice none 0 0]) ?_ 1 _ rfl;(with_reducible repeat (first|refine kN ?_ _|refine kD ?_|refine kA ?_ _));refine blk_put (cs:=#[.int .i64 0,.slice none 0 0,.slice none 0 0]) ?_ 0 _ rfl;(with_reducible repeat (first|refine kN ?_ _|refine kD ?_|refine kA ?_ _));exact BK149.out) hb);have n5_:=Aside0.mk (KeepBut.trans (by repeat (first|(with_reducible first|exact HK.out|apply KeepBut.set_|apply keep_drewN|apply keep_drew|apply keep_alloc|refine eF ?_ GW140.out _|refine eF ?_ GW149.out _)|exact HK.out)) (KeepBut.of_below hb g none) (.inl rfl));have n6_:=Aside0.mk (below_step (by repeat (first|(with_reducible first|exact HB.out|apply wA|apply wN|apply wD|refine wS ?_ (IsS71.ge HI0.out)|refine wS ?_ GE140.out|refine wS ?_ GE149.out)|exact HB.out)) hb);clear HO144;clear HO147;clear HI0;clear BK140;clear BK149;clear HK;clear HB;have HO144:=n0_;have HO147:=n1_;have HI0:=n2_;have BK140:=n3_;have BK149:=n4_;have HK:=n5_;have HB:=n6_;clear n0_ n1_ n2_ n3_ n4_ n5_ n6_;(try clear hb);(try clear hb2);(try clear hk);(try clear hi);have hcz16_0:w15.cell? ⟨gb149,0,none⟩=some (.int .i64 t141):=(kC BK149.out 0).trans rfl;have hcz16_1:w15.cell? ⟨gb149,1,none⟩=some (.slice Ao13 t142.length co13):=(kC BK149.out 1).trans rfl;have hcz16_2:w15.cell? ⟨gb149,2,none⟩=some (.slice Ao14 t145.length co14):=(kC BK149.out 2).trans rfl;have hfz16_0:=kF BK149.out 0;have hfz16_1:=kF BK149.out 1;have hfz16_2:=kF BK149.out 2;have hnb17:=NB140_0.out;have hnc17:=NB0_140.out;have hcz18_0:w15.cell? ⟨gb140,0,none⟩=some (.int .i64 0):=(kC BK140.out 0).trans rfl;have hcz18_1:w15.cell? ⟨gb140,1,none⟩=some (.slice none 0 0):=(kC BK140.out 1).trans rfl;have hcz18_2:w15.cell? ⟨gb140,2,none⟩=some (.slice none 0 0):=(kC BK140.out 2).trans rfl;have hfz18_0:=kF BK140.out 0;have hfz18_1:=kF BK140.out 1;have hfz18_2:=kF BK140.out 2))
  refine bodyPost_ret (results_cell_row rfl _ _ gb140 32 #[.int .i64 t141,.slice Ao13 t142.length co13,.slice Ao14 t145.length co14] (0,0) _ rfl (by (with_reducible repeat (first|refine kN ?_ _|refine kD ?_|refine kA ?_ _));refine blk_put (cs:=#[.int .i64 t141,.slice Ao13 t142.length co13,.slice none 0 0]) ?_ 2 _ rfl;(with_reducible repeat (first|refine kN ?_ _|refine kD ?_|refine kA ?_ _));refine blk_put (cs:=#[.int .i64 t141,.slice none 0 0,.slice none 0 0]) ?_ 1 _ rfl;(with_reducible repeat (first|refine kN ?_ _|refine kD ?_|refine kA ?_ _));refine blk_put (cs:=#[.int .i64 0,.slice none 0 0,.slice none 0 0]) ?_ 0 _ rfl;(with_reducible repeat (first|refine kN ?_ _|refine kD ?_|refine kA ?_ _));exact BK140.out) Try.underlying32 rfl (by kernel_rfl)) rfl ?_
  exact ⟨_,_,by first|rfl|(simp [errW_none,errW_some] <;> rfl)|(simp [*,errW_none,errW_some] <;> rfl),by (with_reducible repeat (first|apply Kd.R_alloc|apply Kd.R_drewN|apply Kd.R_drew));exact Kd.R_mono (Kd.R_far (p:=⟨gb140,2,none⟩) (Kd.R_far (p:=⟨gb140,1,none⟩) (Kd.R_far (p:=⟨gb140,0,none⟩) (Kd.R_types HO144.out BK140.out (by decide)) (fun _ hk=>hk.2) (.int .i64 t141)) (fun _ hk=>hk.2) (.slice Ao13 t142.length co13)) (fun _ hk=>hk.2) (.slice Ao14 t145.length co14)) (fun _ hk=>trivial),by (with_reducible repeat (first|apply Kd.R_alloc|apply Kd.R_drewN|apply Kd.R_drew));exact Kd.R_mono (Kd.R_far (p:=⟨gb140,2,none⟩) (Kd.R_far (p:=⟨gb140,1,none⟩) (Kd.R_far (p:=⟨gb140,0,none⟩) (Kd.R_mono HO147.out (fun k_ hk=>(⟨hk,hk.1.2⟩:_∧k_ ≠ gb140))) (fun _ hk=>hk.2) (.int .i64 t141)) (fun _ hk=>hk.2) (.slice Ao13 t142.length co13)) (fun _ hk=>hk.2) (.slice Ao14 t145.length co14)) (fun _ hk=>hk.1.1.1),by repeat (first|(with_reducible first|exact HI0.out|apply IsS71.alloc|apply IsS71.drewN|apply IsS71.drew|apply IsS71.set_1|refine IsS71.far ?_ NB0_140.out _|refine IsS71.far ?_ NB0_149.out _)|exact HI0.out),by repeat (first|(with_reducible first|exact HB.out|apply wA|apply wN|apply wD|refine wS ?_ (IsS71.ge HI0.out)|refine wS ?_ GE140.out|refine wS ?_ GE149.out)|exact HB.out),by repeat (first|(with_reducible first|exact HK.out|apply KeepBut.set_|apply keep_drewN|apply keep_drew|apply keep_alloc|refine eF ?_ GW140.out _|refine eF ?_ GW149.out _)|exact HK.out)⟩
 ·rw [if_neg c6] at H
  have c6b0:(t150 == 0)=false:=beq_eq_false_iff_ne.mpr c6
  have c6b1:(t150 != 0)=true:=bne_iff_ne.mpr c6
  replace H:=Option.bind_eq_some_iff.mp H
  obtain ⟨⟨t151,t152⟩,A190,H⟩:=H
  replace H:(some (1,(([t151]:List Int)),([]:List (S32)),t152))=some (r1,r2,r3,r4):=H
  have A19:=Aside0.mk A190
  clear A190
  obtain ⟨y153,hy153⟩:∃ y_:List Int,y_=(([t151]:List Int)):=⟨_,rfl⟩
  replace H:(some (1,y153,([]:List (S32)),t152))=some (r1,r2,r3,r4):=by first|(rw [hy153];with_reducible exact H)|(have H2_:=(Option.bind_some _ _).symm.trans H;rw [hy153];with_reducible exact H2_)|(have H2_:=(Option.bind_some _ _).symm.trans H;with_reducible exact H2_)|with_reducible exact H|(rw [hy153];exact H)|exact H
  have Ny153:=Aside0.mk hy153
  clear hy153
  simp only [Option.some.injEq,Prod.mk.injEq] at H
  obtain ⟨rfl,rfl,rfl,rfl⟩:=H
  go_enter Try.func45,Try.ntmps45
  go_wp2_with (first|((with_reducible refine gate_dst (N:=6) rfl ?_);refine box_event ?hg (N:=6) ?hd (cs:=#[.int .i64 0,.slice none 0 0,.slice none 0 0]) (t:=32) ?hr ?_;(case hd=>rfl);(case hg=>rfl);(case hr=>first|(go_simp;done)|(go_simp;rfl));intro gb140 hg w20 hbox hb;have n0_:=Aside0.mk (IsS71.below (by repeat (first|(with_reducible first|exact HI0.out|apply IsS71.alloc|apply IsS71.drewN|apply IsS71.drew|apply IsS71.set_1)|exact HI0.out)) hb);have n1_:=Aside0.mk (KeepBut.trans (by repeat (first|(with_reducible first|exact HK.out|apply KeepBut.set_|apply keep_drewN|apply keep_drew|apply keep_alloc)|exact HK.out)) (KeepBut.of_below hb g none) (.inl rfl));have n2_:=Aside0.mk (below_step (by repeat (first|(with_reducible first|exact HB.out|apply wA|apply wN|apply wD|refine wS ?_ (IsS71.ge HI0.out))|exact HB.out)) hb);have n3_:=Aside0.mk (hbox);have n4_:=Aside0.mk ((by rw [hg];exact (keep_size (w:=w) (g:=g) (row:=none) (by repeat (first|(with_reducible first|exact HK.out|apply KeepBut.set_|apply keep_drewN|apply keep_drew|apply keep_alloc)|exact HK.out))):w.heap.size≤gb140));have n5_:=Aside0.mk ((Nat.le_trans HW0.out (by rw [hg];exact (keep_size (w:=w) (g:=g) (row:=none) (by repeat (first|(with_reducible first|exact HK.out|apply KeepBut.set_|apply keep_drewN|apply keep_drew|apply keep_alloc)|exact HK.out))):w.heap.size≤gb140):w0.heap.size≤gb140));have n6_:=Aside0.mk ((by rw [hg];exact Nat.ne_of_lt (IsS71.lt (show IsS71 w0 _ g s0_0 s0_1 from by repeat (first|(with_reducible first|exact HI0.out|apply IsS71.alloc|apply IsS71.drewN|apply IsS71.drew|apply IsS71.set_1)|exact HI0.out))):g ≠ gb140));have n7_:=Aside0.mk ((by rw [hg];exact Nat.ne_of_gt (IsS71.lt (show IsS71 w0 _ g s0_0 s0_1 from by repeat (first|(with_reducible first|exact HI0.out|apply IsS71.alloc|apply IsS71.drewN|apply IsS71.drew|apply IsS71.set_1)|exact HI0.out))):gb140 ≠ g));clear HI0;clear HK;clear HB;have HI0:=n0_;have HK:=n1_;have HB:=n2_;have BK140:=n3_;have GW140:=n4_;have GE140:=n5_;have NB0_140:=n6_;have NB140_0:=n7_;clear n0_ n1_ n2_ n3_ n4_ n5_ n6_ n7_;clear hb hbox hg)|((with_reducible refine gate_callee (f:=79) rfl ?_);refine goesL_ (some 11) rfl rfl Try.func79 (by kernel_rfl) rfl #[.pointer (some ⟨g,0,none⟩),.int .i64 a1,.int .i64 a2] rfl (by (try simp only [List.map_toArray,List.map_cons,List.map_nil]);first|done|rfl|(simp only [List.length_drop,List.length_take];rfl)) ?_;(with_reducible refine (trustquorummake_trust.calls k g s0_0 s0_1 a1 a2 t141 t142 t145 t148 w0 _ ?side1 ?side2 A4.out).mono ?_);(case side1=>repeat (first|(with_reducible first|exact HI0.out|apply IsS71.alloc|apply IsS71.drewN|apply IsS71.drew|apply IsS71.set_1|refine IsS71.far ?_ NB0_140.out _)|exact HI0.out));(case side2=>repeat (first|(with_reducible first|exact HB.out|apply wA|apply wN|apply wD|refine wS ?_ (IsS71.ge HI0.out)|refine wS ?_ GE140.out)|exact HB.out));rintro e w21 ⟨v143,v146,rfl,ho0,ho1,hi,hb,hk⟩;refine ⟨_,rfl,?_⟩;have n0_:=Aside0.mk (KeepBut.blk hk (g':=gb140) (o:=.cells #[.int .i64 0,.slice none 0 0,.slice none 0 0] 32 (0,0)) (by (with_reducible repeat (first|refine kN ?_ _|refine kD ?_|refine kA ?_ _));exact BK140.out) NB140_0.out (by simp));have n1_:=Aside0.mk (Kd.R_lower ho0 (keep_size (w:=w) (g:=g) (row:=none) (by repeat (first|(with_reducible first|exact HK.out|apply KeepBut.set_|apply keep_drewN|apply keep_drew|apply keep_alloc|refine eF ?_ GW140.out _)|exact HK.out))));have n2_:=Aside0.mk (Kd.R_lower (Kd.R_newB ho1 (g:=gb140) (o:=.cells #[.int .i64 0,.slice none 0 0,.slice none 0 0] 32 (0,0)) (by (with_reducible repeat (first|refine kN ?_ _|refine kD ?_|refine kA ?_ _));exact BK140.out)) (keep_size (w:=w) (g:=g) (row:=none) (by repeat (first|(with_reducible first|exact HK.out|apply KeepBut.set_|apply keep_drewN|apply keep_drew|apply keep_alloc|refine eF ?_ GW140.out _)|exact HK.out))));have n3_:=Aside0.mk (KeepBut.trans (by repeat (first|(with_reducible first|exact HK.out|apply KeepBut.set_|apply keep_drewN|apply keep_drew|apply keep_alloc|refine eF ?_ GW140.out _)|exact HK.out)) hk (.inl rfl));have n4_:=Aside0.mk (hb);have n5_:=Aside0.mk (hi);clear BK140;clear HK;clear HB;clear HI0;have BK140:=n0_;have HO144:=n1_;have HO147:=n2_;have HK:=n3_;have HB:=n4_;have HI0:=n5_;clear n0_ n1_ n2_ n3_ n4_ n5_;(try clear hb);(try clear hb2);(try clear hk);(try clear hi);(try clear ho0);(try clear ho1))|((with_reducible refine gate_dst (N:=7) rfl ?_);refine box_event ?hg (N:=7) ?hd (cs:=#[.int .i64 0,.slice none 0 0,.slice none 0 0]) (t:=32) ?hr ?_;(case hd=>rfl);(case hg=>rfl);(case hr=>first|(go_simp;done)|(go_simp;rfl));intro gb149 hg w22 hbox hb;have n0_:=Aside0.mk (Kd.R_below (by (with_reducible repeat (first|apply Kd.R_alloc|apply Kd.R_drewN|apply Kd.R_drew));exact HO144.out) hb);have n1_:=Aside0.mk (Kd.R_below (Kd.R_elderB (by (with_reducible repeat (first|apply Kd.R_alloc|apply Kd.R_drewN|apply Kd.R_drew));exact HO147.out) gb149 (Nat.le_of_eq hg.symm)) hb);have n2_:=Aside0.mk (IsS71.below (by repeat (first|(with_reducible first|exact HI0.out|apply IsS71.alloc|apply IsS71.drewN|apply IsS71.drew|apply IsS71.set_1|refine IsS71.far ?_ NB0_140.out _)|exact HI0.out)) hb);have n3_:=Aside0.mk (blk_below (g:=gb140) (o:=.cells #[.int .i64 0,.slice none 0 0,.slice none 0 0] 32 (0,0)) (by (with_reducible repeat (first|refine kN ?_ _|refine kD ?_|refine kA ?_ _));exact BK140.out) hb);have n4_:=Aside0.mk (KeepBut.trans (by repeat (first|(with_reducible first|exact HK.out|apply KeepBut.set_|apply keep_drewN|apply keep_drew|apply keep_alloc|refine eF ?_ GW140.out _)|exact HK.out)) (KeepBut.of_below hb g none) (.inl rfl));have n5_:=Aside0.mk (below_step (by repeat (first|(with_reducible first|exact HB.out|apply wA|apply wN|apply wD|refine wS ?_ (IsS71.ge HI0.out)|refine wS ?_ GE140.out)|exact HB.out)) hb);have n6_:=Aside0.mk (hbox);have n7_:=Aside0.mk ((by rw [hg];exact (keep_size (w:=w) (g:=g) (row:=none) (by repeat (first|(with_reducible first|exact HK.out|apply KeepBut.set_|apply keep_drewN|apply keep_drew|apply keep_alloc|refine eF ?_ GW140.out _)|exact HK.out))):w.heap.size≤gb149));have n8_:=Aside0.mk ((Nat.le_trans HW0.out (by rw [hg];exact (keep_size (w:=w) (g:=g) (row:=none) (by repeat (first|(with_reducible first|exact HK.out|apply KeepBut.set_|apply keep_drewN|apply keep_drew|apply keep_alloc|refine eF ?_ GW140.out _)|exact HK.out))):w.heap.size≤gb149):w0.heap.size≤gb149));have n9_:=Aside0.mk ((by rw [hg];exact Nat.ne_of_lt (blk_lt (g:=gb140) (o:=.cells #[.int .i64 0,.slice none 0 0,.slice none 0 0] 32 (0,0)) (by (with_reducible repeat (first|refine kN ?_ _|refine kD ?_|refine kA ?_ _));exact BK140.out)):gb140 ≠ gb149));have n10_:=Aside0.mk ((by rw [hg];exact Nat.ne_of_gt (blk_lt (g:=gb140) (o:=.cells #[.int .i64 0,.slice none 0 0,.slice none 0 0] 32 (0,0)) (by (with_reducible repeat (first|refine kN ?_ _|refine kD ?_|refine kA ?_ _));exact BK140.out)):gb149 ≠ gb140));have n11_:=Aside0.mk ((by rw [hg];exact Nat.ne_of_lt (IsS71.lt (show IsS71 w0 _ g s0_0 t148 from by repeat (first|(with_reducible first|exact HI0.out|apply IsS71.alloc|apply IsS71.drewN|apply IsS71.drew|apply IsS71.set_1|refine IsS71.far ?_ NB0_140.out _)|exact HI0.out))):g ≠ gb149));have n12_:=Aside0.mk ((by rw [hg];exact Nat.ne_of_gt (IsS71.lt (show IsS71 w0 _ g s0_0 t148 from by repeat (first|(with_reducible first|exact HI0.out|apply IsS71.alloc|apply IsS71.drewN|apply IsS71.drew|apply IsS71.set_1|refine IsS71.far ?_ NB0_140.out _)|exact HI0.out))):gb149 ≠ g));clear HO144;clear HO147;clear HI0;clear BK140;clear HK;clear HB;have HO144:=n0_;have HO147:=n1_;have HI0:=n2_;have BK140:=n3_;have HK:=n4_;have HB:=n5_;have BK149:=n6_;have GW149:=n7_;have GE149:=n8_;have NB140_149:=n9_;have NB149_140:=n10_;have NB0_149:=n11_;have NB149_0:=n12_;clear n0_ n1_ n2_ n3_ n4_ n5_ n6_ n7_ n8_ n9_ n10_ n11_ n12_;clear hb hbox hg;have hnb23:=NB149_140.out;have hnc23:=NB140_149.out;have hnb24:=NB149_0.out;have hnc24:=NB0_149.out;have hcz25_0:w22.cell? ⟨gb149,0,none⟩=some (.int .i64 0):=(kC BK149.out 0).trans rfl;have hcz25_1:w22.cell? ⟨gb149,1,none⟩=some (.slice none 0 0):=(kC BK149.out 1).trans rfl;have hcz25_2:w22.cell? ⟨gb149,2,none⟩=some (.slice none 0 0):=(kC BK149.out 2).trans rfl;have hfz25_0:=kF BK149.out 0;have hfz25_1:=kF BK149.out 1;have hfz25_2:=kF BK149.out 2;obtain ⟨Ao26,co26,eo26⟩:=Kd.R_slice HO144.out;subst eo26;obtain ⟨Ao27,co27,eo27⟩:=Kd.R_slice HO147.out;subst eo27)|((with_reducible refine gate_callee (f:=56) rfl ?_);refine goesL_ (some 13) rfl rfl Try.func56 (by kernel_rfl) rfl #[.agg #[.int .i64 t141,.slice Ao26 t142.length co26,.slice Ao27 t145.length co27]] rfl (by (try simp only [List.map_toArray,List.map_cons,List.map_nil]);first|done|rfl|(simp only [List.length_drop,List.length_take];rfl)) ?_;(with_reducible refine (trustquorumref02_Valid.calls k t141 _ _ t142 _ _ t145 t150 _ ?side1 ?side2 ?side3 ?side4 A5.out).mono ?_);(case side1=>refine (Kd.R_reads' (e:=3) (base:=w.heap.size) (ok:=fun k_=>True) (n:=t142.length) (c:=co26) ?_).2.2;exact (by (with_reducible repeat (first|apply Kd.R_alloc|apply Kd.R_drewN|apply Kd.R_drew));exact (Kd.R_mono (Kd.R_far (p:=⟨gb149,2,none⟩) (Kd.R_far (p:=⟨gb149,1,none⟩) (Kd.R_far (p:=⟨gb149,0,none⟩) (Kd.R_types HO144.out BK149.out (by decide)) (fun _ hk=>hk.2) (.int .i64 t141)) (fun _ hk=>hk.2) (.slice Ao26 t142.length co26)) (fun _ hk=>hk.2) (.slice Ao27 t145.length co27)) (fun _ h_=>h_.1))));(case side2=>exact (Kd.R_reads' HO144.out).2.1);(case side3=>refine (Kd.R_reads' (e:=32) (base:=w.heap.size) (ok:=fun k_=>((some k_ ≠ (.slice Ao26 t142.length co26:Value).ownBlock∧k_ ≠ gb140)∧k_ ≠ gb149)) (n:=t145.length) (c:=co27) ?_).2.2;exact (by (with_reducible repeat (first|apply Kd.R_alloc|apply Kd.R_drewN|apply Kd.R_drew));exact (Kd.R_mono (Kd.R_far (p:=⟨gb149,2,none⟩) (Kd.R_far (p:=⟨gb149,1,none⟩) (Kd.R_far (p:=⟨gb149,0,none⟩) (Kd.R_mono HO147.out (fun k_ hk=>(⟨hk,hk.2⟩:_∧k_ ≠ gb149))) (fun _ hk=>hk.2) (.int .i64 t141)) (fun _ hk=>hk.2) (.slice Ao26 t142.length co26)) (fun _ hk=>hk.2) (.slice Ao27 t145.length co27)) (fun _ h_=>h_.1))));(case side4=>exact (Kd.R_reads' HO147.out).2.1);rintro e w28 ⟨rfl,hb⟩;refine ⟨_,rfl,?_⟩;have n0_:=Aside0.mk (Kd.R_below (by (with_reducible repeat (first|apply Kd.R_alloc|apply Kd.R_drewN|apply Kd.R_drew));exact (Kd.R_mono (Kd.R_far (p:=⟨gb149,2,none⟩) (Kd.R_far (p:=⟨gb149,1,none⟩) (Kd.R_far (p:=⟨gb149,0,none⟩) (Kd.R_types HO144.out BK149.out (by decide)) (fun _ hk=>hk.2) (.int .i64 t141)) (fun _ hk=>hk.2) (.slice Ao26 t142.length co26)) (fun _ hk=>hk.2) (.slice Ao27 t145.length co27)) (fun _ h_=>h_.1))) hb);have n1_:=Aside0.mk (Kd.R_below (by (with_reducible repeat (first|apply Kd.R_alloc|apply Kd.R_drewN|apply Kd.R_drew));exact (Kd.R_mono (Kd.R_far (p:=⟨gb149,2,none⟩) (Kd.R_far (p:=⟨gb149,1,none⟩) (Kd.R_far (p:=⟨gb149,0,none⟩) (Kd.R_mono HO147.out (fun k_ hk=>(⟨hk,hk.2⟩:_∧k_ ≠ gb149))) (fun _ hk=>hk.2) (.int .i64 t141)) (fun _ hk=>hk.2) (.slice Ao26 t142.length co26)) (fun _ hk=>hk.2) (.slice Ao27 t145.length co27)) (fun _ h_=>h_.1))) hb);have n2_:=Aside0.mk (IsS71.below (show IsS71 w0 (((w22.setCell ⟨gb149,0,none⟩ (.int .i64 t141)).setCell ⟨gb149,1,none⟩ (.slice Ao26 t142.length co26)).setCell ⟨gb149,2,none⟩ (.slice Ao27 t145.length co27)) g s0_0 t148 from by repeat (first|(with_reducible first|exact HI0.out|apply IsS71.alloc|apply IsS71.drewN|apply IsS71.drew|apply IsS71.set_1|refine IsS71.far ?_ NB0_140.out _|refine IsS71.far ?_ NB0_149.out _)|exact HI0.out)) hb);have n3_:=Aside0.mk (blk_below (g:=gb140) (o:=.cells #[.int .i64 0,.slice none 0 0,.slice none 0 0] 32 (0,0)) (by (with_reducible repeat (first|refine kN ?_ _|refine kD ?_|refine kA ?_ _));refine blk_far ?_ NB140_149.out _;(with_reducible repeat (first|refine kN ?_ _|refine kD ?_|refine kA ?_ _));refine blk_far ?_ NB140_149.out _;(with_reducible repeat (first|refine kN ?_ _|refine kD ?_|refine kA ?_ _));refine blk_far ?_ NB140_149.out _;(with_reducible repeat (first|refine kN ?_ _|refine kD ?_|refine kA ?_ _));exact BK140.out) hb);have n4_:=Aside0.mk (blk_below (g:=gb149) (o:=.cells #[.int .i64 t141,.slice Ao26 t142.length co26,.slice Ao27 t145.length co27] 32 (0,0)) (by (with_reducible repeat (first|refine kN ?_ _|refine kD ?_|refine kA ?_ _));refine blk_put (cs:=#[.int .i64 t141,.slice Ao26 t142.length co26,.slice none 0 0]) ?_ 2 _ rfl;(with_reducible repeat (first|refine kN ?_ _|refine kD ?_|refine kA ?_ _));refine blk_put (cs:=#[.int .i64 t141,.slice none 0 0,.slice none 0 0]) ?_ 1 _ rfl;(with_reducible repeat (first|refine kN ?_ _|refine kD ?_|refine kA ?_ _));refine blk_put (cs:=#[.int .i64 0,.slice none 0 0,.slice none 0 0]) ?_ 0 _ rfl;(with_reducible repeat (first|refine kN ?_ _|refine kD ?_|refine kA ?_ _));exact BK149.out) hb);have n5_:=Aside0.mk (KeepBut.trans (by repeat (first|(with_reducible first|exact HK.out|apply KeepBut.set_|apply keep_drewN|apply keep_drew|apply keep_alloc|refine eF ?_ GW140.out _|refine eF ?_ GW149.out _)|exact HK.out)) (KeepBut.of_below hb g none) (.inl rfl));have n6_:=Aside0.mk (below_step (by repeat (first|(with_reducible first|exact HB.out|apply wA|apply wN|apply wD|refine wS ?_ (IsS71.ge HI0.out)|refine wS ?_ GE140.out|refine wS ?_ GE149.out)|exact HB.out)) hb);clear HO144;clear HO147;clear HI0;clear BK140;clear BK149;clear HK;clear HB;have HO144:=n0_;have HO147:=n1_;have HI0:=n2_;have BK140:=n3_;have BK149:=n4_;have HK:=n5_;have HB:=n6_;clear n0_ n1_ n2_ n3_ n4_ n5_ n6_;(try clear hb);(try clear hb2);(try clear hk);(try clear hi))|((with_reducible refine gate_callee (f:=16) rfl ?_);refine goesL_ (some 17) rfl rfl Try.func16 (by kernel_rfl) rfl #[.pointer (some ⟨g,0,none⟩),.int .i64 a1] rfl (by (try simp only [List.map_toArray,List.map_cons,List.map_nil]);first|done|rfl|(simp only [List.length_drop,List.length_take];rfl)) ?_;(with_reducible refine (trustquorummake_Tape_N.calls g s0_0 t148 a1 t151 t152 w0 _ ?side1 ?side2 A19.out).mono ?_);(case side1=>repeat (first|(with_reducible first|exact HI0.out|apply IsS71.alloc|apply IsS71.drewN|apply IsS71.drew|apply IsS71.set_1|refine IsS71.far ?_ NB0_140.out _|refine IsS71.far ?_ NB0_149.out _)|exact HI0.out));(case side2=>repeat (first|(with_reducible first|exact HB.out|apply wA|apply wN|apply wD|refine wS ?_ (IsS71.ge HI0.out)|refine wS ?_ GE140.out|refine wS ?_ GE149.out)|exact HB.out));rintro e w29 ⟨rfl,hi,hb,hk⟩;refine ⟨_,rfl,?_⟩;have n0_:=Aside0.mk (KeepBut.blk hk (g':=gb140) (o:=.cells #[.int .i64 0,.slice none 0 0,.slice none 0 0] 32 (0,0)) (by (with_reducible repeat (first|refine kN ?_ _|refine kD ?_|refine kA ?_ _));exact BK140.out) NB140_0.out (by simp));have n1_:=Aside0.mk (Kd.R_mono (Kd.R_keep (IsS71.apart (show IsS71 w0 _ g s0_0 t148 from by repeat (first|(with_reducible first|exact HI0.out|apply IsS71.alloc|apply IsS71.drewN|apply IsS71.drew|apply IsS71.set_1|refine IsS71.far ?_ NB0_140.out _|refine IsS71.far ?_ NB0_149.out _)|exact HI0.out)) (by (with_reducible repeat (first|apply Kd.R_alloc|apply Kd.R_drewN|apply Kd.R_drew));exact HO144.out) (by decide)) hk (fun _ h=>h.2)) (fun _ h=>h.1));have n2_:=Aside0.mk (Kd.R_mono (Kd.R_keep (IsS71.apart (show IsS71 w0 _ g s0_0 t148 from by repeat (first|(with_reducible first|exact HI0.out|apply IsS71.alloc|apply IsS71.drewN|apply IsS71.drew|apply IsS71.set_1|refine IsS71.far ?_ NB0_140.out _|refine IsS71.far ?_ NB0_149.out _)|exact HI0.out)) (by (with_reducible repeat (first|apply Kd.R_alloc|apply Kd.R_drewN|apply Kd.R_drew));exact HO147.out) (by decide)) hk (fun _ h=>h.2)) (fun _ h=>h.1));have n3_:=Aside0.mk (KeepBut.blk hk (g':=gb149) (o:=.cells #[.int .i64 t141,.slice Ao26 t142.length co26,.slice Ao27 t145.length co27] 32 (0,0)) (by (with_reducible repeat (first|refine kN ?_ _|refine kD ?_|refine kA ?_ _));exact BK149.out) NB149_0.out (by simp));have n4_:=Aside0.mk (KeepBut.trans (by repeat (first|(with_reducible first|exact HK.out|apply KeepBut.set_|apply keep_drewN|apply keep_drew|apply keep_alloc|refine eF ?_ GW140.out _|refine eF ?_ GW149.out _)|exact HK.out)) hk (.inl rfl));have n5_:=Aside0.mk (hb);have n6_:=Aside0.mk (hi);clear BK140;clear HO144;clear HO147;clear BK149;clear HK;clear HB;clear HI0;have BK140:=n0_;have HO144:=n1_;have HO147:=n2_;have BK149:=n3_;have HK:=n4_;have HB:=n5_;have HI0:=n6_;clear n0_ n1_ n2_ n3_ n4_ n5_ n6_;(try clear hb);(try clear hb2);(try clear hk);(try clear hi))|((with_reducible refine gate_dst (N:=18) rfl ?_);refine Kd.R_lit (Kd.int .i64) _ 3 ?hg (N:=18) ?hd (xs:=([t151]:List Int)) (inner:=[.int .i64 t151]) (ok:=fun _=>True) (okp:=fun _=>True) ?hr ?hp (fun _ hk=>hk) trivial (Below.refl _ _) (Nat.le_refl _) (by simp) ?_;(case hd=>rfl);(case hg=>rfl);(case hr=>first|(go_simp;done)|(go_simp;rfl));(case hp=>exact (Reps.one (show Kd.M (Kd.int .i64) _ _ _ t151 [.int .i64 t151] from rfl) (Reps.none _ _)));intro v154 w30 ho31 hb hg_ hnew_;clear hg_ hnew_;(first|rw [← Ny153.out] at ho31|(simp only [Int.reduceToNat] at ho31;rw [← Ny153.out] at ho31));have n0_:=Aside0.mk (Kd.R_elder' (by (with_reducible repeat (first|apply Kd.R_alloc|apply Kd.R_drewN|apply Kd.R_drew));exact HO144.out) (Kd.R_base ho31) hb);have n1_:=Aside0.mk (Kd.R_elder' (by (with_reducible repeat (first|apply Kd.R_alloc|apply Kd.R_drewN|apply Kd.R_drew));exact HO147.out) (Kd.R_base ho31) hb);have n2_:=Aside0.mk (Kd.R_lower (Kd.R_new' ho31 (Kd.R_lt (by (with_reducible repeat (first|apply Kd.R_alloc|apply Kd.R_drewN|apply Kd.R_drew));exact HO144.out))) (keep_size (w:=w) (g:=g) (row:=none) (by repeat (first|(with_reducible first|exact HK.out|apply KeepBut.set_|apply keep_drewN|apply keep_drew|apply keep_alloc|refine eF ?_ GW140.out _|refine eF ?_ GW149.out _)|exact HK.out))));have n3_:=Aside0.mk (IsS71.below (by repeat (first|(with_reducible first|exact HI0.out|apply IsS71.alloc|apply IsS71.drewN|apply IsS71.drew|apply IsS71.set_1|refine IsS71.far ?_ NB0_140.out _|refine IsS71.far ?_ NB0_149.out _)|exact HI0.out)) hb);have n4_:=Aside0.mk (blk_below (g:=gb140) (o:=.cells #[.int .i64 0,.slice none 0 0,.slice none 0 0] 32 (0,0)) (by (with_reducible repeat (first|refine kN ?_ _|refine kD ?_|refine kA ?_ _));exact BK140.out) hb);have n5_:=Aside0.mk (blk_below (g:=gb149) (o:=.cells #[.int .i64 t141,.slice Ao26 t142.length co26,.slice Ao27 t145.length co27] 32 (0,0)) (by (with_reducible repeat (first|refine kN ?_ _|refine kD ?_|refine kA ?_ _));exact BK149.out) hb);have n6_:=Aside0.mk (KeepBut.trans (by repeat (first|(with_reducible first|exact HK.out|apply KeepBut.set_|apply keep_drewN|apply keep_drew|apply keep_alloc|refine eF ?_ GW140.out _|refine eF ?_ GW149.out _)|exact HK.out)) (KeepBut.of_below hb g none) (.inl rfl));have n7_:=Aside0.mk (below_step (by repeat (first|(with_reducible first|exact HB.out|apply wA|apply wN|apply wD|refine wS ?_ (IsS71.ge HI0.out)|refine wS ?_ GE140.out|refine wS ?_ GE149.out)|exact HB.out)) hb);clear HO144;clear HO147;clear HI0;clear BK140;clear BK149;clear HK;clear HB;have HO144:=n0_;have HO147:=n1_;have HO155:=n2_;have HI0:=n3_;have BK140:=n4_;have BK149:=n5_;have HK:=n6_;have HB:=n7_;clear n0_ n1_ n2_ n3_ n4_ n5_ n6_ n7_;clear hb ho31;obtain ⟨Ao32,co32,eo32⟩:=Kd.R_slice HO155.out;subst eo32;have hnb33:=NB140_0.out;have hnc33:=NB0_140.out;have hcz34_0:w30.cell? ⟨gb140,0,none⟩=some (.int .i64 0):=(kC BK140.out 0).trans rfl;have hcz34_1:w30.cell? ⟨gb140,1,none⟩=some (.slice none 0 0):=(kC BK140.out 1).trans rfl;have hcz34_2:w30.cell? ⟨gb140,2,none⟩=some (.slice none 0 0):=(kC BK140.out 2).trans rfl;have hfz34_0:=kF BK140.out 0;have hfz34_1:=kF BK140.out 1;have hfz34_2:=kF BK140.out 2))
  refine bodyPost_ret (results_cell_row rfl _ _ gb140 32 #[.int .i64 1,.slice Ao32 y153.length co32,.slice none 0 0] (0,0) _ rfl (by (with_reducible repeat (first|refine kN ?_ _|refine kD ?_|refine kA ?_ _));refine blk_put (cs:=#[.int .i64 1,.slice Ao32 y153.length co32,.slice none 0 0]) ?_ 2 _ rfl;(with_reducible repeat (first|refine kN ?_ _|refine kD ?_|refine kA ?_ _));refine blk_put (cs:=#[.int .i64 1,.slice none 0 0,.slice none 0 0]) ?_ 1 _ rfl;(with_reducible repeat (first|refine kN ?_ _|refine kD ?_|refine kA ?_ _));refine blk_put (cs:=#[.int .i64 0,.slice none 0 0,.slice none 0 0]) ?_ 0 _ rfl;(with_reducible repeat (first|refine kN ?_ _|refine kD ?_|refine kA ?_ _));exact BK140.out) Try.underlying32 rfl (by kernel_rfl)) rfl ?_
  exact ⟨_,_,by first|rfl|(simp [errW_none,errW_some] <;> rfl)|(simp [*,errW_none,errW_some] <;> rfl),by (with_reducible repeat (first|apply Kd.R_alloc|apply Kd.R_drewN|apply Kd.R_drew));exact Kd.R_mono (Kd.R_far (p:=⟨gb140,2,none⟩) (Kd.R_far (p:=⟨gb140,1,none⟩) (Kd.R_far (p:=⟨gb140,0,none⟩) (Kd.R_types HO155.out BK140.out (by decide)) (fun _ hk=>hk.2) (.int .i64 1)) (fun _ hk=>hk.2) (.slice Ao32 y153.length co32)) (fun _ hk=>hk.2) (.slice none 0 0)) (fun _ hk=>trivial),by first|exact Kd.R_nil _ _ _ _ _|exact Kd.N_nil _ _ _ _ _|exact Kd.V_nil _ _ _ _ _|exact Kd.Q_nil _ _ _ _ _|exact Kd.S_nil _ _ _ _ _,by repeat (first|(with_reducible first|exact HI0.out|apply IsS71.alloc|apply IsS71.drewN|apply IsS71.drew|apply IsS71.set_1|refine IsS71.far ?_ NB0_140.out _|refine IsS71.far ?_ NB0_149.out _)|exact HI0.out),by repeat (first|(with_reducible first|exact HB.out|apply wA|apply wN|apply wD|refine wS ?_ (IsS71.ge HI0.out)|refine wS ?_ GE140.out|refine wS ?_ GE149.out)|exact HB.out),by repeat (first|(with_reducible first|exact HK.out|apply KeepBut.set_|apply keep_drewN|apply keep_drew|apply keep_alloc|refine eF ?_ GW140.out _|refine eF ?_ GW149.out _)|exact HK.out)⟩
theorem R_emptyOf {α:Type} {d:Kd α} {e:Nat} {w:World} {base:Nat} {ok ok':Nat→Prop} {v:Value} {xs:List α} (hx:xs=[]) (h:d.R e w base ok v xs) (hok:∀ k,v.ownBlock=some k→ok' k):d.R e w base ok' v xs:=by
 subst hx
 obtain ⟨_,inner,ho,hr⟩:=h
 exact ⟨hok,inner,ho,⟨hr.1,fun j p hj=>by simp at hj⟩⟩
theorem R_other {W:World} {base:Nat} {ok ok':Nat→Prop} {v u:Value} {xs:List S32} {ys:List Int} (h:k32.R 32 W base ok v xs) (hu:(Kd.int .i64).R 3 W base ok' u ys):∀ k,v.ownBlock=some k→some k ≠ u.ownBlock:=by
 intro k hk he
 obtain ⟨c1,h1⟩:=Kd.R_typed h k hk
 obtain ⟨c2,h2⟩:=Kd.R_typed hu k he.symm
 rw [h1] at h2
 injection h2 with h2
 injection h2 with _ h2
 exact absurd h2 (by decide)
theorem rd_T32_mem {xs:List S32} {i:Int} (h0:0≤i) (h1:i < (xs.length:Int)):rd_T32 xs i∈xs:=by
 unfold rd_T32
 have h2:i.toNat < xs.length:=by omega
 rw [List.getD_eq_getElem?_getD,List.getElem?_eq_getElem h2]
 exact List.getElem_mem h2
mutual
def trustquorummake_group.l0:Nat→Int→Int→List (S32)→Int→List Int→Int→Option (Int × List Int × (List (S32)) × Int)
 | 0,_,_,_,_,_,_=>none
 | k+1,x1,x2,x7,x8,x1000,x1001=>if x8 < 3 then (trustquorummake_group.l1 k x1 x2 x7 x8 x8 x1000 x1001 1 ([]:List Int)) else ((trustquorummake_Tape_N.f x1000 x1001 4).bind fun bt186=>(if bt186.1=0 then (if (x7.length:Int)=0 then (none) else (if 0≤(Int.tmod x2 (x7.length:Int)) then (if (Int.tmod x2 (x7.length:Int)) < (x7.length:Int) then (some ((rd_T32 x7 (Int.tmod x2 (x7.length:Int))).f0,(rd_T32 x7 (Int.tmod x2 (x7.length:Int))).f1,(rd_T32 x7 (Int.tmod x2 (x7.length:Int))).f2,bt186.2)) else (none)) else (none))) else ((trustquorummake_Tape_Range.f x1000 bt186.2 (mx 1 (wrap64 ((x7.length:Int) - 1))) (x7.length:Int)).bind fun bt189=>(some (bt189.1,([]:List Int),x7,bt189.2)))))
def trustquorummake_group.l1:Nat→Int→Int→List (S32)→Int→Int→List Int→Int→Int→List Int→Option (Int × List Int × (List (S32)) × Int)
 | 0,_,_,_,_,_,_,_,_,_=>none
 | k+1,x1,x2,x7,x8,x10,x1000,x1001,x178000,x178001=>if x10 < x1 then (if x178001.length < 17592186044416 then (trustquorummake_group.l1 k x1 x2 x7 x8 (wrap64 (x10+3)) x1000 x1001 x178000 (x178001++[x10])) else (none)) else (if (x178001.length:Int) > 0 then ((trustquorummake_Tape_Range.f x1000 x1001 1 (x178001.length:Int)).bind fun bt181=>(if x7.length < 2513169434916 then (trustquorummake_group.l0 k x1 x2 (x7++[(⟨bt181.1,x178001,([]:List (S32))⟩:S32)]) (wrap64 (x8+1)) x1000 bt181.2) else (none))) else (trustquorummake_group.l0 k x1 x2 x7 (wrap64 (x8+1)) x1000 x1001))
end
def trustquorummake_group.f (k:Nat) (s0_0:List Int) (s0_1:Int) (a1:Int) (a2:Int):Option (Int × List Int × (List (S32)) × Int):=trustquorummake_group.l0 k a1 a2 ([]:List (S32)) 0 s0_0 s0_1
set_option maxHeartbeats 8000000 in
set_option maxRecDepth 100000 in
theorem trustquorummake_group.calls (k:Nat) (g:Nat) (s0_0:List Int) (s0_1:Int) (a1:Int) (a2:Int) (r1:Int) (r2:List Int) (r3:List (S32)) (r4:Int) (w0 w:World) (hI:IsS71 w0 w g s0_0 s0_1) (hB:Below w0.heap.size w0 w) (h:trustquorummake_group.f k s0_0 s0_1 a1 a2=some (r1,r2,r3,r4)) :
  Calls Try.prog 54 #[.pointer (some ⟨g,0,none⟩),.int .i64 a1,.int .i64 a2] w fun e w'=>∃ v1_ v2_:Value,e=.returned (.agg #[.int .i64 r1,v1_,v2_])∧Kd.R (Kd.int .i64) 3 w' w.heap.size (fun _=>True) v1_ r2∧Kd.R k32 32 w' w.heap.size (fun k_=>some k_ ≠ (v1_:Value).ownBlock) v2_ r3∧IsS71 w0 w' g s0_0 r4∧Below w0.heap.size w0 w'∧KeepBut w w' g none:=by
 have hu32:=Try.underlying32
 have HI0:=Aside0.mk hI
 have HK:=Aside0.mk (KeepBut.refl w g none)
 have HL:=Aside0.mk hB.size
 clear hI
 have HW0:=Aside0.mk hB.size
 have HB:=Aside0.mk hB
 clear hB
 have H:(trustquorummake_group.l0 k a1 a2 ([]:List (S32)) 0 s0_0 s0_1)=some (r1,r2,r3,r4):=h
 clear h
 have H':=Aside0.mk H
 clear H
 go_enter Try.func54,Try.ntmps54
 go_wp2_with (first|((with_reducible refine gate_dst (N:=6) rfl ?_);refine box_event ?hg (N:=6) ?hd (cs:=#[.int .i64 0,.slice none 0 0,.slice none 0 0]) (t:=32) ?hr ?_;(case hd=>rfl);(case hg=>rfl);(case hr=>first|(go_simp;done)|(go_simp;rfl));intro gb176 hg w4 hbox hb;have n0_:=Aside0.mk (IsS71.below (by repeat (first|(with_reducible first|exact HI0.out|apply IsS71.alloc|apply IsS71.drewN|apply IsS71.drew|apply IsS71.set_1)|exact HI0.out)) hb);have n1_:=Aside0.mk (KeepBut.trans (by repeat (first|(with_reducible first|exact HK.out|apply KeepBut.set_|apply keep_drewN|apply keep_drew|apply keep_alloc)|exact HK.out)) (KeepBut.of_below hb g none) (.inl rfl));have n2_:=Aside0.mk (below_step (by repeat (first|(with_reducible first|exact HB.out|apply wA|apply wN|apply wD|refine wS ?_ (IsS71.ge HI0.out))|exact HB.out)) hb);have n3_:=Aside0.mk (hbox);have n4_:=Aside0.mk ((by rw [hg];exact (keep_size (w:=w) (g:=g) (row:=none) (by repeat (first|(with_reducible first|exact HK.out|apply KeepBut.set_|apply keep_drewN|apply keep_drew|apply keep_alloc)|exact HK.out))):w.heap.size≤gb176));have n5_:=Aside0.mk ((Nat.le_trans HW0.out (by rw [hg];exact (keep_size (w:=w) (g:=g) (row:=none) (by repeat (first|(with_reducible first|exact HK.out|apply KeepBut.set_|apply keep_drewN|apply keep_drew|apply keep_alloc)|exact HK.out))):w.heap.size≤gb176):w0.heap.size≤gb176));have n6_:=Aside0.mk ((by rw [hg];exact Nat.ne_of_lt (IsS71.lt (show IsS71 w0 _ g s0_0 s0_1 from by repeat (first|(with_reducible first|exact HI0.out|apply IsS71.alloc|apply IsS71.drewN|apply IsS71.drew|apply IsS71.set_1)|exact HI0.out))):g ≠ gb176));have n7_:=Aside0.mk ((by rw [hg];exact Nat.ne_of_gt (IsS71.lt (show IsS71 w0 _ g s0_0 s0_1 from by repeat (first|(with_reducible first|exact HI0.out|apply IsS71.alloc|apply IsS71.drewN|apply IsS71.drew|apply IsS71.set_1)|exact HI0.out))):gb176 ≠ g));clear HI0;clear HK;clear HB;have HI0:=n0_;have HK:=n1_;have HB:=n2_;have BK176:=n3_;have GW176:=n4_;have GE176:=n5_;have NB0_176:=n6_;have NB176_0:=n7_;clear n0_ n1_ n2_ n3_ n4_ n5_ n6_ n7_;clear hb hbox hg))
 go_loopg [7,8] k (fun kq v7 v8 w'=>∃ (x7_1:List (S32)) (x8_1:Int) (x1001_1:Int),v8=.int .i64 x8_1∧Aside0 (trustquorummake_group.l0 kq a1 a2 x7_1 x8_1 s0_0 x1001_1=some (r1,r2,r3,r4))∧Aside0 (kq≤k)∧Aside0 (Kd.R k32 32 w' w.heap.size (fun k_=>k_ ≠ gb176) v7 x7_1)∧Aside0 (w'.heap[gb176]?=some (.cells #[.int .i64 0,(.slice none 0 0),(.slice none 0 0)] 32 (0,0)))∧Aside0 (IsS71 w0 w' g s0_0 x1001_1)∧Aside0 (KeepBut w w' g none)∧Aside0 (Below w0.heap.size w0 w')∧Aside0 (∀ y_∈x7_1,y_.f2=([]:List S32)))
 case atStart=>exact ⟨(([]:List (S32))),(0),(s0_1),(by first|rfl|(simp;done)|(simp [*];done)),H',⟨Nat.le_refl _⟩,⟨by first|exact Kd.R_nil _ _ _ _ _|exact Kd.N_nil _ _ _ _ _|exact Kd.V_nil _ _ _ _ _|exact Kd.Q_nil _ _ _ _ _|exact Kd.S_nil _ _ _ _ _⟩,⟨by (with_reducible repeat (first|refine kN ?_ _|refine kD ?_|refine kA ?_ _));exact BK176.out⟩,⟨by repeat (first|(with_reducible first|exact HI0.out|apply IsS71.alloc|apply IsS71.drewN|apply IsS71.drew|apply IsS71.set_1|refine IsS71.far ?_ NB0_176.out _)|exact HI0.out)⟩,⟨by repeat (first|(with_reducible first|exact HK.out|apply KeepBut.set_|apply keep_drewN|apply keep_drew|apply keep_alloc|refine eF ?_ GW176.out _)|exact HK.out)⟩,⟨by repeat (first|(with_reducible first|exact HB.out|apply wA|apply wN|apply wD|refine wS ?_ (IsS71.ge HI0.out)|refine wS ?_ GE176.out)|exact HB.out)⟩,⟨by simp⟩⟩
 case round =>
  clear H'
  try clear p2
  obtain ⟨x7_1,x8_1,x1001_1,rfl,HA,HK1,HO_7,BK176,HI0,HK,HB,HEX⟩:=hrel
  cases gk with
  | zero=>exact absurd HA.out (by simp [trustquorummake_group.l0])
  | succ k1 =>
   have H:=HA.out
   clear HA
   simp only [trustquorummake_group.l0] at H
   by_cases c5:x8_1 < 3
   ·rw [if_pos c5] at H
    have c5b0:decide (x8_1 < 3)=true:=decide_eq_true c5
    clear c5
    have H':=Aside0.mk H
    clear H
    go_wp2_with (first|((with_reducible refine gate_dst (N:=9) rfl ?_);refine box_event ?hg (N:=9) ?hd (cs:=#[.int .i64 0,.slice none 0 0,.slice none 0 0]) (t:=32) ?hr ?_;(case hd=>rfl);(case hg=>rfl);(case hr=>first|(go_simp;done)|(go_simp;rfl));intro gb177 hg w6 hbox hb;have n0_:=Aside0.mk (Kd.R_below (Kd.R_elderB (by (with_reducible repeat (first|apply Kd.R_alloc|apply Kd.R_drewN|apply Kd.R_drew));exact HO_7.out) gb177 (Nat.le_of_eq hg.symm)) hb);have n1_:=Aside0.mk (blk_below (g:=gb176) (o:=.cells #[.int .i64 0,.slice none 0 0,.slice none 0 0] 32 (0,0)) (by (with_reducible repeat (first|refine kN ?_ _|refine kD ?_|refine kA ?_ _));exact BK176.out) hb);have n2_:=Aside0.mk (IsS71.below (by repeat (first|(with_reducible first|exact HI0.out|apply IsS71.alloc|apply IsS71.drewN|apply IsS71.drew|apply IsS71.set_1|refine IsS71.far ?_ NB0_176.out _)|exact HI0.out)) hb);have n3_:=Aside0.mk (KeepBut.trans (by repeat (first|(with_reducible first|exact HK.out|apply KeepBut.set_|apply keep_drewN|apply keep_drew|apply keep_alloc|refine eF ?_ GW176.out _)|exact HK.out)) (KeepBut.of_below hb g none) (.inl rfl));have n4_:=Aside0.mk (below_step (by repeat (first|(with_reducible first|exact HB.out|apply wA|apply wN|apply wD|refine wS ?_ (IsS71.ge HI0.out)|refine wS ?_ GE176.out)|exact HB.out)) hb);have n5_:=Aside0.mk (hbox);have n6_:=Aside0.mk ((by rw [hg];exact (keep_size (w:=w) (g:=g) (row:=none) (by repeat (first|(with_reducible first|exact HK.out|apply KeepBut.set_|apply keep_drewN|apply keep_drew|apply keep_alloc|refine eF ?_ GW176.out _)|exact HK.out))):w.heap.size≤gb177));have n7_:=Aside0.mk ((Nat.le_trans HW0.out (by rw [hg];exact (keep_size (w:=w) (g:=g) (row:=none) (by repeat (first|(with_reducible first|exact HK.out|apply KeepBut.set_|apply keep_drewN|apply keep_drew|apply keep_alloc|refine eF ?_ GW176.out _)|exact HK.out))):w.heap.size≤gb177):w0.heap.size≤gb177));have n8_:=Aside0.mk ((by rw [hg];exact Nat.ne_of_lt (blk_lt (g:=gb176) (o:=.cells #[.int .i64 0,.slice none 0 0,.slice none 0 0] 32 (0,0)) (by (with_reducible repeat (first|refine kN ?_ _|refine kD ?_|refine kA ?_ _));exact BK176.out)):gb176 ≠ gb177));have n9_:=Aside0.mk ((by rw [hg];exact Nat.ne_of_gt (blk_lt (g:=gb176) (o:=.cells #[.int .i64 0,.slice none 0 0,.slice none 0 0] 32 (0,0)) (by (with_reducible repeat (first|refine kN ?_ _|refine kD ?_|refine kA ?_ _));exact BK176.out)):gb177 ≠ gb176));have n10_:=Aside0.mk ((by rw [hg];exact Nat.ne_of_lt (IsS71.lt (show IsS71 w0 _ g s0_0 x1001_1 from by repeat (first|(with_reducible first|exact HI0.out|apply IsS71.alloc|apply IsS71.drewN|apply IsS71.drew|apply IsS71.set_1|refine IsS71.far ?_ NB0_176.out _)|exact HI0.out))):g ≠ gb177));have n11_:=Aside0.mk ((by rw [hg];exact Nat.ne_of_gt (IsS71.lt (show IsS71 w0 _ g s0_0 x1001_1 from by repeat (first|(with_reducible first|exact HI0.out|apply IsS71.alloc|apply IsS71.drewN|apply IsS71.drew|apply IsS71.set_1|refine IsS71.far ?_ NB0_176.out _)|exact HI0.out))):gb177 ≠ g));clear HO_7;clear BK176;clear HI0;clear HK;clear HB;have HO_7:=n0_;have BK176:=n1_;have HI0:=n2_;have HK:=n3_;have HB:=n4_;have BK177:=n5_;have GW177:=n6_;have GE177:=n7_;have NB176_177:=n8_;have NB177_176:=n9_;have NB0_177:=n10_;have NB177_0:=n11_;clear n0_ n1_ n2_ n3_ n4_ n5_ n6_ n7_ n8_ n9_ n10_ n11_;clear hb hbox hg;have hnb7:=NB177_176.out;have hnc7:=NB176_177.out;have hnb8:=NB177_0.out;have hnc8:=NB0_177.out;have hcz9_0:w6.cell? ⟨gb177,0,none⟩=some (.int .i64 0):=(kC BK177.out 0).trans rfl;have hcz9_1:w6.cell? ⟨gb177,1,none⟩=some (.slice none 0 0):=(kC BK177.out 1).trans rfl;have hcz9_2:w6.cell? ⟨gb177,2,none⟩=some (.slice none 0 0):=(kC BK177.out 2).trans rfl;have hfz9_0:=kF BK177.out 0;have hfz9_1:=kF BK177.out 1;have hfz9_2:=kF BK177.out 2))
    go_loopg [10] k1 (fun kq v10 w'=>∃ (x10_2:Int) (x178001_2:List Int) (u178001:Value),v10=.int .i64 x10_2∧Aside0 (trustquorummake_group.l1 kq a1 a2 x7_1 x8_1 x10_2 s0_0 x1001_1 1 x178001_2=some (r1,r2,r3,r4))∧Aside0 (kq≤k1)∧Aside0 (Kd.R k32 32 w' w.heap.size (fun k_=>some k_ ≠ (u178001:Value).ownBlock∧k_ ≠ gb176∧k_ ≠ gb177) u7 x7_1)∧Aside0 (Kd.R (Kd.int .i64) 3 w' w.heap.size (fun _=>True) u178001 x178001_2)∧Aside0 (w'.heap[gb176]?=some (.cells #[.int .i64 0,(.slice none 0 0),(.slice none 0 0)] 32 (0,0)))∧Aside0 (w'.heap[gb177]?=some (.cells #[.int .i64 1,u178001,(.slice none 0 0)] 32 (0,0)))∧Aside0 (IsS71 w0 w' g s0_0 x1001_1)∧Aside0 (KeepBut w w' g none)∧Aside0 (Below w0.heap.size w0 w'))
    case atStart=>exact ⟨(x8_1),(([]:List Int)),(.slice none 0 0),(by first|rfl|(simp;done)|(simp [*];done)),H',⟨Nat.le_refl _⟩,⟨by (with_reducible repeat (first|apply Kd.R_alloc|apply Kd.R_drewN|apply Kd.R_drew));exact Kd.R_mono (Kd.R_far (p:=⟨gb177,2,none⟩) (Kd.R_far (p:=⟨gb177,1,none⟩) (Kd.R_far (p:=⟨gb177,0,none⟩) (Kd.R_mono HO_7.out (fun k_ hk=>(⟨hk,hk.2⟩:_∧k_ ≠ gb177))) (fun _ hk=>hk.2) (.int .i64 1)) (fun _ hk=>hk.2) (.slice none 0 0)) (fun _ hk=>hk.2) (.slice none 0 0)) (fun _ hk=>⟨(by simp [Value.ownBlock]),⟨hk.1.1,hk.1.2⟩⟩)⟩,⟨by first|exact Kd.R_nil _ _ _ _ _|exact Kd.N_nil _ _ _ _ _|exact Kd.V_nil _ _ _ _ _|exact Kd.Q_nil _ _ _ _ _|exact Kd.S_nil _ _ _ _ _⟩,⟨by (with_reducible repeat (first|refine kN ?_ _|refine kD ?_|refine kA ?_ _));refine blk_far ?_ NB176_177.out _;(with_reducible repeat (first|refine kN ?_ _|refine kD ?_|refine kA ?_ _));refine blk_far ?_ NB176_177.out _;(with_reducible repeat (first|refine kN ?_ _|refine kD ?_|refine kA ?_ _));refine blk_far ?_ NB176_177.out _;(with_reducible repeat (first|refine kN ?_ _|refine kD ?_|refine kA ?_ _));exact BK176.out⟩,⟨by (with_reducible repeat (first|refine kN ?_ _|refine kD ?_|refine kA ?_ _));refine blk_put (cs:=#[.int .i64 1,.slice none 0 0,.slice none 0 0]) ?_ 2 _ rfl;(with_reducible repeat (first|refine kN ?_ _|refine kD ?_|refine kA ?_ _));refine blk_put (cs:=#[.int .i64 1,.slice none 0 0,.slice none 0 0]) ?_ 1 _ rfl;(with_reducible repeat (first|refine kN ?_ _|refine kD ?_|refine kA ?_ _));refine blk_put (cs:=#[.int .i64 0,.slice none 0 0,.slice none 0 0]) ?_ 0 _ rfl;(with_reducible repeat (first|refine kN ?_ _|refine kD ?_|refine kA ?_ _));exact BK177.out⟩,⟨by repeat (first|(with_reducible first|exact HI0.out|apply IsS71.alloc|apply IsS71.drewN|apply IsS71.drew|apply IsS71.set_1|refine IsS71.far ?_ NB0_176.out _|refine IsS71.far ?_ NB0_177.out _)|exact HI0.out)⟩,⟨by repeat (first|(with_reducible first|exact HK.out|apply KeepBut.set_|apply keep_drewN|apply keep_drew|apply keep_alloc|refine eF ?_ GW176.out _|refine eF ?_ GW177.out _)|exact HK.out)⟩,⟨by repeat (first|(with_reducible first|exact HB.out|apply wA|apply wN|apply wD|refine wS ?_ (IsS71.ge HI0.out)|refine wS ?_ GE176.out|refine wS ?_ GE177.out)|exact HB.out)⟩⟩
    case round =>
     clear H'
     try clear p2
     try clear c5
     try clear c5b0
     try clear c7
     try clear c8
     try clear hcz9_0
     try clear hcz9_1
     try clear hcz9_2
     try clear hfz9_0
     try clear hfz9_1
     try clear hfz9_2
     try clear p2
     obtain ⟨x10_2,x178001_2,u178001,rfl,HA,HK2,HO_7,HO_178001,BK176,BK177,HI0,HK,HB⟩:=hrel
     cases gk with
     | zero=>exact absurd HA.out (by simp [trustquorummake_group.l1])
     | succ k2 =>
      have H:=HA.out
      clear HA
      simp only [trustquorummake_group.l1] at H
      by_cases c10:x10_2 < a1
      ·rw [if_pos c10] at H
       have c10b0:decide (x10_2 < a1)=true:=decide_eq_true c10
       clear c10
       by_cases c11:x178001_2.length < 17592186044416
       ·rw [if_pos c11] at H
        have LMc11:=Aside0.mk c11
        clear c11
        obtain ⟨y178,hy178⟩:∃ y_:List Int,y_=(x178001_2++[x10_2]):=⟨_,rfl⟩
        replace H:(trustquorummake_group.l1 k2 a1 a2 x7_1 x8_1 (wrap64 (x10_2+3)) s0_0 x1001_1 1 y178)=some (r1,r2,r3,r4):=by first|(rw [hy178];with_reducible exact H)|(have H2_:=(Option.bind_some _ _).symm.trans H;rw [hy178];with_reducible exact H2_)|(have H2_:=(Option.bind_some _ _).symm.trans H;with_reducible exact H2_)|with_reducible exact H|(rw [hy178];exact H)|exact H
        have Ny178:=Aside0.mk hy178
        clear hy178
        have H':=Aside0.mk H
        clear H
        have hnb12:=NB177_176.out
        have hnc12:=NB176_177.out
        have hnb13:=NB177_0.out
        have hnc13:=NB0_177.out
        have hcz14_0:wr.cell? ⟨gb177,0,none⟩=some (.int .i64 1):=(kC BK177.out 0).trans rfl
        have hcz14_1:wr.cell? ⟨gb177,1,none⟩=some (u178001):=(kC BK177.out 1).trans rfl
        have hcz14_2:wr.cell? ⟨gb177,2,none⟩=some (.slice none 0 0):=(kC BK177.out 2).trans rfl
        have hfz14_0:=kF BK177.out 0
        have hfz14_1:=kF BK177.out 1
        have hfz14_2:=kF BK177.out 2
        go_wp2_with (first|((with_reducible refine gate_builtin (b:=.append) (xs:=#[.tmp 23,.tmp 25]) rfl ?_);at_builtin;refine Kd.R_append (Kd.int .i64) w.heap.size rfl (.tmp 23) (.tmp 25) 22 3 (.int .i64 0) 8 rfl Try.underlying22 info3 rfl (by decide) (by omega) u178001 x178001_2 x10_2 [.int .i64 x10_2] (fun _=>True) (fun _=>False) rfl rfl ?aP (fun _ hk=>hk.elim) ?aF ?aO (Below.refl _ _) ?aS ?aL ?_;(case aP=>exact rfl);(case aF=>exact (fun _ _=>trivial));(case aO=>exact (by (with_reducible repeat (first|apply Kd.R_alloc|apply Kd.R_drewN|apply Kd.R_drew));exact HO_178001.out));(case aS=>exact (keep_size (w:=w) (g:=g) (row:=none) (by repeat (first|(with_reducible first|exact HK.out|apply KeepBut.set_|apply keep_drewN|apply keep_drew|apply keep_alloc|refine eF ?_ GW176.out _|refine eF ?_ GW177.out _)|exact HK.out))));(case aL=>have:=LMc11.out;omega);intro v179 w15 ho hb hg hat;rw [← Ny178.out] at ho;have n0_:=Aside0.mk (Kd.R_after (ok:=(fun k_=>k_ ≠ gb176∧k_ ≠ gb177)) (by (with_reducible repeat (first|apply Kd.R_alloc|apply Kd.R_drewN|apply Kd.R_drew));exact Kd.R_mono HO_7.out (fun _ hk=>⟨⟨hk.2.1,hk.2.2⟩,hk.1⟩)) hg hat);have n1_:=Aside0.mk (blk_grown (g:=gb176) (o:=.cells #[.int .i64 0,.slice none 0 0,.slice none 0 0] 32 (0,0)) (by (with_reducible repeat (first|refine kN ?_ _|refine kD ?_|refine kA ?_ _));exact BK176.out) hg (Kd.R_ne HO_178001.out BK176.out (by decide)));have n2_:=Aside0.mk (blk_grown (g:=gb177) (o:=.cells #[.int .i64 1,u178001,.slice none 0 0] 32 (0,0)) (by (with_reducible repeat (first|refine kN ?_ _|refine kD ?_|refine kA ?_ _));exact BK177.out) hg (Kd.R_ne HO_178001.out BK177.out (by decide)));have n3_:=Aside0.mk (IsS71.grown (by repeat (first|(with_reducible first|exact HI0.out|apply IsS71.alloc|apply IsS71.drewN|apply IsS71.drew|apply IsS71.set_1|refine IsS71.far ?_ NB0_176.out _|refine IsS71.far ?_ NB0_177.out _)|exact HI0.out)) hg (IsS71.own_ne HI0.out HO_178001.out (by decide)));have n4_:=Aside0.mk (below_weaken (by repeat (first|(with_reducible first|exact HB.out|apply wA|apply wN|apply wD|refine wS ?_ (IsS71.ge HI0.out)|refine wS ?_ GE176.out|refine wS ?_ GE177.out)|exact HB.out)) HL.out hb);have n5_:=Aside0.mk (KeepBut.trans (by repeat (first|(with_reducible first|exact HK.out|apply KeepBut.set_|apply keep_drewN|apply keep_drew|apply keep_alloc|refine eF ?_ GW176.out _|refine eF ?_ GW177.out _)|exact HK.out)) (KeepBut.of_grown hg g) (Kd.R_base2 HO_178001.out));have n6_:=Aside0.mk (ho);clear HO_7;clear BK176;clear BK177;clear HI0;clear HB;clear HK;clear HO_178001;have HO_7:=n0_;have BK176:=n1_;have BK177:=n2_;have HI0:=n3_;have HB:=n4_;have HK:=n5_;have HO180:=n6_;clear n0_ n1_ n2_ n3_ n4_ n5_ n6_;clear ho hb hg hat;obtain ⟨Ao16,co16,eo16⟩:=Kd.R_slice HO180.out;subst eo16;have hcz17_0:w15.cell? ⟨gb177,0,none⟩=some (.int .i64 1):=(kC BK177.out 0).trans rfl;have hcz17_1:w15.cell? ⟨gb177,1,none⟩=some (u178001):=(kC BK177.out 1).trans rfl;have hcz17_2:w15.cell? ⟨gb177,2,none⟩=some (.slice none 0 0):=(kC BK177.out 2).trans rfl;have hfz17_0:=kF BK177.out 0;have hfz17_1:=kF BK177.out 1;have hfz17_2:=kF BK177.out 2))
        go_roundg k2
        case measure=>have:=HK1.out;have:=HK2.out;omega
        case rel=>exact ⟨(wrap64 (x10_2+3)),(y178),(.slice Ao16 y178.length co16),(by first|rfl|(simp;done)|(simp [*];done)),H',⟨by have:=HK1.out;have:=HK2.out;omega⟩,⟨by (with_reducible repeat (first|apply Kd.R_alloc|apply Kd.R_drewN|apply Kd.R_drew));exact Kd.R_mono (Kd.R_far (p:=⟨gb177,1,none⟩) (Kd.R_mono HO_7.out (fun k_ hk=>(⟨hk,hk.1.2⟩:_∧k_ ≠ gb177))) (fun _ hk=>hk.2) (.slice Ao16 y178.length co16)) (fun _ hk=>⟨hk.1.2,⟨hk.1.1.1,hk.1.1.2⟩⟩)⟩,⟨by (with_reducible repeat (first|apply Kd.R_alloc|apply Kd.R_drewN|apply Kd.R_drew));exact Kd.R_mono (Kd.R_far (p:=⟨gb177,1,none⟩) (Kd.R_types HO180.out BK177.out (by decide)) (fun _ hk=>hk.2) (.slice Ao16 y178.length co16)) (fun _ hk=>trivial)⟩,⟨by (with_reducible repeat (first|refine kN ?_ _|refine kD ?_|refine kA ?_ _));refine blk_far ?_ NB176_177.out _;(with_reducible repeat (first|refine kN ?_ _|refine kD ?_|refine kA ?_ _));exact BK176.out⟩,⟨by (with_reducible repeat (first|refine kN ?_ _|refine kD ?_|refine kA ?_ _));refine blk_put (cs:=#[.int .i64 1,u178001,.slice none 0 0]) ?_ 1 _ rfl;(with_reducible repeat (first|refine kN ?_ _|refine kD ?_|refine kA ?_ _));exact BK177.out⟩,⟨by repeat (first|(with_reducible first|exact HI0.out|apply IsS71.alloc|apply IsS71.drewN|apply IsS71.drew|apply IsS71.set_1|refine IsS71.far ?_ NB0_176.out _|refine IsS71.far ?_ NB0_177.out _)|exact HI0.out)⟩,⟨by repeat (first|(with_reducible first|exact HK.out|apply KeepBut.set_|apply keep_drewN|apply keep_drew|apply keep_alloc|refine eF ?_ GW176.out _|refine eF ?_ GW177.out _)|exact HK.out)⟩,⟨by repeat (first|(with_reducible first|exact HB.out|apply wA|apply wN|apply wD|refine wS ?_ (IsS71.ge HI0.out)|refine wS ?_ GE176.out|refine wS ?_ GE177.out)|exact HB.out)⟩⟩
       ·rw [if_neg c11] at H
        exact absurd H (by simp)
      ·rw [if_neg c10] at H
       have c10b0:decide (x10_2 < a1)=false:=decide_eq_false c10
       clear c10
       by_cases c18:(x178001_2.length:Int) > 0
       ·rw [if_pos c18] at H
        have c18b0:decide (0 < (x178001_2.length:Int))=true:=decide_eq_true c18
        have c18b1:decide (0 < x178001_2.length)=true:=decide_eq_true (by omega)
        clear c18
        replace H:=Option.bind_eq_some_iff.mp H
        obtain ⟨⟨t181,t182⟩,A190,H⟩:=H
        replace H:(if x7_1.length < 2513169434916 then (trustquorummake_group.l0 k2 a1 a2 (x7_1++[(⟨t181,x178001_2,([]:List (S32))⟩:S32)]) (wrap64 (x8_1+1)) s0_0 t182) else (none))=some (r1,r2,r3,r4):=H
        have A19:=Aside0.mk A190
        clear A190
        by_cases c20:x7_1.length < 2513169434916
        ·rw [if_pos c20] at H
         have LMc20:=Aside0.mk c20
         clear c20
         obtain ⟨y183,hy183⟩:∃ y_:List (S32),y_=(x7_1++[(⟨t181,x178001_2,([]:List (S32))⟩:S32)]):=⟨_,rfl⟩
         replace H:(trustquorummake_group.l0 k2 a1 a2 y183 (wrap64 (x8_1+1)) s0_0 t182)=some (r1,r2,r3,r4):=by first|(rw [hy183];with_reducible exact H)|(have H2_:=(Option.bind_some _ _).symm.trans H;rw [hy183];with_reducible exact H2_)|(have H2_:=(Option.bind_some _ _).symm.trans H;with_reducible exact H2_)|with_reducible exact H|(rw [hy183];exact H)|exact H
         have Ny183:=Aside0.mk hy183
         clear hy183
         have H':=Aside0.mk H
         clear H
         have hnb21:=NB177_176.out
         have hnc21:=NB176_177.out
         have hnb22:=NB177_0.out
         have hnc22:=NB0_177.out
         have hcz23_0:wr.cell? ⟨gb177,0,none⟩=some (.int .i64 1):=(kC BK177.out 0).trans rfl
         have hcz23_1:wr.cell? ⟨gb177,1,none⟩=some (u178001):=(kC BK177.out 1).trans rfl
         have hcz23_2:wr.cell? ⟨gb177,2,none⟩=some (.slice none 0 0):=(kC BK177.out 2).trans rfl
         have hfz23_0:=kF BK177.out 0
         have hfz23_1:=kF BK177.out 1
         have hfz23_2:=kF BK177.out 2
         obtain ⟨Ao24,co24,eo24⟩:=Kd.R_slice HO_178001.out
         subst eo24
         go_wp2_with (first|((with_reducible refine gate_callee (f:=44) rfl ?_);refine goesL_ (some 36) rfl rfl Try.func44 (by kernel_rfl) rfl #[.pointer (some ⟨g,0,none⟩),.int .i64 1,.int .i64 (x178001_2.length:Int)] rfl (by (try simp only [List.map_toArray,List.map_cons,List.map_nil]);first|done|rfl|(simp only [List.length_drop,List.length_take];rfl)) ?_;(with_reducible refine (trustquorummake_Tape_Range.calls g s0_0 x1001_1 1 (x178001_2.length:Int) t181 t182 w0 _ ?side1 ?side2 A19.out).mono ?_);(case side1=>repeat (first|(with_reducible first|exact HI0.out|apply IsS71.alloc|apply IsS71.drewN|apply IsS71.drew|apply IsS71.set_1|refine IsS71.far ?_ NB0_176.out _|refine IsS71.far ?_ NB0_177.out _)|exact HI0.out));(case side2=>repeat (first|(with_reducible first|exact HB.out|apply wA|apply wN|apply wD|refine wS ?_ (IsS71.ge HI0.out)|refine wS ?_ GE176.out|refine wS ?_ GE177.out)|exact HB.out));rintro e w25 ⟨rfl,hi,hb,hk⟩;refine ⟨_,rfl,?_⟩;have n0_:=Aside0.mk (Kd.R_mono (Kd.R_keep (IsS71.apart (show IsS71 w0 _ g s0_0 x1001_1 from by repeat (first|(with_reducible first|exact HI0.out|apply IsS71.alloc|apply IsS71.drewN|apply IsS71.drew|apply IsS71.set_1|refine IsS71.far ?_ NB0_176.out _|refine IsS71.far ?_ NB0_177.out _)|exact HI0.out)) (by (with_reducible repeat (first|apply Kd.R_alloc|apply Kd.R_drewN|apply Kd.R_drew));exact HO_7.out) (by decide)) hk (fun _ h=>h.2)) (fun _ h=>h.1));have n1_:=Aside0.mk (Kd.R_mono (Kd.R_keep (IsS71.apart (show IsS71 w0 _ g s0_0 x1001_1 from by repeat (first|(with_reducible first|exact HI0.out|apply IsS71.alloc|apply IsS71.drewN|apply IsS71.drew|apply IsS71.set_1|refine IsS71.far ?_ NB0_176.out _|refine IsS71.far ?_ NB0_177.out _)|exact HI0.out)) (by (with_reducible repeat (first|apply Kd.R_alloc|apply Kd.R_drewN|apply Kd.R_drew));exact HO_178001.out) (by decide)) hk (fun _ h=>h.2)) (fun _ h=>h.1));have n2_:=Aside0.mk (KeepBut.blk hk (g':=gb176) (o:=.cells #[.int .i64 0,.slice none 0 0,.slice none 0 0] 32 (0,0)) (by (with_reducible repeat (first|refine kN ?_ _|refine kD ?_|refine kA ?_ _));exact BK176.out) NB176_0.out (by simp));have n3_:=Aside0.mk (KeepBut.blk hk (g':=gb177) (o:=.cells #[.int .i64 1,.slice Ao24 x178001_2.length co24,.slice none 0 0] 32 (0,0)) (by (with_reducible repeat (first|refine kN ?_ _|refine kD ?_|refine kA ?_ _));exact BK177.out) NB177_0.out (by simp));have n4_:=Aside0.mk (KeepBut.trans (by repeat (first|(with_reducible first|exact HK.out|apply KeepBut.set_|apply keep_drewN|apply keep_drew|apply keep_alloc|refine eF ?_ GW176.out _|refine eF ?_ GW177.out _)|exact HK.out)) hk (.inl rfl));have n5_:=Aside0.mk (hb);have n6_:=Aside0.mk (hi);clear HO_7;clear HO_178001;clear BK176;clear BK177;clear HK;clear HB;clear HI0;have HO_7:=n0_;have HO_178001:=n1_;have BK176:=n2_;have BK177:=n3_;have HK:=n4_;have HB:=n5_;have HI0:=n6_;clear n0_ n1_ n2_ n3_ n4_ n5_ n6_;(try clear hb);(try clear hb2);(try clear hk);(try clear hi);have hcz26_0:w25.cell? ⟨gb177,0,none⟩=some (.int .i64 1):=(kC BK177.out 0).trans rfl;have hcz26_1:w25.cell? ⟨gb177,1,none⟩=some (.slice Ao24 x178001_2.length co24):=(kC BK177.out 1).trans rfl;have hcz26_2:w25.cell? ⟨gb177,2,none⟩=some (.slice none 0 0):=(kC BK177.out 2).trans rfl;have hfz26_0:=kF BK177.out 0;have hfz26_1:=kF BK177.out 1;have hfz26_2:=kF BK177.out 2)|((with_reducible refine gate_store (t:=3) (p:=37) rfl ?_);refine store_event (t:=3) (p:=37) (v:=?vo_w27) (w1:=(w25.setCell ⟨gb177,0,none⟩ (.int .i64 t181))) ?hg ?ho ?hn ?hr ?_;(case ho=>rfl);(case hg=>rfl);(case hn=>rfl);(case hr=>first|(go_simp;done)|(go_simp;rfl));intro w27 hw;have n0_:Aside0 (Kd.R k32 32 w27 w.heap.size (fun k_=>some k_ ≠ (.slice Ao24 x178001_2.length co24:Value).ownBlock∧k_ ≠ gb176∧k_ ≠ gb177) u7 x7_1):=⟨(by rw [hw];exact (by (with_reducible repeat (first|apply Kd.R_alloc|apply Kd.R_drewN|apply Kd.R_drew));exact Kd.R_mono (Kd.R_far (p:=⟨gb177,0,none⟩) (Kd.R_mono HO_7.out (fun k_ hk=>(⟨hk,hk.2.2⟩:_∧k_ ≠ gb177))) (fun _ hk=>hk.2) (.int .i64 t181)) (fun _ hk=>⟨hk.1.1,⟨hk.1.2.1,hk.1.2.2⟩⟩)))⟩;have n1_:Aside0 (Kd.R (Kd.int .i64) 3 w27 w.heap.size (fun _=>True) (.slice Ao24 x178001_2.length co24) x178001_2):=⟨(by rw [hw];exact (by (with_reducible repeat (first|apply Kd.R_alloc|apply Kd.R_drewN|apply Kd.R_drew));exact Kd.R_mono (Kd.R_far (p:=⟨gb177,0,none⟩) (Kd.R_types HO_178001.out BK177.out (by decide)) (fun _ hk=>hk.2) (.int .i64 t181)) (fun _ hk=>trivial)))⟩;have n2_:Aside0 (w27.heap[gb176]?=some (.cells #[.int .i64 0,.slice none 0 0,.slice none 0 0] 32 (0,0))):=⟨(by rw [hw];exact (by (with_reducible repeat (first|refine kN ?_ _|refine kD ?_|refine kA ?_ _));refine blk_far ?_ NB176_177.out _;(with_reducible repeat (first|refine kN ?_ _|refine kD ?_|refine kA ?_ _));exact BK176.out))⟩;have n3_:Aside0 (w27.heap[gb177]?=some (.cells #[.int .i64 t181,.slice Ao24 x178001_2.length co24,.slice none 0 0] 32 (0,0))):=⟨(by rw [hw];exact (by (with_reducible repeat (first|refine kN ?_ _|refine kD ?_|refine kA ?_ _));refine blk_put (cs:=#[.int .i64 1,.slice Ao24 x178001_2.length co24,.slice none 0 0]) ?_ 0 _ rfl;(with_reducible repeat (first|refine kN ?_ _|refine kD ?_|refine kA ?_ _));exact BK177.out))⟩;have n4_:Aside0 (IsS71 w0 w27 g s0_0 t182):=⟨(by rw [hw];exact (by repeat (first|(with_reducible first|exact HI0.out|apply IsS71.alloc|apply IsS71.drewN|apply IsS71.drew|apply IsS71.set_1|refine IsS71.far ?_ NB0_176.out _|refine IsS71.far ?_ NB0_177.out _)|exact HI0.out)))⟩;have n5_:Aside0 (KeepBut w w27 g none):=⟨(by rw [hw];exact (by repeat (first|(with_reducible first|exact HK.out|apply KeepBut.set_|apply keep_drewN|apply keep_drew|apply keep_alloc|refine eF ?_ GW176.out _|refine eF ?_ GW177.out _)|exact HK.out)))⟩;have n6_:Aside0 (Below w0.heap.size w0 w27):=⟨(by rw [hw];exact (by repeat (first|(with_reducible first|exact HB.out|apply wA|apply wN|apply wD|refine wS ?_ (IsS71.ge HI0.out)|refine wS ?_ GE176.out|refine wS ?_ GE177.out)|exact HB.out)))⟩;clear hw;clear HO_7;clear HO_178001;clear BK176;clear BK177;clear HI0;clear HK;clear HB;have HO_7:=n0_;have HO_178001:=n1_;have BK176:=n2_;have BK177:=n3_;have HI0:=n4_;have HK:=n5_;have HB:=n6_;clear n0_ n1_ n2_ n3_ n4_ n5_ n6_;have hcz28_0:w27.cell? ⟨gb177,0,none⟩=some (.int .i64 t181):=(kC BK177.out 0).trans rfl;have hcz28_1:w27.cell? ⟨gb177,1,none⟩=some (.slice Ao24 x178001_2.length co24):=(kC BK177.out 1).trans rfl;have hcz28_2:w27.cell? ⟨gb177,2,none⟩=some (.slice none 0 0):=(kC BK177.out 2).trans rfl;have hfz28_0:=kF BK177.out 0;have hfz28_1:=kF BK177.out 1;have hfz28_2:=kF BK177.out 2)|((with_reducible refine gate_builtin (b:=.append) (xs:=#[.tmp 38,.tmp 40]) rfl ?_);at_builtin;refine Kd.R_append k32 w.heap.size rfl (.tmp 38) (.tmp 40) 30 32 (.agg #[(.int .i64 0),(.slice none 0 0),(.slice none 0 0)]) 56 rfl Try.underlying30 info32 rfl (by decide) (by omega) u7 x7_1 (⟨t181,x178001_2,([]:List (S32))⟩:S32) [.int .i64 t181,.slice Ao24 x178001_2.length co24,.slice none 0 0] (fun k_=>k_ ≠ gb176∧k_ ≠ gb177) (fun k_=>((fun k_=>k_ ≠ gb176∧k_ ≠ gb177)) k_∧some k_ ≠ (u7:Value).ownBlock) rfl rfl ?aP (fun _ hk=>hk) ?aF ?aO (Below.refl _ _) ?aS ?aL ?_;(case aP=>exact k32_mkM _ _ _ (⟨t181,x178001_2,([]:List (S32))⟩:S32) (Kd.R_mono (Kd.R_types (Kd.R_types (Kd.R_apart' (HO_178001.out) (Kd.R_typed HO_7.out) (by decide)) BK176.out (by decide)) BK177.out (by decide)) (fun k_ hk=>⟨⟨hk.1.2,hk.2⟩,hk.1.1.2⟩)) (Kd.R_nil _ _ _ _ _));(case aF=>exact (fun k_ hk=>⟨Kd.freshB (g:=gb176) (o:=.cells #[.int .i64 0,.slice none 0 0,.slice none 0 0] 32 (0,0)) (by (with_reducible repeat (first|refine kN ?_ _|refine kD ?_|refine kA ?_ _));exact BK176.out) k_ hk,Kd.freshB (g:=gb177) (o:=.cells #[.int .i64 t181,.slice Ao24 x178001_2.length co24,.slice none 0 0] 32 (0,0)) (by (with_reducible repeat (first|refine kN ?_ _|refine kD ?_|refine kA ?_ _));exact BK177.out) k_ hk⟩));(case aO=>exact (by (with_reducible repeat (first|apply Kd.R_alloc|apply Kd.R_drewN|apply Kd.R_drew));exact Kd.R_mono HO_7.out (fun _ hk=>⟨hk.2.1,hk.2.2⟩)));(case aS=>exact (keep_size (w:=w) (g:=g) (row:=none) (by repeat (first|(with_reducible first|exact HK.out|apply KeepBut.set_|apply keep_drewN|apply keep_drew|apply keep_alloc|refine eF ?_ GW176.out _|refine eF ?_ GW177.out _)|exact HK.out))));(case aL=>have:=LMc20.out;omega);intro v184 w29 ho hb hg hat;rw [← Ny183.out] at ho;have n0_:=Aside0.mk (blk_grown (g:=gb176) (o:=.cells #[.int .i64 0,.slice none 0 0,.slice none 0 0] 32 (0,0)) (by (with_reducible repeat (first|refine kN ?_ _|refine kD ?_|refine kA ?_ _));exact BK176.out) hg (Kd.R_away HO_7.out (fun _ hk=>hk.2.1)));have n1_:=Aside0.mk (blk_grown (g:=gb177) (o:=.cells #[.int .i64 t181,.slice Ao24 x178001_2.length co24,.slice none 0 0] 32 (0,0)) (by (with_reducible repeat (first|refine kN ?_ _|refine kD ?_|refine kA ?_ _));exact BK177.out) hg (Kd.R_away HO_7.out (fun _ hk=>hk.2.2)));have n2_:=Aside0.mk (IsS71.grown (by repeat (first|(with_reducible first|exact HI0.out|apply IsS71.alloc|apply IsS71.drewN|apply IsS71.drew|apply IsS71.set_1|refine IsS71.far ?_ NB0_176.out _|refine IsS71.far ?_ NB0_177.out _)|exact HI0.out)) hg (IsS71.own_ne HI0.out HO_7.out (by decide)));have n3_:=Aside0.mk (below_weaken (by repeat (first|(with_reducible first|exact HB.out|apply wA|apply wN|apply wD|refine wS ?_ (IsS71.ge HI0.out)|refine wS ?_ GE176.out|refine wS ?_ GE177.out)|exact HB.out)) HL.out hb);have n4_:=Aside0.mk (KeepBut.trans (by repeat (first|(with_reducible first|exact HK.out|apply KeepBut.set_|apply keep_drewN|apply keep_drew|apply keep_alloc|refine eF ?_ GW176.out _|refine eF ?_ GW177.out _)|exact HK.out)) (KeepBut.of_grown hg g) (Kd.R_base2 HO_7.out));have n5_:=Aside0.mk (ho);clear BK176;clear BK177;clear HI0;clear HB;clear HK;clear HO_7;clear HO_178001;have BK176:=n0_;have BK177:=n1_;have HI0:=n2_;have HB:=n3_;have HK:=n4_;have HO185:=n5_;clear n0_ n1_ n2_ n3_ n4_ n5_;clear ho hb hg hat))
         go_roundg k2
         case measure=>have:=HK1.out;have:=HK2.out;omega
         case rel=>exact ⟨(y183),(wrap64 (x8_1+1)),(t182),(by first|rfl|(simp;done)|(simp [*];done)),H',⟨by have:=HK1.out;have:=HK2.out;omega⟩,⟨by (with_reducible repeat (first|apply Kd.R_alloc|apply Kd.R_drewN|apply Kd.R_drew));exact Kd.R_mono HO185.out (fun _ hk=>hk.1)⟩,⟨by (with_reducible repeat (first|refine kN ?_ _|refine kD ?_|refine kA ?_ _));exact BK176.out⟩,⟨by repeat (first|(with_reducible first|exact HI0.out|apply IsS71.alloc|apply IsS71.drewN|apply IsS71.drew|apply IsS71.set_1|refine IsS71.far ?_ NB0_176.out _|refine IsS71.far ?_ NB0_177.out _)|exact HI0.out)⟩,⟨by repeat (first|(with_reducible first|exact HK.out|apply KeepBut.set_|apply keep_drewN|apply keep_drew|apply keep_alloc|refine eF ?_ GW176.out _|refine eF ?_ GW177.out _)|exact HK.out)⟩,⟨by repeat (first|(with_reducible first|exact HB.out|apply wA|apply wN|apply wD|refine wS ?_ (IsS71.ge HI0.out)|refine wS ?_ GE176.out|refine wS ?_ GE177.out)|exact HB.out)⟩,⟨by have h_:=HEX.out;intro y_ hy_;first|exact h_ y_ hy_|(rw [Ny183.out] at hy_;rcases List.mem_append.1 hy_ with hy_|hy_;exact h_ y_ hy_;simp at hy_;rw [hy_])⟩⟩
        ·rw [if_neg c20] at H
         exact absurd H (by simp)
       ·rw [if_neg c18] at H
        have c18b0:decide (0 < (x178001_2.length:Int))=false:=decide_eq_false c18
        have c18b1:decide (0 < x178001_2.length)=false:=decide_eq_false (by omega)
        clear c18
        have H':=Aside0.mk H
        clear H
        have hnb30:=NB177_176.out
        have hnc30:=NB176_177.out
        have hnb31:=NB177_0.out
        have hnc31:=NB0_177.out
        have hcz32_0:wr.cell? ⟨gb177,0,none⟩=some (.int .i64 1):=(kC BK177.out 0).trans rfl
        have hcz32_1:wr.cell? ⟨gb177,1,none⟩=some (u178001):=(kC BK177.out 1).trans rfl
        have hcz32_2:wr.cell? ⟨gb177,2,none⟩=some (.slice none 0 0):=(kC BK177.out 2).trans rfl
        have hfz32_0:=kF BK177.out 0
        have hfz32_1:=kF BK177.out 1
        have hfz32_2:=kF BK177.out 2
        obtain ⟨Ao33,co33,eo33⟩:=Kd.R_slice HO_178001.out
        subst eo33
        go_wp2
        go_roundg k2
        case measure=>have:=HK1.out;have:=HK2.out;omega
        case rel=>exact ⟨(x7_1),(wrap64 (x8_1+1)),(x1001_1),(by first|rfl|(simp;done)|(simp [*];done)),H',⟨by have:=HK1.out;have:=HK2.out;omega⟩,⟨by (with_reducible repeat (first|apply Kd.R_alloc|apply Kd.R_drewN|apply Kd.R_drew));exact Kd.R_mono HO_7.out (fun _ hk=>hk.2.1)⟩,⟨by (with_reducible repeat (first|refine kN ?_ _|refine kD ?_|refine kA ?_ _));exact BK176.out⟩,⟨by repeat (first|(with_reducible first|exact HI0.out|apply IsS71.alloc|apply IsS71.drewN|apply IsS71.drew|apply IsS71.set_1|refine IsS71.far ?_ NB0_176.out _|refine IsS71.far ?_ NB0_177.out _)|exact HI0.out)⟩,⟨by repeat (first|(with_reducible first|exact HK.out|apply KeepBut.set_|apply keep_drewN|apply keep_drew|apply keep_alloc|refine eF ?_ GW176.out _|refine eF ?_ GW177.out _)|exact HK.out)⟩,⟨by repeat (first|(with_reducible first|exact HB.out|apply wA|apply wN|apply wD|refine wS ?_ (IsS71.ge HI0.out)|refine wS ?_ GE176.out|refine wS ?_ GE177.out)|exact HB.out)⟩,⟨by have h_:=HEX.out;intro y_ hy_;first|exact h_ y_ hy_|(rw [Ny183.out] at hy_;rcases List.mem_append.1 hy_ with hy_|hy_;exact h_ y_ hy_;simp at hy_;rw [hy_])⟩⟩
   ·rw [if_neg c5] at H
    have c5b0:decide (x8_1 < 3)=false:=decide_eq_false c5
    clear c5
    replace H:=Option.bind_eq_some_iff.mp H
    obtain ⟨⟨t186,t187⟩,A340,H⟩:=H
    replace H:(if t186=0 then (if (x7_1.length:Int)=0 then (none) else (if 0≤(Int.tmod a2 (x7_1.length:Int)) then (if (Int.tmod a2 (x7_1.length:Int)) < (x7_1.length:Int) then (some ((rd_T32 x7_1 (Int.tmod a2 (x7_1.length:Int))).f0,(rd_T32 x7_1 (Int.tmod a2 (x7_1.length:Int))).f1,(rd_T32 x7_1 (Int.tmod a2 (x7_1.length:Int))).f2,t187)) else (none)) else (none))) else ((trustquorummake_Tape_Range.f s0_0 t187 (mx 1 (wrap64 ((x7_1.length:Int) - 1))) (x7_1.length:Int)).bind fun bt189=>(some (bt189.1,([]:List Int),x7_1,bt189.2))))=some (r1,r2,r3,r4):=H
    have A34:=Aside0.mk A340
    clear A340
    by_cases c35:t186=0
    ·rw [if_pos c35] at H
     have c35b0:(t186 == 0)=true:=beq_iff_eq.mpr c35
     have c35b1:(t186 != 0)=false:=bne_eq_false_iff_eq.mpr c35
     clear c35
     by_cases c36:(x7_1.length:Int)=0
     ·rw [if_pos c36] at H
      exact absurd H (by simp)
     ·rw [if_neg c36] at H
      have c36b0:((x7_1.length:Int) == 0)=false:=beq_eq_false_iff_ne.mpr c36
      have c36b1:((x7_1.length:Int) != 0)=true:=bne_iff_ne.mpr c36
      have c36b2:¬ (x7_1=[]):=fun h_=>c36 (by rw [h_];rfl)
      obtain ⟨ji37,hji37⟩:∃ j_:Int,(Int.tmod a2 (x7_1.length:Int))=j_:=⟨_,rfl⟩
      replace H:(if 0≤(ji37) then (if (ji37) < (x7_1.length:Int) then (some ((rd_T32 x7_1 (ji37)).f0,(rd_T32 x7_1 (ji37)).f1,(rd_T32 x7_1 (ji37)).f2,t187)) else (none)) else (none))=some (r1,r2,r3,r4):=by first|(rw [hji37] at H;exact H)|(simp only [hji37] at H ⊢;exact H)
      (try rw [hji37] at A34)
      by_cases c38:0≤(ji37)
      ·rw [if_pos c38] at H
       have c38b0:decide (0≤(ji37))=true:=decide_eq_true c38
       clear c38
       by_cases c39:(ji37) < (x7_1.length:Int)
       ·rw [if_pos c39] at H
        have c39b0:decide ((ji37) < (x7_1.length:Int))=true:=decide_eq_true c39
        clear c39
        simp only [Option.some.injEq,Prod.mk.injEq] at H
        obtain ⟨rfl,rfl,rfl,rfl⟩:=H
        go_wp2_with (first|((with_reducible refine gate_callee (f:=16) rfl ?_);refine goesL_ (some 43) rfl rfl Try.func16 (by kernel_rfl) rfl #[.pointer (some ⟨g,0,none⟩),.int .i64 4] rfl (by (try simp only [List.map_toArray,List.map_cons,List.map_nil]);first|done|rfl|(simp only [List.length_drop,List.length_take];rfl)) ?_;(with_reducible refine (trustquorummake_Tape_N.calls g s0_0 x1001_1 4 t186 t187 w0 _ ?side1 ?side2 A34.out).mono ?_);(case side1=>repeat (first|(with_reducible first|exact HI0.out|apply IsS71.alloc|apply IsS71.drewN|apply IsS71.drew|apply IsS71.set_1|refine IsS71.far ?_ NB0_176.out _)|exact HI0.out));(case side2=>repeat (first|(with_reducible first|exact HB.out|apply wA|apply wN|apply wD|refine wS ?_ (IsS71.ge HI0.out)|refine wS ?_ GE176.out)|exact HB.out));rintro e w40 ⟨rfl,hi,hb,hk⟩;refine ⟨_,rfl,?_⟩;have n0_:=Aside0.mk (Kd.R_mono (Kd.R_keep (IsS71.apart (show IsS71 w0 _ g s0_0 x1001_1 from by repeat (first|(with_reducible first|exact HI0.out|apply IsS71.alloc|apply IsS71.drewN|apply IsS71.drew|apply IsS71.set_1|refine IsS71.far ?_ NB0_176.out _)|exact HI0.out)) (by (with_reducible repeat (first|apply Kd.R_alloc|apply Kd.R_drewN|apply Kd.R_drew));exact HO_7.out) (by decide)) hk (fun _ h=>h.2)) (fun _ h=>h.1));have n1_:=Aside0.mk (KeepBut.blk hk (g':=gb176) (o:=.cells #[.int .i64 0,.slice none 0 0,.slice none 0 0] 32 (0,0)) (by (with_reducible repeat (first|refine kN ?_ _|refine kD ?_|refine kA ?_ _));exact BK176.out) NB176_0.out (by simp));have n2_:=Aside0.mk (KeepBut.trans (by repeat (first|(with_reducible first|exact HK.out|apply KeepBut.set_|apply keep_drewN|apply keep_drew|apply keep_alloc|refine eF ?_ GW176.out _)|exact HK.out)) hk (.inl rfl));have n3_:=Aside0.mk (hb);have n4_:=Aside0.mk (hi);clear HO_7;clear BK176;clear HK;clear HB;clear HI0;have HO_7:=n0_;have BK176:=n1_;have HK:=n2_;have HB:=n3_;have HI0:=n4_;clear n0_ n1_ n2_ n3_ n4_;(try clear hb);(try clear hb2);(try clear hk);(try clear hi);obtain ⟨Ao41,co41,eo41⟩:=Kd.R_slice HO_7.out;subst eo41;have p188:0≤((ji37):Int):=of_decide_eq_true (by first|(with_reducible assumption)|assumption);have q188:(ji37) < (x7_1.length:Int):=of_decide_eq_true (by first|(with_reducible assumption)|assumption);obtain ⟨ad188,A188_1,c188_1,A188_2,c188_2,e188,hx188_0,hx188_1,hx188_2,hl188_1,hi188_1,hl188_2,hi188_2⟩:=at_T32 (Kd.R_reads' HO_7.out).2.2 (ji37) p188 q188;cases e188;obtain ⟨ce188,hce188,hMe188,hcc188⟩:=Kd.R_get HO_7.out z32 (ji37) p188 (by first|exact q188|exact of_decide_eq_true (by first|(with_reducible assumption)|assumption)|(have e_:=(Kd.R_reads' HO_7.out).1;omega));obtain ⟨ve188_1,ve188_2,rfl,ge188_1,ge188_2⟩:=k32_openM hMe188;have hv188_1:=hcc188 1 _ rfl;rw [add_field _ _ 1 (by omega)] at hv188_1;replace hv188_1:=Option.some.inj (hv188_1.symm.trans hx188_1);rw [hv188_1] at ge188_1;have HL188_1:=Aside0.mk (show Kd.R (Kd.int .i64) 3 _ _ _ _ ((rd_T32 x7_1 (ji37)).f1) from ge188_1);clear hv188_1 ge188_1;have hv188_2:=hcc188 2 _ rfl;rw [add_field _ _ 2 (by omega)] at hv188_2;replace hv188_2:=Option.some.inj (hv188_2.symm.trans hx188_2);rw [hv188_2] at ge188_2;have HL188_2:=Aside0.mk (show Kd.R k32 32 _ _ _ _ ((rd_T32 x7_1 (ji37)).f2) from ge188_2);clear hv188_2 ge188_2;clear hcc188 hce188;have HR188_1:=Aside0.mk hi188_1;have HC188_1:=Aside0.mk hl188_1;clear hi188_1 hl188_1;have HR188_2:=Aside0.mk hi188_2;have HC188_2:=Aside0.mk hl188_2;clear hi188_2 hl188_2;replace p188:=eq_true p188;replace q188:=eq_true q188;have hnb42:=NB176_0.out;have hnc42:=NB0_176.out;have hcz43_0:w40.cell? ⟨gb176,0,none⟩=some (.int .i64 0):=(kC BK176.out 0).trans rfl;have hcz43_1:w40.cell? ⟨gb176,1,none⟩=some (.slice none 0 0):=(kC BK176.out 1).trans rfl;have hcz43_2:w40.cell? ⟨gb176,2,none⟩=some (.slice none 0 0):=(kC BK176.out 2).trans rfl;have hfz43_0:=kF BK176.out 0;have hfz43_1:=kF BK176.out 1;have hfz43_2:=kF BK176.out 2))
        refine bodyPost_ret (results_cell_row rfl _ _ gb176 32 #[.int .i64 ((rd_T32 x7_1 (ji37)).f0),.slice A188_1 ((rd_T32 x7_1 (ji37)).f1).length c188_1,.slice A188_2 ((rd_T32 x7_1 (ji37)).f2).length c188_2] (0,0) _ rfl (by (with_reducible repeat (first|refine kN ?_ _|refine kD ?_|refine kA ?_ _));refine blk_put (cs:=#[.int .i64 ((rd_T32 x7_1 (ji37)).f0),.slice A188_1 ((rd_T32 x7_1 (ji37)).f1).length c188_1,.slice none 0 0]) ?_ 2 _ rfl;(with_reducible repeat (first|refine kN ?_ _|refine kD ?_|refine kA ?_ _));refine blk_put (cs:=#[.int .i64 ((rd_T32 x7_1 (ji37)).f0),.slice none 0 0,.slice none 0 0]) ?_ 1 _ rfl;(with_reducible repeat (first|refine kN ?_ _|refine kD ?_|refine kA ?_ _));refine blk_put (cs:=#[.int .i64 0,.slice none 0 0,.slice none 0 0]) ?_ 0 _ rfl;(with_reducible repeat (first|refine kN ?_ _|refine kD ?_|refine kA ?_ _));exact BK176.out) Try.underlying32 rfl (by kernel_rfl)) rfl ?_
        exact ⟨_,_,by first|rfl|(simp [errW_none,errW_some] <;> rfl)|(simp only [← hji37];first|rfl|(simp [errW_none,errW_some] <;> rfl))|(simp [*,errW_none,errW_some] <;> rfl),by (with_reducible repeat (first|apply Kd.R_alloc|apply Kd.R_drewN|apply Kd.R_drew));exact Kd.R_mono (Kd.R_far (p:=⟨gb176,2,none⟩) (Kd.R_far (p:=⟨gb176,1,none⟩) (Kd.R_far (p:=⟨gb176,0,none⟩) (Kd.R_types HL188_1.out BK176.out (by decide)) (fun _ hk=>hk.2) (.int .i64 ((rd_T32 x7_1 (ji37)).f0))) (fun _ hk=>hk.2) (.slice A188_1 ((rd_T32 x7_1 (ji37)).f1).length c188_1)) (fun _ hk=>hk.2) (.slice A188_2 ((rd_T32 x7_1 (ji37)).f2).length c188_2)) (fun _ hk=>trivial),by (with_reducible repeat (first|apply Kd.R_alloc|apply Kd.R_drewN|apply Kd.R_drew));exact R_emptyOf (HEX.out _ (rd_T32_mem (of_decide_eq_true (by first|(with_reducible assumption)|assumption)) (of_decide_eq_true (by first|(with_reducible assumption)|assumption)))) (Kd.R_far (p:=⟨gb176,2,none⟩) (Kd.R_far (p:=⟨gb176,1,none⟩) (Kd.R_far (p:=⟨gb176,0,none⟩) (Kd.R_mono HL188_2.out (fun k_ hk=>(⟨hk,hk.1⟩:_∧k_ ≠ gb176))) (fun _ hk=>hk.2) (.int .i64 ((rd_T32 x7_1 (ji37)).f0))) (fun _ hk=>hk.2) (.slice A188_1 ((rd_T32 x7_1 (ji37)).f1).length c188_1)) (fun _ hk=>hk.2) (.slice A188_2 ((rd_T32 x7_1 (ji37)).f2).length c188_2)) (R_other HL188_2.out HL188_1.out),by repeat (first|(with_reducible first|exact HI0.out|apply IsS71.alloc|apply IsS71.drewN|apply IsS71.drew|apply IsS71.set_1|refine IsS71.far ?_ NB0_176.out _)|exact HI0.out),by repeat (first|(with_reducible first|exact HB.out|apply wA|apply wN|apply wD|refine wS ?_ (IsS71.ge HI0.out)|refine wS ?_ GE176.out)|exact HB.out),by repeat (first|(with_reducible first|exact HK.out|apply KeepBut.set_|apply keep_drewN|apply keep_drew|apply keep_alloc|refine eF ?_ GW176.out _)|exact HK.out)⟩
       ·rw [if_neg c39] at H
        exact absurd H (by simp)
      ·rw [if_neg c38] at H
       exact absurd H (by simp)
    ·rw [if_neg c35] at H
     have c35b0:(t186 == 0)=false:=beq_eq_false_iff_ne.mpr c35
     have c35b1:(t186 != 0)=true:=bne_iff_ne.mpr c35
     obtain ⟨ji44,hji44⟩:∃ j_:Int,(mx 1 (wrap64 ((x7_1.length:Int) - 1)))=j_:=⟨_,rfl⟩
     replace H:((trustquorummake_Tape_Range.f s0_0 t187 (ji44) (x7_1.length:Int)).bind fun bt189=>(some (bt189.1,([]:List Int),x7_1,bt189.2)))=some (r1,r2,r3,r4):=by first|(rw [hji44] at H;exact H)|(simp only [hji44] at H ⊢;exact H)
     (try rw [hji44] at A34)
     have hji44_:(if 1 < (wrap64 ((x7_1.length:Int) - 1)) then (wrap64 ((x7_1.length:Int) - 1)) else 1)=ji44:=hji44
     replace H:=Option.bind_eq_some_iff.mp H
     obtain ⟨⟨t189,t190⟩,A450,H⟩:=H
     replace H:(some (t189,([]:List Int),x7_1,t190))=some (r1,r2,r3,r4):=H
     have A45:=Aside0.mk A450
     clear A450
     simp only [Option.some.injEq,Prod.mk.injEq] at H
     obtain ⟨rfl,rfl,rfl,rfl⟩:=H
     go_wp2_with (first|((with_reducible refine gate_callee (f:=16) rfl ?_);refine goesL_ (some 43) rfl rfl Try.func16 (by kernel_rfl) rfl #[.pointer (some ⟨g,0,none⟩),.int .i64 4] rfl (by (try simp only [List.map_toArray,List.map_cons,List.map_nil]);first|done|rfl|(simp only [List.length_drop,List.length_take];rfl)) ?_;(with_reducible refine (trustquorummake_Tape_N.calls g s0_0 x1001_1 4 t186 t187 w0 _ ?side1 ?side2 A34.out).mono ?_);(case side1=>repeat (first|(with_reducible first|exact HI0.out|apply IsS71.alloc|apply IsS71.drewN|apply IsS71.drew|apply IsS71.set_1|refine IsS71.far ?_ NB0_176.out _)|exact HI0.out));(case side2=>repeat (first|(with_reducible first|exact HB.out|apply wA|apply wN|apply wD|refine wS ?_ (IsS71.ge HI0.out)|refine wS ?_ GE176.out)|exact HB.out));rintro e w46 ⟨rfl,hi,hb,hk⟩;refine ⟨_,rfl,?_⟩;have n0_:=Aside0.mk (Kd.R_mono (Kd.R_keep (IsS71.apart (show IsS71 w0 _ g s0_0 x1001_1 from by repeat (first|(with_reducible first|exact HI0.out|apply IsS71.alloc|apply IsS71.drewN|apply IsS71.drew|apply IsS71.set_1|refine IsS71.far ?_ NB0_176.out _)|exact HI0.out)) (by (with_reducible repeat (first|apply Kd.R_alloc|apply Kd.R_drewN|apply Kd.R_drew));exact HO_7.out) (by decide)) hk (fun _ h=>h.2)) (fun _ h=>h.1));have n1_:=Aside0.mk (KeepBut.blk hk (g':=gb176) (o:=.cells #[.int .i64 0,.slice none 0 0,.slice none 0 0] 32 (0,0)) (by (with_reducible repeat (first|refine kN ?_ _|refine kD ?_|refine kA ?_ _));exact BK176.out) NB176_0.out (by simp));have n2_:=Aside0.mk (KeepBut.trans (by repeat (first|(with_reducible first|exact HK.out|apply KeepBut.set_|apply keep_drewN|apply keep_drew|apply keep_alloc|refine eF ?_ GW176.out _)|exact HK.out)) hk (.inl rfl));have n3_:=Aside0.mk (hb);have n4_:=Aside0.mk (hi);clear HO_7;clear BK176;clear HK;clear HB;clear HI0;have HO_7:=n0_;have BK176:=n1_;have HK:=n2_;have HB:=n3_;have HI0:=n4_;clear n0_ n1_ n2_ n3_ n4_;(try clear hb);(try clear hb2);(try clear hk);(try clear hi);obtain ⟨Ao47,co47,eo47⟩:=Kd.R_slice HO_7.out;subst eo47)|((with_reducible refine gate_callee (f:=44) rfl ?_);refine goesL_ (some 59) rfl rfl Try.func44 (by kernel_rfl) rfl #[.pointer (some ⟨g,0,none⟩),.int .i64 ji44,.int .i64 (x7_1.length:Int)] rfl (by (try simp only [List.map_toArray,List.map_cons,List.map_nil]);first|done|(simp only [hji44];rfl)|rfl|(simp only [List.length_drop,List.length_take];rfl)) ?_;(with_reducible refine (trustquorummake_Tape_Range.calls g s0_0 t187 ji44 (x7_1.length:Int) t189 t190 w0 _ ?side1 ?side2 A45.out).mono ?_);(case side1=>repeat (first|(with_reducible first|exact HI0.out|apply IsS71.alloc|apply IsS71.drewN|apply IsS71.drew|apply IsS71.set_1|refine IsS71.far ?_ NB0_176.out _)|exact HI0.out));(case side2=>repeat (first|(with_reducible first|exact HB.out|apply wA|apply wN|apply wD|refine wS ?_ (IsS71.ge HI0.out)|refine wS ?_ GE176.out)|exact HB.out));rintro e w48 ⟨rfl,hi,hb,hk⟩;refine ⟨_,rfl,?_⟩;have n0_:=Aside0.mk (Kd.R_mono (Kd.R_keep (IsS71.apart (show IsS71 w0 _ g s0_0 t187 from by repeat (first|(with_reducible first|exact HI0.out|apply IsS71.alloc|apply IsS71.drewN|apply IsS71.drew|apply IsS71.set_1|refine IsS71.far ?_ NB0_176.out _)|exact HI0.out)) (by (with_reducible repeat (first|apply Kd.R_alloc|apply Kd.R_drewN|apply Kd.R_drew));exact HO_7.out) (by decide)) hk (fun _ h=>h.2)) (fun _ h=>h.1));have n1_:=Aside0.mk (KeepBut.blk hk (g':=gb176) (o:=.cells #[.int .i64 0,.slice none 0 0,.slice none 0 0] 32 (0,0)) (by (with_reducible repeat (first|refine kN ?_ _|refine kD ?_|refine kA ?_ _));exact BK176.out) NB176_0.out (by simp));have n2_:=Aside0.mk (KeepBut.trans (by repeat (first|(with_reducible first|exact HK.out|apply KeepBut.set_|apply keep_drewN|apply keep_drew|apply keep_alloc|refine eF ?_ GW176.out _)|exact HK.out)) hk (.inl rfl));have n3_:=Aside0.mk (hb);have n4_:=Aside0.mk (hi);clear HO_7;clear BK176;clear HK;clear HB;clear HI0;have HO_7:=n0_;have BK176:=n1_;have HK:=n2_;have HB:=n3_;have HI0:=n4_;clear n0_ n1_ n2_ n3_ n4_;(try clear hb);(try clear hb2);(try clear hk);(try clear hi);have hnb49:=NB176_0.out;have hnc49:=NB0_176.out;have hcz50_0:w48.cell? ⟨gb176,0,none⟩=some (.int .i64 0):=(kC BK176.out 0).trans rfl;have hcz50_1:w48.cell? ⟨gb176,1,none⟩=some (.slice none 0 0):=(kC BK176.out 1).trans rfl;have hcz50_2:w48.cell? ⟨gb176,2,none⟩=some (.slice none 0 0):=(kC BK176.out 2).trans rfl;have hfz50_0:=kF BK176.out 0;have hfz50_1:=kF BK176.out 1;have hfz50_2:=kF BK176.out 2))
     refine bodyPost_ret (results_cell_row rfl _ _ gb176 32 #[.int .i64 t189,.slice none 0 0,.slice Ao47 x7_1.length co47] (0,0) _ rfl (by (with_reducible repeat (first|refine kN ?_ _|refine kD ?_|refine kA ?_ _));refine blk_put (cs:=#[.int .i64 t189,.slice none 0 0,.slice none 0 0]) ?_ 2 _ rfl;(with_reducible repeat (first|refine kN ?_ _|refine kD ?_|refine kA ?_ _));refine blk_put (cs:=#[.int .i64 t189,.slice none 0 0,.slice none 0 0]) ?_ 1 _ rfl;(with_reducible repeat (first|refine kN ?_ _|refine kD ?_|refine kA ?_ _));refine blk_put (cs:=#[.int .i64 0,.slice none 0 0,.slice none 0 0]) ?_ 0 _ rfl;(with_reducible repeat (first|refine kN ?_ _|refine kD ?_|refine kA ?_ _));exact BK176.out) Try.underlying32 rfl (by kernel_rfl)) rfl ?_
     exact ⟨_,_,by first|rfl|(simp [errW_none,errW_some] <;> rfl)|(simp only [← hji44];first|rfl|(simp [errW_none,errW_some] <;> rfl))|(simp [*,errW_none,errW_some] <;> rfl),by first|exact Kd.R_nil _ _ _ _ _|exact Kd.N_nil _ _ _ _ _|exact Kd.V_nil _ _ _ _ _|exact Kd.Q_nil _ _ _ _ _|exact Kd.S_nil _ _ _ _ _,by (with_reducible repeat (first|apply Kd.R_alloc|apply Kd.R_drewN|apply Kd.R_drew));exact Kd.R_mono (Kd.R_far (p:=⟨gb176,2,none⟩) (Kd.R_far (p:=⟨gb176,1,none⟩) (Kd.R_far (p:=⟨gb176,0,none⟩) (Kd.R_mono HO_7.out (fun k_ hk=>(⟨hk,hk⟩:_∧k_ ≠ gb176))) (fun _ hk=>hk.2) (.int .i64 t189)) (fun _ hk=>hk.2) (.slice none 0 0)) (fun _ hk=>hk.2) (.slice Ao47 x7_1.length co47)) (fun _ hk=>(by simp [Value.ownBlock])),by repeat (first|(with_reducible first|exact HI0.out|apply IsS71.alloc|apply IsS71.drewN|apply IsS71.drew|apply IsS71.set_1|refine IsS71.far ?_ NB0_176.out _)|exact HI0.out),by repeat (first|(with_reducible first|exact HB.out|apply wA|apply wN|apply wD|refine wS ?_ (IsS71.ge HI0.out)|refine wS ?_ GE176.out)|exact HB.out),by repeat (first|(with_reducible first|exact HK.out|apply KeepBut.set_|apply keep_drewN|apply keep_drew|apply keep_alloc|refine eF ?_ GW176.out _)|exact HK.out)⟩
end Go.Proofs.Ytkjlcbfjllpcnaa.X
