/- Proof of the statement DangerSplitting: part 3 of 9, what it computes and why that answers true. -/
import Derived.Test.YtkjlcbfjllpcnaaGreatQ12
import Derived.Test.YtkjlcbfjllpcnaaGreatProg
import Derived.Below
import Derived.Deep.Draws
import Derived.Deep.AppendLies
import Derived.Maps.AppendAt
import Derived.OwnWalk
import Derived.Laws.BytesArg
import Derived.Laws.MakeOwn
import Derived.Laws.OwnMore
import Derived.Deep.OwnRows
import Derived.Tactics
import Derived.Lib.ConvBytes
import Derived.Laws.Slices
import Derived.WalkKit
import Derived.KernelRfl
import Derived.RowKit3
import Derived.Deep.LoopGhost
import Derived.Deep.QuietTactic
import Derived.BigQuiet
import Derived.WideLaws
import Derived.Deep.DeepCutAuto
import Derived.Deep.CutBlock
import Derived.Deep.RegionHeld3
import Derived.Laws.Rows
import Derived.Lib.AppendStr
import Derived.ArgAppend
import Derived.Laws.IdiomCopy
import Derived.OrdersHeld
import Derived.Laws.BitsLemmas
import Derived.RowKit
set_option linter.unusedVariables false
set_option linter.unusedSimpArgs false
namespace Go.Proofs.YtkjlcbfjllpcnaaGreat.X
open Go.RowKit Go.Proofs.YtkjlcbfjllpcnaaGreatW.PrintWords Go.Proofs.YtkjlcbfjllpcnaaGreatW.PrintLast Go.Proofs.YtkjlcbfjllpcnaaGreatW.PrintMore
attribute [local go_sem] max2_int min2_int max_two min_two max_three min_three max_four min_four
set_option linter.unusedVariables false
set_option linter.unusedSimpArgs false
def errW:Option Int→Value
 | none=>.nilIface
 | some c=>.iface 0 (.int .i64 c)
theorem errW_none:errW none=.nilIface:=rfl
theorem errW_some (c:Int):errW (some c)=.iface 0 (.int .i64 c):=rfl
theorem info3:(Tryz.prog.info? 3).map (fun i=>(i.zero,i.size,i.bytes))=some (some (.int .i64 0),1,8):=by kernel_rfl
theorem info90:(Tryz.prog.info? 90).map (fun i=>(i.zero,i.size,i.bytes))=some (some (.agg #[(.int .i64 0),(.slice none 0 0),(.slice none 0 0)]),3,56):=by kernel_rfl
theorem info92:(Tryz.prog.info? 92).map (fun i=>(i.zero,i.size,i.bytes))=some (some (.agg #[(.bool false),(.int .i64 0),(.slice none 0 0),(.slice none 0 0)]),4,64):=by kernel_rfl
structure S90 where
 f0:Int
 f1:(List Int)
 f2:(List S90)
def z90:S90:=⟨(0:Int),([]:List Int),([]:List S90)⟩
def F90 (d:Kd S90):Kd S90:=Kd.iso (Kd.pair (Kd.int .i64) (Kd.pair (Kd.slice 3 (Kd.int .i64)) (Kd.slice 90 d))) (fun x:S90=>(x.f0,x.f1,x.f2))
theorem mono90:Kd.Mono F90:=Kd.mono_iso _ (Kd.mono_pair (Kd.mono_const _) (Kd.mono_pair (Kd.mono_const _) (Kd.mono_slice 90 Kd.mono_id)))
theorem sub90:Kd.Sub F90 [3,90]:=Kd.sub_iso _ (Kd.sub_pair (Kd.sub_const _ (by decide)) (Kd.sub_pair (Kd.sub_const _ (by decide)) (Kd.sub_slice 90 (by decide) Kd.sub_id)))
theorem sz90:∀ n,(Kd.upto F90 3 [3,90] n).sz=3:=Kd.upto_sz (fun _=>rfl)
def k90:Kd S90:=Kd.fix F90 3 [3,90] sz90 (Kd.upto_E sub90)
theorem k90_heap:Kd.Heap k90:=Kd.heap_fix (fun _ h_=>Kd.heap_iso _ (Kd.heap_pair (Kd.heap_int .i64) (Kd.heap_pair (Kd.heap_slice 3 (Kd.heap_int .i64)) (Kd.heap_slice 90 h_))))
theorem k90_open {w:World} {x:S90} {cs:List Value} (h:k90.K w x cs):∃ A1 c1 A2 c2,cs=[.int .i64 x.f0,.slice A1 x.f1.length c1,.slice A2 x.f2.length c2]∧x.f1.length≤c1∧(Kd.int .i64).C w A1 x.f1.length x.f1∧x.f2.length≤c2∧k90.C w A2 x.f2.length x.f2:=by
 obtain ⟨n,h⟩:=h
 cases n with
 | zero=>exact h.elim
 | succ n =>
  obtain ⟨_,_,rfl,rfl,⟨_,_,rfl,⟨A1,c1,rfl,l1,g1⟩,⟨A2,c2,rfl,l2,g2⟩⟩⟩:=h
  exact ⟨A1,c1,A2,c2,rfl,l1,g1,l2,Kd.fix_C g2⟩
theorem k90_openM {w:World} {base:Nat} {ok:Nat→Prop} {x:S90} {cs:List Value} (h:k90.M w base ok x cs):∃ v1 v2,cs=[.int .i64 x.f0,v1,v2]∧(Kd.int .i64).R 3 w base ok v1 x.f1∧k90.R 90 w base ok v2 x.f2:=by
 obtain ⟨n,h⟩:=h
 cases n with
 | zero=>exact h.elim
 | succ n =>
  obtain ⟨_,_,rfl,rfl,⟨_,_,rfl,⟨v1,rfl,g1⟩,⟨v2,rfl,g2⟩⟩⟩:=h
  exact ⟨v1,v2,rfl,g1,Kd.fix_R g2⟩
theorem k90_mk (w:World) (x:S90) {A1:Option Addr} {c1:Nat} (l1:x.f1.length≤c1) (g1:(Kd.int .i64).C w A1 x.f1.length x.f1) {A2:Option Addr} {c2:Nat} (l2:x.f2.length≤c2) (g2:k90.C w A2 x.f2.length x.f2):k90.K w x [.int .i64 x.f0,.slice A1 x.f1.length c1,.slice A2 x.f2.length c2]:=by
 obtain ⟨n2,q2⟩:=Kd.fix_C_back mono90 g2
 have r2:=Kd.upto_C_le mono90 sz90 (show n2≤n2 by omega) q2
 exact ⟨n2+1,⟨[.int .i64 x.f0],[.slice A1 x.f1.length c1,.slice A2 x.f2.length c2],rfl,rfl,⟨[.slice A1 x.f1.length c1],[.slice A2 x.f2.length c2],rfl,⟨A1,c1,rfl,l1,g1⟩,⟨A2,c2,rfl,l2,r2⟩⟩⟩⟩
theorem k90_mkM (w:World) (base:Nat) (ok:Nat→Prop) (x:S90) {v1:Value} (g1:(Kd.int .i64).R 3 w base ok v1 x.f1) {v2:Value} (g2:k90.R 90 w base ok v2 x.f2):k90.M w base ok x [.int .i64 x.f0,v1,v2]:=by
 obtain ⟨n2,q2⟩:=Kd.fix_R_back mono90 g2
 have r2:=Kd.upto_R_le mono90 sz90 (show n2≤n2 by omega) q2
 exact ⟨n2+1,⟨[.int .i64 x.f0],[v1,v2],rfl,rfl,⟨[v1],[v2],rfl,⟨v1,rfl,g1⟩,⟨v2,rfl,r2⟩⟩⟩⟩
theorem k90_openF {W:World} {ok:Nat→Prop} {x:S90} {cs:List Value} (h:Kd.FK k90 W ok x cs):∃ A1 c1 A2 c2,cs=[.int .i64 x.f0,.slice A1 x.f1.length c1,.slice A2 x.f2.length c2]∧x.f1.length≤c1∧Kd.F (Kd.int .i64) W ok A1 x.f1.length x.f1∧x.f2.length≤c2∧Kd.F k90 W ok A2 x.f2.length x.f2:=by
 obtain ⟨A1,c1,A2,c2,rfl,l1,_,l2,_⟩:=k90_open (Kd.FK_now h)
 exact ⟨A1,c1,A2,c2,rfl,l1,(fun W' hW=>by obtain ⟨A1_,c1_,A2_,c2_,he,l1_,g1_,l2_,g2_⟩:=k90_open (h W' hW);injection (Option.some.inj (show some (Value.slice A1 x.f1.length c1)=some (Value.slice A1_ x.f1.length c1_) from congrArg (fun l=>l[1]?) he)) with ha_ _ _;rw [ha_];exact g1_),l2,(fun W' hW=>by obtain ⟨A1_,c1_,A2_,c2_,he,l1_,g1_,l2_,g2_⟩:=k90_open (h W' hW);injection (Option.some.inj (show some (Value.slice A2 x.f2.length c2)=some (Value.slice A2_ x.f2.length c2_) from congrArg (fun l=>l[2]?) he)) with ha_ _ _;rw [ha_];exact g2_)⟩
theorem k90_mkF (W:World) (ok:Nat→Prop) (x:S90) {A1:Option Addr} {c1:Nat} (l1:x.f1.length≤c1) (g1:Kd.F (Kd.int .i64) W ok A1 x.f1.length x.f1) {A2:Option Addr} {c2:Nat} (l2:x.f2.length≤c2) (g2:Kd.F k90 W ok A2 x.f2.length x.f2):Kd.FK k90 W ok x [.int .i64 x.f0,.slice A1 x.f1.length c1,.slice A2 x.f2.length c2]:=fun W2 hW=>k90_mk W2 x l1 (g1 W2 hW) l2 (g2 W2 hW)
def rd_T90 (xs:List S90) (i:Int):S90:=xs.getD i.toNat z90
theorem at_T90 {w:World} {A:Option Addr} {n:Nat} {xs:List S90} (h:Kd.C k90 w A n xs) (i:Int) (h0:0≤i) (h1:i < n):∃ ad A1 c1 A2 c2,A=some ad∧w.cell? (ad.add (i.toNat * 3))=some (.int .i64 (rd_T90 xs i).f0)∧w.cell? ⟨(ad.add (i.toNat * 3)).block,(ad.add (i.toNat * 3)).off+1,none⟩=some (.slice A1 (rd_T90 xs i).f1.length c1)∧w.cell? ⟨(ad.add (i.toNat * 3)).block,(ad.add (i.toNat * 3)).off+2,none⟩=some (.slice A2 (rd_T90 xs i).f2.length c2)∧(rd_T90 xs i).f1.length≤c1∧(Kd.int .i64).C w A1 (rd_T90 xs i).f1.length (rd_T90 xs i).f1∧(rd_T90 xs i).f2.length≤c2∧k90.C w A2 (rd_T90 xs i).f2.length (rd_T90 xs i).f2:=by
 obtain ⟨ad,c,e,_,hK,hc0⟩:=Kd.C_get h z90 i h0 h1
 have hc:∀ j u,c[j]?=some u→w.cell? (ad.add (i.toNat * 3+j))=some u:=hc0
 obtain ⟨A1,c1,A2,c2,rfl,l1,g1,l2,g2⟩:=k90_open hK
 exact ⟨ad,A1,c1,A2,c2,e,hc 0 _ rfl,by rw [← add_field _ _ 1 (by omega)];exact hc 1 _ rfl,by rw [← add_field _ _ 2 (by omega)];exact hc 2 _ rfl,l1,g1,l2,g2⟩
structure S92 where
 f0:Bool
 f1:S90
def z92:S92:=⟨false,z90⟩
def k92:Kd S92:=Kd.iso (Kd.pair Kd.bool k90) (fun x:S92=>(x.f0,x.f1))
theorem k92_heap:Kd.Heap k92:=Kd.heap_iso _ (Kd.heap_pair Kd.heap_bool k90_heap)
theorem k92_open {w:World} {x:S92} {cs:List Value} (h:k92.K w x cs):∃ A2 c2 A3 c3,cs=[.bool x.f0,.int .i64 x.f1.f0,.slice A2 x.f1.f1.length c2,.slice A3 x.f1.f2.length c3]∧x.f1.f1.length≤c2∧(Kd.int .i64).C w A2 x.f1.f1.length x.f1.f1∧x.f1.f2.length≤c3∧k90.C w A3 x.f1.f2.length x.f1.f2:=by
 obtain ⟨_,_,rfl,rfl,s1⟩:=h
 obtain ⟨A2,c2,A3,c3,rfl,l2,g2,l3,g3⟩:=k90_open s1
 exact ⟨A2,c2,A3,c3,rfl,l2,g2,l3,g3⟩
theorem k92_mk (w:World) (x:S92) {A2:Option Addr} {c2:Nat} (l2:x.f1.f1.length≤c2) (g2:(Kd.int .i64).C w A2 x.f1.f1.length x.f1.f1) {A3:Option Addr} {c3:Nat} (l3:x.f1.f2.length≤c3) (g3:k90.C w A3 x.f1.f2.length x.f1.f2):k92.K w x [.bool x.f0,.int .i64 x.f1.f0,.slice A2 x.f1.f1.length c2,.slice A3 x.f1.f2.length c3]:=⟨[.bool x.f0],[.int .i64 x.f1.f0,.slice A2 x.f1.f1.length c2,.slice A3 x.f1.f2.length c3],rfl,rfl,(k90_mk w x.f1 l2 g2 l3 g3)⟩
theorem k92_mkM (w:World) (base:Nat) (ok:Nat→Prop) (x:S92) {v2:Value} (g2:(Kd.int .i64).R 3 w base ok v2 x.f1.f1) {v3:Value} (g3:k90.R 90 w base ok v3 x.f1.f2):k92.M w base ok x [.bool x.f0,.int .i64 x.f1.f0,v2,v3]:=⟨[.bool x.f0],[.int .i64 x.f1.f0,v2,v3],rfl,rfl,(k90_mkM w base ok x.f1 g2 g3)⟩
theorem k92_openF {W:World} {ok:Nat→Prop} {x:S92} {cs:List Value} (h:Kd.FK k92 W ok x cs):∃ A2 c2 A3 c3,cs=[.bool x.f0,.int .i64 x.f1.f0,.slice A2 x.f1.f1.length c2,.slice A3 x.f1.f2.length c3]∧x.f1.f1.length≤c2∧Kd.F (Kd.int .i64) W ok A2 x.f1.f1.length x.f1.f1∧x.f1.f2.length≤c3∧Kd.F k90 W ok A3 x.f1.f2.length x.f1.f2:=by
 obtain ⟨A2,c2,A3,c3,rfl,l2,_,l3,_⟩:=k92_open (Kd.FK_now h)
 exact ⟨A2,c2,A3,c3,rfl,l2,(fun W' hW=>by obtain ⟨A2_,c2_,A3_,c3_,he,l2_,g2_,l3_,g3_⟩:=k92_open (h W' hW);injection (Option.some.inj (show some (Value.slice A2 x.f1.f1.length c2)=some (Value.slice A2_ x.f1.f1.length c2_) from congrArg (fun l=>l[2]?) he)) with ha_ _ _;rw [ha_];exact g2_),l3,(fun W' hW=>by obtain ⟨A2_,c2_,A3_,c3_,he,l2_,g2_,l3_,g3_⟩:=k92_open (h W' hW);injection (Option.some.inj (show some (Value.slice A3 x.f1.f2.length c3)=some (Value.slice A3_ x.f1.f2.length c3_) from congrArg (fun l=>l[3]?) he)) with ha_ _ _;rw [ha_];exact g3_)⟩
theorem k92_mkF (W:World) (ok:Nat→Prop) (x:S92) {A2:Option Addr} {c2:Nat} (l2:x.f1.f1.length≤c2) (g2:Kd.F (Kd.int .i64) W ok A2 x.f1.f1.length x.f1.f1) {A3:Option Addr} {c3:Nat} (l3:x.f1.f2.length≤c3) (g3:Kd.F k90 W ok A3 x.f1.f2.length x.f1.f2):Kd.FK k92 W ok x [.bool x.f0,.int .i64 x.f1.f0,.slice A2 x.f1.f1.length c2,.slice A3 x.f1.f2.length c3]:=fun W2 hW=>k92_mk W2 x l2 (g2 W2 hW) l3 (g3 W2 hW)
def rd_T92 (xs:List S92) (i:Int):S92:=xs.getD i.toNat z92
theorem at_T92 {w:World} {A:Option Addr} {n:Nat} {xs:List S92} (h:Kd.C k92 w A n xs) (i:Int) (h0:0≤i) (h1:i < n):∃ ad A2 c2 A3 c3,A=some ad∧w.cell? (ad.add (i.toNat * 4))=some (.bool (rd_T92 xs i).f0)∧w.cell? ⟨(ad.add (i.toNat * 4)).block,(ad.add (i.toNat * 4)).off+1,none⟩=some (.int .i64 (rd_T92 xs i).f1.f0)∧w.cell? ⟨(ad.add (i.toNat * 4)).block,(ad.add (i.toNat * 4)).off+2,none⟩=some (.slice A2 (rd_T92 xs i).f1.f1.length c2)∧w.cell? ⟨(ad.add (i.toNat * 4)).block,(ad.add (i.toNat * 4)).off+3,none⟩=some (.slice A3 (rd_T92 xs i).f1.f2.length c3)∧(rd_T92 xs i).f1.f1.length≤c2∧(Kd.int .i64).C w A2 (rd_T92 xs i).f1.f1.length (rd_T92 xs i).f1.f1∧(rd_T92 xs i).f1.f2.length≤c3∧k90.C w A3 (rd_T92 xs i).f1.f2.length (rd_T92 xs i).f1.f2:=by
 obtain ⟨ad,c,e,_,hK,hc0⟩:=Kd.C_get h z92 i h0 h1
 have hc:∀ j u,c[j]?=some u→w.cell? (ad.add (i.toNat * 4+j))=some u:=hc0
 obtain ⟨A2,c2,A3,c3,rfl,l2,g2,l3,g3⟩:=k92_open hK
 exact ⟨ad,A2,c2,A3,c3,e,hc 0 _ rfl,by rw [← add_field _ _ 1 (by omega)];exact hc 1 _ rfl,by rw [← add_field _ _ 2 (by omega)];exact hc 2 _ rfl,by rw [← add_field _ _ 3 (by omega)];exact hc 3 _ rfl,l2,g2,l3,g3⟩
structure S25 where
 f0:(List S92)
def z25:S25:=⟨([]:List S92)⟩
structure S62 where
 f0:Int
 f1:Int
 f2:Int
def IsS95 (w0 W:World) (g:Nat) (f0:List Int) (f1:Int):Prop:=∃ A0 c0,W.heap[g]?=some (.cells #[.slice A0 f0.length c0,.int .i64 f1] 95 (0,0))∧w0.heap.size≤g∧Kd.C (Kd.int .i64) w0 A0 f0.length f0
theorem IsS95.grown {w0 W:World} {g:Nat} {f0:List Int} {f1:Int} {W1:World} {row:Option Nat} (h:IsS95 w0 W g f0 f1) (hw:W.grownBy W1 row) (hne:some g ≠ row):IsS95 w0 W1 g f0 f1:=by
 obtain ⟨A0,c0,hb,hg,hr0⟩:=h
 exact ⟨A0,c0,blk_grown hb hw hne,hg,hr0⟩
theorem IsS95.fresh {w0 W:World} {g:Nat} {f0:List Int} {f1:Int} (h:IsS95 w0 W g f0 f1):∀ k,W.heap.size≤k→k ≠ g:=by
 obtain ⟨A0,c0,hb,hg,hr0⟩:=h
 exact Kd.freshB hb
theorem IsS95.kept {w0 W:World} {g:Nat} {f0:List Int} {f1:Int} {W1:World} {S:Nat→Prop} (h:IsS95 w0 W g f0 f1) (hk:Kept W W1 S) (hne:¬ S g):IsS95 w0 W1 g f0 f1:=by
 obtain ⟨A0,c0,hb,hg,hr0⟩:=h
 exact ⟨A0,c0,blk_kept hb hk hne,hg,hr0⟩
theorem IsS95.below {w0 W:World} {g:Nat} {f0:List Int} {f1:Int} {W1:World} (h:IsS95 w0 W g f0 f1) (hw:Below W.heap.size W W1):IsS95 w0 W1 g f0 f1:=h.grown (grown_of_below hw none) (by simp)
theorem IsS95.alloc {w0 W:World} {g:Nat} {f0:List Int} {f1:Int} (h:IsS95 w0 W g f0 f1) (o:Obj):IsS95 w0 (W.alloc o) g f0 f1:=h.below (wA (Below.refl _ _) o)
theorem IsS95.drewN {w0 W:World} {g:Nat} {f0:List Int} {f1:Int} (h:IsS95 w0 W g f0 f1) (m:Nat):IsS95 w0 (W.drewN m) g f0 f1:=h
theorem IsS95.drew {w0 W:World} {g:Nat} {f0:List Int} {f1:Int} (h:IsS95 w0 W g f0 f1):IsS95 w0 W.drew g f0 f1:=h
theorem IsS95.at_ {w0 W:World} {g:Nat} {f0:List Int} {f1:Int} {w':World} {m:Nat} (hq:W.drewN m=w') (h:IsS95 w0 W g f0 f1):IsS95 w0 w' g f0 f1:=by subst hq;exact IsS95.drewN h m
theorem IsS95.apart {w0 W:World} {g:Nat} {f0:List Int} {f1:Int} {α:Type} {d:Kd α} {e:Nat} {base:Nat} {ok:Nat→Prop} {v:Value} {xs:List α} (h:IsS95 w0 W g f0 f1) (ho:d.R e W base ok v xs) (ht:∀ q,q∈e :: d.E→q ≠ 95):d.R e W base (fun k=>ok k∧k ≠ g) v xs:=by
 obtain ⟨A0,c0,hb,hg,hr0⟩:=h
 exact Kd.R_types ho hb ht
theorem IsS95.own_ne {w0 W:World} {g:Nat} {f0:List Int} {f1:Int} {α:Type} {d:Kd α} {e:Nat} {base:Nat} {ok:Nat→Prop} {v:Value} {xs:List α} (h:IsS95 w0 W g f0 f1) (ho:d.R e W base ok v xs) (ht:e ≠ 95):some g ≠ v.ownBlock:=by
 obtain ⟨A0,c0,hb,hg,hr0⟩:=h
 exact Kd.R_ne ho hb ht
theorem IsS95.lt {w0 W:World} {g:Nat} {f0:List Int} {f1:Int} (h:IsS95 w0 W g f0 f1):g < W.heap.size:=by
 obtain ⟨A0,c0,hb,hg,hr0⟩:=h
 exact blk_lt hb
theorem IsS95.ge {w0 W:World} {g:Nat} {f0:List Int} {f1:Int} (h:IsS95 w0 W g f0 f1):w0.heap.size≤g:=by
 obtain ⟨A0,c0,hb,hg,hr0⟩:=h
 exact hg
theorem IsS95.far {w0 W:World} {g:Nat} {f0:List Int} {f1:Int} {p:Addr} (h:IsS95 w0 W g f0 f1) (hne:g ≠ p.block) (u:Value):IsS95 w0 (W.setCell p u) g f0 f1:=by
 obtain ⟨A0,c0,hb,hg,hr0⟩:=h
 exact ⟨A0,c0,blk_far hb hne u,hg,hr0⟩
theorem cellS95_0 {W:World} {g:Nat} {A0:Option Addr} {c0:Nat} {f0:List Int} {f1:Int} (h:W.heap[g]?=some (.cells #[.slice A0 f0.length c0,.int .i64 f1] 95 (0,0))):W.cell? ⟨g,0,none⟩=some (.slice A0 f0.length c0):=(kC h 0).trans rfl
theorem cellS95_1 {W:World} {g:Nat} {A0:Option Addr} {c0:Nat} {f0:List Int} {f1:Int} (h:W.heap[g]?=some (.cells #[.slice A0 f0.length c0,.int .i64 f1] 95 (0,0))):W.cell? ⟨g,1,none⟩=some (.int .i64 f1):=(kC h 1).trans rfl
theorem IsS95.set_1 {w0 W:World} {g:Nat} {f0:List Int} {f1:Int} (h:IsS95 w0 W g f0 f1) (x:Int):IsS95 w0 (W.setCell ⟨g,1,none⟩ (.int .i64 x)) g f0 x:=by
 obtain ⟨A0,c0,hb,hg,hr0⟩:=h
 exact ⟨A0,c0,by simpa using blk_set hb 1 (.int .i64 x),hg,hr0⟩
def qmake_New.f (l0:List Int):Option (List Int × Int):=if 0≤(mn (l0.length:Int) 400) then (if (mn (l0.length:Int) 400)≤(l0.length:Int) then (some (l0.take ((mn (l0.length:Int) 400):Int).toNat,0)) else (none)) else (none)
set_option maxHeartbeats 8000000 in
set_option maxRecDepth 100000 in
theorem qmake_New.calls (A0:Option Addr) (c0:Nat) (l0:List Int) (r1:List Int) (r2:Int) (w0 w:World) (hB:Below w0.heap.size w0 w) (hr0:Kd.C (Kd.int .i64) w0 A0 l0.length l0) (hc0:l0.length≤c0) (h:qmake_New.f l0=some (r1,r2)) :
  Calls Tryz.prog 20 #[.slice A0 l0.length c0] w fun e w'=>∃ g_:Nat,e=.returned (.pointer (some ⟨g_,0,none⟩))∧IsS95 w0 w' g_ r1 r2∧Below w0.heap.size w0 w'∧Below w.heap.size w w':=by
 have hu95:=Tryz.underlying95
 have HR0:=Aside0.mk hr0
 have HC0:=Aside0.mk hc0
 clear hr0 hc0
 have HBW:=Aside0.mk (Below.refl w.heap.size w)
 have HW0:=Aside0.mk hB.size
 have HB:=Aside0.mk hB
 clear hB
 have H:(if 0≤(mn (l0.length:Int) 400) then (if (mn (l0.length:Int) 400)≤(l0.length:Int) then (some (l0.take ((mn (l0.length:Int) 400):Int).toNat,0)) else (none)) else (none))=some (r1,r2):=h
 clear h
 obtain ⟨ji2,hji2⟩:∃ j_:Int,(mn (l0.length:Int) 400)=j_:=⟨_,rfl⟩
 replace H:(if 0≤(ji2) then (if (ji2)≤(l0.length:Int) then (some (l0.take ((ji2):Int).toNat,0)) else (none)) else (none))=some (r1,r2):=by first|(rw [hji2] at H;exact H)|(simp only [hji2] at H ⊢;exact H)
 (try (have hji2h:ji2≤400:=by (rw [← hji2];unfold mn;(repeat' split) <;> omega)))
 (try (have hji2g:ji2≤64:=by omega))
 (try (have hji2l:0≤ji2:=by (rw [← hji2];unfold mn;(repeat' split) <;> omega)))
 (try (have hji2m:0≤ji2:=by omega))
 have hji2_:(if 400 < (l0.length:Int) then 400 else (l0.length:Int))=ji2:=hji2
 by_cases c3:0≤(ji2)
 ·rw [if_pos c3] at H
  have c3b0:=eq_true c3
  have c3b1:decide (0≤(ji2))=true:=decide_eq_true c3
  clear c3
  by_cases c4:(ji2)≤(l0.length:Int)
  ·rw [if_pos c4] at H
   have c4b0:=eq_true c4
   have c4b1:decide ((ji2)≤(l0.length:Int))=true:=decide_eq_true c4
   clear c4
   simp only [Option.some.injEq,Prod.mk.injEq] at H
   obtain ⟨rfl,rfl⟩:=H
   obtain ⟨i05,hi05,_,hsz5,_⟩:=info_parts info3
   obtain ⟨hcut5,hA5,hC5⟩:=print_take_of (P:=Tryz.prog) (Value.int .i64) 0 22 3 .i64 Tryz.underlying22 hi05 hsz5 A0 c0 l0 (ji2) (of_decide_eq_true (by first|(with_reducible assumption)|assumption)) (of_decide_eq_true (by first|(with_reducible assumption)|assumption)) HC0.out
   have HR260:=Aside0.mk (Kd.C_of_reads (h1:=fun _=>rfl) (hA5 _ (Kd.reads_of_C HR0.out)))
   have HC260:=Aside0.mk hC5
   clear hA5 hC5 hi05 hsz5
   go_enter Tryz.func20,Tryz.ntmps20
   go_wp2_with (first|((with_reducible refine gate_dst (N:=9) rfl ?_);refine box_event ?hg (N:=9) ?hd (cs:=#[.slice A0 (l0.take ((ji2):Int).toNat).length c0,.int .i64 0]) (t:=95) ?hr ?_;(case hd=>rfl);(case hg=>rfl);(case hr=>first|(go_simp;done)|(go_simp;rfl));intro gb261 hg w6 hbox hb;have n0_:=Aside0.mk (below_step HBW.out hb);have n1_:=Aside0.mk (below_step (by repeat (first|(with_reducible first|exact HB.out|apply wA|apply wN|apply wD)|exact HB.out)) hb);have n2_:=Aside0.mk (hbox);have n3_:=Aside0.mk ((by rw [hg];exact (below_size (by repeat (first|(with_reducible first|exact HBW.out|apply wA|apply wN|apply wD)|exact HBW.out))):w.heap.size≤gb261));have n4_:=Aside0.mk ((Nat.le_trans HW0.out (by rw [hg];exact (below_size (by repeat (first|(with_reducible first|exact HBW.out|apply wA|apply wN|apply wD)|exact HBW.out))):w.heap.size≤gb261):w0.heap.size≤gb261));clear HBW;clear HB;have HBW:=n0_;have HB:=n1_;have BK261:=n2_;have GW261:=n3_;have GE261:=n4_;clear n0_ n1_ n2_ n3_ n4_;clear hb hbox hg))
   go_ret
   exact ⟨_,rfl,(show IsS95 w0 _ gb261 (l0.take ((ji2):Int).toNat) 0 from ⟨_,_,by (with_reducible repeat (first|refine kN ?_ _|refine kD ?_|refine kA ?_ _));exact BK261.out,GE261.out,HR260.out⟩),by repeat (first|(with_reducible first|exact HB.out|apply wA|apply wN|apply wD|refine wS ?_ GE261.out)|exact HB.out),by repeat (first|(with_reducible first|exact HBW.out|apply wA|apply wN|apply wD|refine wS ?_ GW261.out)|exact HBW.out)⟩
  ·rw [if_neg c4] at H
   exact absurd H (by simp)
 ·rw [if_neg c3] at H
  exact absurd H (by simp)
end Go.Proofs.YtkjlcbfjllpcnaaGreat.X
namespace Go.Proofs.YtkjlcbfjllpcnaaGreat.X
open Go.RowKit Go.Proofs.YtkjlcbfjllpcnaaGreatW.PrintWords Go.Proofs.YtkjlcbfjllpcnaaGreatW.PrintLast Go.Proofs.YtkjlcbfjllpcnaaGreatW.PrintMore
set_option linter.unusedVariables false
theorem Z {p:Prop} (h:p):Aside0 p:=⟨h⟩
theorem pB {P:Prop} (h:P:=by repeat (first|(with_reducible first|exact HB.out|apply wA|apply wN|apply wD|refine wS (w:=w0) ?_ (Aside0.out (by assumption))|refine wS (w:=w) ?_ (Aside0.out (by assumption))|refine wS ?_ (IsS95.ge HI0.out))|exact HB.out)):P:=h
theorem pI {P:Prop} (h:P:=by repeat (first|(with_reducible first|exact HI0.out|apply IsS95.alloc|apply IsS95.drewN|apply IsS95.drew|apply IsS95.set_1|refine IsS95.far ?_ (Aside0.out (by assumption)) _)|exact HI0.out)):P:=h
theorem pH {P:Prop} (h:P:=by repeat (first|(with_reducible first|exact HK.out|apply KeepBut.set_|apply keep_drewN|apply keep_drew|apply keep_alloc|refine eF (w:=w) ?_ (Aside0.out (by assumption)) _)|exact HK.out)):P:=h
theorem pR {P Q:Prop} (q:Aside0 Q) (h:Q→P:=by (intro h_;(with_reducible repeat (first|apply Kd.R_alloc|apply Kd.R_drewN|apply Kd.R_drew));exact h_)):P:=h q.out
theorem pK {P Q:Prop} (q:Aside0 Q) (h:Q→P:=by (intro h_;(with_reducible repeat (first|refine kN ?_ _|refine kD ?_|refine kA ?_ _));exact h_)):P:=h q.out
theorem pE {P:Prop} (h:P:=by first|rfl|(simp;done)|(simp [*];done)):P:=h
theorem pN {P:Prop} (h:P:=by first|exact Kd.R_nil _ _ _ _ _|exact Kd.N_nil _ _ _ _ _|exact Kd.V_nil _ _ _ _ _|exact Kd.Q_nil _ _ _ _ _|exact Kd.S_nil _ _ _ _ _):P:=h
theorem pF {P:Prop} (h:P:=by first|rfl|(simp [errW_none,errW_some] <;> rfl)|(simp [*,errW_none,errW_some] <;> rfl)):P:=h
theorem pG {P:Prop} (h:P:=by (try simp only [List.map_toArray,List.map_cons,List.map_nil]);first|done|rfl|(simp only [List.length_drop,List.length_take];rfl)):P:=h
theorem pC {α:Type} {d:Kd α} {w w1:World} {A:Option Addr} {n:Nat} {xs:List α} (q:Aside0 (d.C w A n xs)) (h:Below w.heap.size w w1:=by repeat (first|(with_reducible first|exact HB.out|apply wA|apply wN|apply wD|refine wS (w:=w0) ?_ (Aside0.out (by assumption))|refine wS (w:=w) ?_ (Aside0.out (by assumption))|refine wS ?_ (IsS95.ge HI0.out))|exact HB.out)):d.C w1 A n xs:=Kd.C_below q.out h
theorem pS {w W:World} {g gb:Nat} (hg:gb=W.heap.size) (h:KeepBut w W g none:=by repeat (first|(with_reducible first|exact HK.out|apply KeepBut.set_|apply keep_drewN|apply keep_drew|apply keep_alloc|refine eF (w:=w) ?_ (Aside0.out (by assumption)) _)|exact HK.out)):w.heap.size≤gb:=by rw [hg];exact keep_size h
theorem pT {w W:World} {gb:Nat} (hg:gb=W.heap.size) (h:Below w.heap.size w W:=by repeat (first|(with_reducible first|exact HB.out|apply wA|apply wN|apply wD|refine wS (w:=w0) ?_ (Aside0.out (by assumption))|refine wS (w:=w) ?_ (Aside0.out (by assumption))|refine wS ?_ (IsS95.ge HI0.out))|exact HB.out)):w.heap.size≤gb:=by rw [hg];exact below_size h
theorem pL {W:World} {g gb:Nat} {o:Obj} (hg:gb=W.heap.size) (h:W.heap[g]?=some o):g ≠ gb:=by rw [hg];exact Nat.ne_of_lt (blk_lt h)
theorem pM {W:World} {g gb:Nat} {o:Obj} (hg:gb=W.heap.size) (h:W.heap[g]?=some o):gb ≠ g:=by rw [hg];exact Nat.ne_of_gt (blk_lt h)
theorem pL71 {w0 W:World} {g gb:Nat} {f0:List Int} {f1:Int} (hg:gb=W.heap.size) (h:IsS95 w0 W g f0 f1):g ≠ gb:=by rw [hg];exact Nat.ne_of_lt (IsS95.lt h)
theorem pM71 {w0 W:World} {g gb:Nat} {f0:List Int} {f1:Int} (hg:gb=W.heap.size) (h:IsS95 w0 W g f0 f1):gb ≠ g:=by rw [hg];exact Nat.ne_of_gt (IsS95.lt h)
theorem pQ {P Q:Prop} (h:Q) (i:Q→P:=by (intro h_;(with_reducible repeat (first|refine kN ?_ _|refine kD ?_|refine kA ?_ _));exact h_)):P:=i h
theorem pP {P Q:Prop} (h:Q) (i:Q→P:=by (intro h_;(with_reducible repeat (first|apply Kd.R_alloc|apply Kd.R_drewN|apply Kd.R_drew));exact h_)):P:=i h
theorem pX {w W:World} {a:Addr} {v:Value} (q:Aside0 (Below w.heap.size w W)) (h:w.cell? a=some v):W.cell? a=some v:=(q.out.cell (World.block_lt_of_cell? w _ h)).trans h
theorem pV {w:World} {g:Nat} {t:TypeId} {cs:Array Value} (q:Aside0 (w.heap[g]?=some (.cells cs t (0,0)))) (v:Value) (i:Nat) (e:cs[i]?=some v):w.cell? ⟨g,i,none⟩=some v:=(kC q.out i).trans e
theorem pA {P:Prop} (h:P:=by first|(with_reducible assumption)|assumption):P:=h
theorem pD {P:Prop} (h:P:=by repeat (first|exact Drawn0.refl _|apply Drawn0.step)):P:=h
theorem pU {P:Prop} (h:P:=by kernel_rfl):P:=h
theorem pO {α β:Type _} {x:Option α} {f:α→Option β} {b:β} (h:x.bind f=some b):∃ a,x=some a∧f a=some b:=Option.bind_eq_some_iff.mp h
theorem p1 {w:World} {g:Nat} {t:TypeId} {a:Value} (q:Aside0 (w.heap[g]?=some (.cells #[a] t (0,0)))):w.cell? ⟨g,0,none⟩=some a∧w.frozen? ⟨g,0,none⟩=false:=⟨(kC q.out 0).trans rfl,kF q.out 0⟩
theorem p2 {w:World} {g:Nat} {t:TypeId} {a b:Value} (q:Aside0 (w.heap[g]?=some (.cells #[a,b] t (0,0)))):w.cell? ⟨g,0,none⟩=some a∧w.cell? ⟨g,1,none⟩=some b∧w.frozen? ⟨g,0,none⟩=false∧w.frozen? ⟨g,1,none⟩=false:=⟨(kC q.out 0).trans rfl,(kC q.out 1).trans rfl,kF q.out 0,kF q.out 1⟩
theorem p3 {w:World} {g:Nat} {t:TypeId} {a b c:Value} (q:Aside0 (w.heap[g]?=some (.cells #[a,b,c] t (0,0)))):w.cell? ⟨g,0,none⟩=some a∧w.cell? ⟨g,1,none⟩=some b∧w.cell? ⟨g,2,none⟩=some c∧w.frozen? ⟨g,0,none⟩=false∧w.frozen? ⟨g,1,none⟩=false∧w.frozen? ⟨g,2,none⟩=false:=⟨(kC q.out 0).trans rfl,(kC q.out 1).trans rfl,(kC q.out 2).trans rfl,kF q.out 0,kF q.out 1,kF q.out 2⟩
theorem p4 {w:World} {g:Nat} {t:TypeId} {a b c d:Value} (q:Aside0 (w.heap[g]?=some (.cells #[a,b,c,d] t (0,0)))):w.cell? ⟨g,0,none⟩=some a∧w.cell? ⟨g,1,none⟩=some b∧w.cell? ⟨g,2,none⟩=some c∧w.cell? ⟨g,3,none⟩=some d∧w.frozen? ⟨g,0,none⟩=false∧w.frozen? ⟨g,1,none⟩=false∧w.frozen? ⟨g,2,none⟩=false∧w.frozen? ⟨g,3,none⟩=false:=⟨(kC q.out 0).trans rfl,(kC q.out 1).trans rfl,(kC q.out 2).trans rfl,(kC q.out 3).trans rfl,kF q.out 0,kF q.out 1,kF q.out 2,kF q.out 3⟩
end Go.Proofs.YtkjlcbfjllpcnaaGreat.X
namespace Go.Proofs.YtkjlcbfjllpcnaaGreat.X
open Go.RowKit Go.Proofs.YtkjlcbfjllpcnaaGreatW.PrintWords Go.Proofs.YtkjlcbfjllpcnaaGreatW.PrintLast Go.Proofs.YtkjlcbfjllpcnaaGreatW.PrintMore
attribute [local go_sem] max2_int min2_int max_two min_two max_three min_three max_four min_four
set_option linter.unusedVariables false
set_option linter.unusedSimpArgs false
def qmake_Tape_N.f (s0_0:List Int) (s0_1:Int) (a1:Int):Option (Int × Int):=if s0_1 ≥ (s0_0.length:Int) then (some (0,s0_1)) else (if 0≤s0_1 then (if s0_1 < (s0_0.length:Int) then (if a1=0 then (none) else (if (Int.tmod (rd s0_0 s0_1) a1) < 0 then (some (wrap64 ((Int.tmod (rd s0_0 s0_1) a1)+a1),wrap64 (s0_1+1))) else (some (Int.tmod (rd s0_0 s0_1) a1,wrap64 (s0_1+1))))) else (none)) else (none))
set_option maxHeartbeats 8000000 in
set_option maxRecDepth 100000 in
theorem qmake_Tape_N.calls (g:Nat) (s0_0:List Int) (s0_1:Int) (a1:Int) (r1:Int) (r2:Int) (w0 w:World) (hI:IsS95 w0 w g s0_0 s0_1) (hB:Below w0.heap.size w0 w) (h:qmake_Tape_N.f s0_0 s0_1 a1=some (r1,r2)) :
  Calls Tryz.prog 36 #[.pointer (some ⟨g,0,none⟩),.int .i64 a1] w fun e w'=>e=.returned (.int .i64 r1)∧IsS95 w0 w' g s0_0 r2∧Below w0.heap.size w0 w'∧KeepBut w w' g none:=by
 have HI0:=Z hI
 have HK:=Z (KeepBut.refl w g none)
 have HL:=Z hB.size
 clear hI
 have HW0:=Z hB.size
 have HB:=Z hB
 clear hB
 have H:(if s0_1 ≥ (s0_0.length:Int) then (some (0,s0_1)) else (if 0≤s0_1 then (if s0_1 < (s0_0.length:Int) then (if a1=0 then (none) else (if (Int.tmod (rd s0_0 s0_1) a1) < 0 then (some (wrap64 ((Int.tmod (rd s0_0 s0_1) a1)+a1),wrap64 (s0_1+1))) else (some (Int.tmod (rd s0_0 s0_1) a1,wrap64 (s0_1+1))))) else (none)) else (none)))=some (r1,r2):=h
 clear h
 by_cases c3:s0_1 ≥ (s0_0.length:Int)
 ·rw [if_pos c3] at H
  have c3b0:decide ((s0_0.length:Int)≤s0_1)=true:=decide_eq_true c3
  clear c3
  simp only [Option.some.injEq,Prod.mk.injEq] at H
  obtain ⟨rfl,rfl⟩:=H
  obtain ⟨ASz4_0,cSz4_0,HGz4,hgz4,HSz4_0⟩:=HI0.out
  have hcz4_0:=cellS95_0 HGz4
  have hcz4_1:=cellS95_1 HGz4
  have hfz4_1:=kF HGz4 1
  clear HGz4 hgz4
  go_enter Tryz.func36,Tryz.ntmps36
  go_wp2
  repeat (go_quiet (fail);try go_wp2)
  go_ret
  exact ⟨pF,pI,pB,pH⟩
 ·rw [if_neg c3] at H
  have c3b0:decide ((s0_0.length:Int)≤s0_1)=false:=decide_eq_false c3
  clear c3
  by_cases c5:0≤s0_1
  ·rw [if_pos c5] at H
   have c5b0:decide (0≤s0_1)=true:=decide_eq_true c5
   clear c5
   by_cases c6:s0_1 < (s0_0.length:Int)
   ·rw [if_pos c6] at H
    have c6b0:decide (s0_1 < (s0_0.length:Int))=true:=decide_eq_true c6
    clear c6
    by_cases c7:a1=0
    ·rw [if_pos c7] at H
     exact absurd H (by simp)
    ·rw [if_neg c7] at H
     have c7b0:(a1 == 0)=false:=beq_eq_false_iff_ne.mpr c7
     have c7b1:(a1 != 0)=true:=bne_iff_ne.mpr c7
     by_cases c8:(Int.tmod (rd s0_0 s0_1) a1) < 0
     ·rw [if_pos c8] at H
      have c8b0:decide ((Int.tmod (rd s0_0 s0_1) a1) < 0)=true:=decide_eq_true c8
      clear c8
      simp only [Option.some.injEq,Prod.mk.injEq] at H
      obtain ⟨rfl,rfl⟩:=H
      obtain ⟨ASz9_0,cSz9_0,HGz9,hgz9,HSz9_0⟩:=HI0.out
      have hcz9_0:=cellS95_0 HGz9
      have hcz9_1:=cellS95_1 HGz9
      have hfz9_1:=kF HGz9 1
      clear HGz9 hgz9
      have p262:0≤(s0_1:Int):=of_decide_eq_true pA
      have q262:s0_1 < (s0_0.length:Int):=of_decide_eq_true pA
      obtain ⟨ad262,e262,hx262_0⟩:=Kd.at_int HSz9_0 s0_1 p262 q262
      cases e262
      replace hx262_0:=pw_cell_below HB.out hx262_0
      replace p262:=eq_true p262
      replace q262:=eq_true q262
      go_enter Tryz.func36,Tryz.ntmps36
      go_wp2
      repeat (go_quiet (fail);try go_wp2)
      go_ret
      exact ⟨pF,pI,pB,pH⟩
     ·rw [if_neg c8] at H
      have c8b0:decide ((Int.tmod (rd s0_0 s0_1) a1) < 0)=false:=decide_eq_false c8
      clear c8
      simp only [Option.some.injEq,Prod.mk.injEq] at H
      obtain ⟨rfl,rfl⟩:=H
      obtain ⟨ASz10_0,cSz10_0,HGz10,hgz10,HSz10_0⟩:=HI0.out
      have hcz10_0:=cellS95_0 HGz10
      have hcz10_1:=cellS95_1 HGz10
      have hfz10_1:=kF HGz10 1
      clear HGz10 hgz10
      have p262:0≤(s0_1:Int):=of_decide_eq_true pA
      have q262:s0_1 < (s0_0.length:Int):=of_decide_eq_true pA
      obtain ⟨ad262,e262,hx262_0⟩:=Kd.at_int HSz10_0 s0_1 p262 q262
      cases e262
      replace hx262_0:=pw_cell_below HB.out hx262_0
      replace p262:=eq_true p262
      replace q262:=eq_true q262
      go_enter Tryz.func36,Tryz.ntmps36
      go_wp2
      repeat (go_quiet (fail);try go_wp2)
      go_ret
      exact ⟨pF,pI,pB,pH⟩
   ·rw [if_neg c6] at H
    exact absurd H (by simp)
  ·rw [if_neg c5] at H
   exact absurd H (by simp)
def qmake_Tape_Range.f (s0_0:List Int) (s0_1:Int) (a1:Int) (a2:Int):Option (Int × Int):=(qmake_Tape_N.f s0_0 s0_1 (wrap64 ((wrap64 (a2 - a1))+1))).bind fun bt263=>(some (wrap64 (a1+bt263.1),bt263.2))
set_option maxHeartbeats 8000000 in
set_option maxRecDepth 100000 in
theorem qmake_Tape_Range.calls (g:Nat) (s0_0:List Int) (s0_1:Int) (a1:Int) (a2:Int) (r1:Int) (r2:Int) (w0 w:World) (hI:IsS95 w0 w g s0_0 s0_1) (hB:Below w0.heap.size w0 w) (h:qmake_Tape_Range.f s0_0 s0_1 a1 a2=some (r1,r2)) :
  Calls Tryz.prog 90 #[.pointer (some ⟨g,0,none⟩),.int .i64 a1,.int .i64 a2] w fun e w'=>e=.returned (.int .i64 r1)∧IsS95 w0 w' g s0_0 r2∧Below w0.heap.size w0 w'∧KeepBut w w' g none:=by
 have HI0:=Z hI
 have HK:=Z (KeepBut.refl w g none)
 have HL:=Z hB.size
 clear hI
 have HW0:=Z hB.size
 have HB:=Z hB
 clear hB
 have H:((qmake_Tape_N.f s0_0 s0_1 (wrap64 ((wrap64 (a2 - a1))+1))).bind fun bt263=>(some (wrap64 (a1+bt263.1),bt263.2)))=some (r1,r2):=h
 clear h
 replace H:=pO H
 obtain ⟨⟨t263,t264⟩,A40,H⟩:=H
 try dsimp only at H
 have A4:=Z A40
 clear A40
 simp only [Option.some.injEq,Prod.mk.injEq] at H
 obtain ⟨rfl,rfl⟩:=H
 go_enter Tryz.func90,Tryz.ntmps90
 go_wp2_with (first|((with_reducible refine gate_callee (f:=36) rfl ?_);refine goesL_ (some 13) rfl rfl Tryz.func36 pU rfl #[.pointer (some ⟨g,0,none⟩),.int .i64 (wrap64 ((wrap64 (a2 - a1))+1))] rfl pG ?_;(with_reducible refine (qmake_Tape_N.calls g s0_0 s0_1 (wrap64 ((wrap64 (a2 - a1))+1)) t263 t264 w0 _ ?side1 ?side2 A4.out).mono ?_);(case side1=>exact pI);(case side2=>exact pB);rintro e w5 ⟨rfl,hi,hb,hk⟩;refine ⟨_,rfl,?_⟩;have n0_:=Z (KeepBut.trans pH hk (.inl rfl));have n1_:=Z (hb);have n2_:=Z (hi);clear HK HB HI0;have HK:=n0_;have HB:=n1_;have HI0:=n2_;clear n0_ n1_ n2_;(try clear hb);(try clear hb2);(try clear hk);(try clear hi)))
 go_ret
 exact ⟨pF,pI,pB,pH⟩
mutual
def qref02_Depth.l0:Nat→Int→List (S90)→Int→Int→Option (Int)
 | 0,_,_,_,_=>none
 | k+1,x3,x7,x8,x9=>if x9 < x8 then (if 0≤x9 then (if x9 < (x7.length:Int) then ((qref02_Depth.f k ((rd_T90 x7 x9).f0) ((rd_T90 x7 x9).f1) ((rd_T90 x7 x9).f2)).bind fun t280=>(qref02_Depth.l0 k (mx x3 t280) x7 x8 (wrap64 (x9+1)))) else (none)) else (none)) else (some (wrap64 (x3+1)))
def qref02_Depth.f:Nat→Int→List Int→List (S90)→Option (Int)
 | 0,_,_,_=>none
 | k+1,a0_0,l0_1,l0_2=>qref02_Depth.l0 k 0 l0_2 (l0_2.length:Int) 0
end
set_option maxHeartbeats 8000000 in
set_option maxRecDepth 100000 in
theorem qref02_Depth.calls (k:Nat):∀ (a0_0:Int) (A0_1:Option Addr) (c0_1:Nat) (l0_1:List Int) (A0_2:Option Addr) (c0_2:Nat) (l0_2:List (S90)) (r:Int) (w:World) (hr0_1:Kd.C (Kd.int .i64) w A0_1 l0_1.length l0_1) (hc0_1:l0_1.length≤c0_1) (hr0_2:Kd.C k90 w A0_2 l0_2.length l0_2) (hc0_2:l0_2.length≤c0_2) (h:qref02_Depth.f k a0_0 l0_1 l0_2=some r),
  Calls Tryz.prog 185 #[.agg #[.int .i64 a0_0,.slice A0_1 l0_1.length c0_1,.slice A0_2 l0_2.length c0_2]] w fun e w'=>e=.returned (.int .i64 r)∧Below w.heap.size w w':=by
 induction k using Nat.strongRecOn with
 | _ k ih =>
 intro a0_0 A0_1 c0_1 l0_1 A0_2 c0_2 l0_2 r w hr0_1 hc0_1 hr0_2 hc0_2 h
 cases k with
 | zero=>exact absurd h (by simp [qref02_Depth.f])
 | succ k =>
 simp only [qref02_Depth.f] at h
 have hu90:=Tryz.underlying90
 have HR0_1:=Z hr0_1
 have HC0_1:=Z hc0_1
 clear hr0_1 hc0_1
 have HR0_2:=Z hr0_2
 have HC0_2:=Z hc0_2
 clear hr0_2 hc0_2
 have HB:=Z (Below.refl w.heap.size w)
 have H:(qref02_Depth.l0 k 0 l0_2 (l0_2.length:Int) 0)=some r:=h
 clear h
 have H':=Z H
 clear H
 go_enter Tryz.func185,Tryz.ntmps185
 go_wp2_with (first|((with_reducible refine gate_dst (N:=1) rfl ?_);refine box_event ?hg (N:=1) ?hd (cs:=#[.int .i64 a0_0,.slice A0_1 l0_1.length c0_1,.slice A0_2 l0_2.length c0_2]) (t:=90) ?hr ?_;(case hd=>rfl);(case hg=>rfl);(case hr=>first|(go_simp;done)|(go_simp;rfl));intro gb277 hg w2 hbox hb;have n0_:=Z (below_step pB hb);have BK277:=Z (hbox);have GW277:=Z ((pT hg:w.heap.size≤gb277));have GE277:=Z ((pT hg:w.heap.size≤gb277));clear HB;have HB:=n0_;clear n0_ hb hbox hg;obtain ⟨hcz3_0,hcz3_1,hcz3_2,hfz3_0,hfz3_1,hfz3_2⟩:=p3 BK277))
 go_loopg [3,9] k (fun kq v3 v9 w'=>∃ (x3_1:Int) (x9_1:Int),v3=.int .i64 x3_1∧v9=.int .i64 x9_1∧Aside0 (qref02_Depth.l0 kq x3_1 l0_2 (l0_2.length:Int) x9_1=some r)∧Aside0 (kq≤k)∧Aside0 (w'.heap[gb277]?=some (.cells #[.int .i64 a0_0,(.slice A0_1 l0_1.length c0_1),(.slice A0_2 l0_2.length c0_2)] 90 (0,0)))∧Aside0 (Below w.heap.size w w'))
 case atStart=>exact ⟨(0),(0),pE,pE,H',⟨Nat.le_refl _⟩,⟨pK BK277⟩,⟨pB⟩⟩
 case round =>
  clear H'
  try clear c1
  try clear p2
  try clear hcz3_0
  try clear hcz3_1
  try clear hcz3_2
  try clear hfz3_0
  try clear hfz3_1
  try clear hfz3_2
  obtain ⟨x3_1,x9_1,rfl,rfl,HA,HK1,BK277,HB⟩:=hrel
  cases gk with
  | zero=>exact absurd HA.out (by simp [qref02_Depth.l0])
  | succ k1 =>
   have H:=HA.out
   clear HA
   simp only [qref02_Depth.l0] at H
   by_cases c4:x9_1 < (l0_2.length:Int)
   ·rw [if_pos c4] at H
    have c4b0:decide (x9_1 < (l0_2.length:Int))=true:=decide_eq_true c4
    clear c4
    by_cases c5:0≤x9_1
    ·rw [if_pos c5] at H
     have c5b0:decide (0≤x9_1)=true:=decide_eq_true c5
     clear c5
     by_cases c6:x9_1 < (l0_2.length:Int)
     ·rw [if_pos c6] at H
      have c6b0:decide (x9_1 < (l0_2.length:Int))=true:=decide_eq_true c6
      clear c6
      replace H:=pO H
      obtain ⟨t280,A70,H⟩:=H
      try dsimp only at H
      have A7:=Z A70
      clear A70
      obtain ⟨ji8,hji8⟩:∃ j_:Int,(mx x3_1 t280)=j_:=⟨_,rfl⟩
      replace H:(qref02_Depth.l0 k1 ji8 l0_2 (l0_2.length:Int) (wrap64 (x9_1+1)))=some r:=by first|(rw [hji8] at H;exact H)|(simp only [hji8] at H ⊢;exact H)
      (try rw [hji8] at A7)
      have hji8_:(if x3_1 < t280 then t280 else x3_1)=ji8:=hji8
      have H':=Z H
      clear H
      have p278:0≤(x9_1:Int):=of_decide_eq_true pA
      have q278:x9_1 < (l0_2.length:Int):=of_decide_eq_true pA
      obtain ⟨ad278,A278_1,c278_1,A278_2,c278_2,e278,hx278_0,hx278_1,hx278_2,hl278_1,hi278_1,hl278_2,hi278_2⟩:=at_T90 HR0_2.out x9_1 p278 q278
      cases e278
      replace hx278_0:=pX HB hx278_0
      replace hx278_1:=pX HB hx278_1
      replace hx278_2:=pX HB hx278_2
      have HR278_1:=Z hi278_1
      have HC278_1:=Z hl278_1
      clear hi278_1 hl278_1
      have HR278_2:=Z hi278_2
      have HC278_2:=Z hl278_2
      clear hi278_2 hl278_2
      replace p278:=eq_true p278
      replace q278:=eq_true q278
      go_wp2_with (first|((with_reducible refine gate_dst (N:=5) rfl ?_);refine box_event ?hg (N:=5) ?hd (cs:=#[.int .i64 0,.slice none 0 0,.slice none 0 0]) (t:=90) ?hr ?_;(case hd=>rfl);(case hg=>rfl);(case hr=>first|(go_simp;done)|(go_simp;rfl));intro gb279 hg w9 hbox hb;have n0_:=Z (blk_below (g:=gb277) (o:=.cells #[.int .i64 a0_0,.slice A0_1 l0_1.length c0_1,.slice (some ad278) l0_2.length c0_2] 90 (0,0)) (pK BK277) hb);have n1_:=Z (below_step pB hb);have BK279:=Z (hbox);have GW279:=Z ((pT hg:w.heap.size≤gb279));have GE279:=Z ((pT hg:w.heap.size≤gb279));have NB277_279:=Z ((pL hg (pK BK277):gb277 ≠ gb279));have NB279_277:=Z ((pM hg (pK BK277):gb279 ≠ gb277));clear BK277 HB;have BK277:=n0_;have HB:=n1_;clear n0_ n1_ hb hbox hg;have hnb10:=NB279_277.out;have hnc10:=NB277_279.out;obtain ⟨hcz11_0,hcz11_1,hcz11_2,hfz11_0,hfz11_1,hfz11_2⟩:=p3 BK279)|((with_reducible refine gate_callee (f:=185) rfl ?_);refine goesL_ (some 15) rfl rfl Tryz.func185 pU rfl #[.agg #[.int .i64 ((rd_T90 l0_2 x9_1).f0),.slice A278_1 ((rd_T90 l0_2 x9_1).f1).length c278_1,.slice A278_2 ((rd_T90 l0_2 x9_1).f2).length c278_2]] rfl pG ?_;(with_reducible refine (ih k1 (by have:=HK1.out;omega) ((rd_T90 l0_2 x9_1).f0) _ _ ((rd_T90 l0_2 x9_1).f1) _ _ ((rd_T90 l0_2 x9_1).f2) t280 _ ?side1 ?side2 ?side3 ?side4 A7.out).mono ?_);(case side1=>exact Kd.C_below HR278_1.out pB);(case side2=>exact HC278_1.out);(case side3=>exact Kd.C_below HR278_2.out pB);(case side4=>exact HC278_2.out);rintro e w12 ⟨rfl,hb⟩;refine ⟨_,rfl,?_⟩;replace BK277:=Z (blk_below (g:=gb277) (o:=.cells #[.int .i64 a0_0,.slice A0_1 l0_1.length c0_1,.slice (some ad278) l0_2.length c0_2] 90 (0,0)) (by refine pQ ?_;refine blk_far ?_ NB277_279.out _;refine pQ ?_;refine blk_far ?_ NB277_279.out _;refine pQ ?_;refine blk_far ?_ NB277_279.out _;exact pK BK277) hb);replace BK279:=Z (blk_below (g:=gb279) (o:=.cells #[.int .i64 ((rd_T90 l0_2 x9_1).f0),.slice A278_1 ((rd_T90 l0_2 x9_1).f1).length c278_1,.slice A278_2 ((rd_T90 l0_2 x9_1).f2).length c278_2] 90 (0,0)) (by refine pQ ?_;refine blk_put (cs:=#[.int .i64 ((rd_T90 l0_2 x9_1).f0),.slice A278_1 ((rd_T90 l0_2 x9_1).f1).length c278_1,.slice none 0 0]) ?_ 2 _ rfl;refine pQ ?_;refine blk_put (cs:=#[.int .i64 ((rd_T90 l0_2 x9_1).f0),.slice none 0 0,.slice none 0 0]) ?_ 1 _ rfl;refine pQ ?_;refine blk_put (cs:=#[.int .i64 0,.slice none 0 0,.slice none 0 0]) ?_ 0 _ rfl;exact pK BK279) hb);have n2_:=Z (below_step pB hb);clear HB;have HB:=n2_;clear n2_;(try clear hb);(try clear hb2);(try clear hk);(try clear hi)))
      go_roundg k1
      case measure=>have:=HK1.out;omega
      case rel=>exact ⟨(ji8),(wrap64 (x9_1+1)),(by first|exact pE|(simp only [← hji8] <;> (first|rfl|simp))),pE,H',⟨by have:=HK1.out;omega⟩,⟨pK BK277⟩,⟨pB⟩⟩
     ·rw [if_neg c6] at H
      exact absurd H (by simp)
    ·rw [if_neg c5] at H
     exact absurd H (by simp)
   ·rw [if_neg c4] at H
    have c4b0:decide (x9_1 < (l0_2.length:Int))=false:=decide_eq_false c4
    clear c4
    obtain rfl:=Option.some.inj H
    go_wp2
    go_ret
    exact ⟨pF,pB⟩
mutual
def qref02_Size.l0:Nat→Int→List (S90)→Int→Int→Option (Int)
 | 0,_,_,_,_=>none
 | k+1,x3,x14,x15,x16=>if x16 < x15 then (if 0≤x16 then (if x16 < (x14.length:Int) then ((qref02_Size.f k ((rd_T90 x14 x16).f0) ((rd_T90 x14 x16).f1) ((rd_T90 x14 x16).f2)).bind fun t284=>(qref02_Size.l0 k (wrap64 (x3+t284)) x14 x15 (wrap64 (x16+1)))) else (none)) else (none)) else (some x3)
def qref02_Size.f:Nat→Int→List Int→List (S90)→Option (Int)
 | 0,_,_,_=>none
 | k+1,a0_0,l0_1,l0_2=>qref02_Size.l0 k (wrap64 ((l0_1.length:Int)+(l0_2.length:Int))) l0_2 (l0_2.length:Int) 0
end
set_option maxHeartbeats 8000000 in
set_option maxRecDepth 100000 in
theorem qref02_Size.calls (k:Nat):∀ (a0_0:Int) (A0_1:Option Addr) (c0_1:Nat) (l0_1:List Int) (A0_2:Option Addr) (c0_2:Nat) (l0_2:List (S90)) (r:Int) (w:World) (hr0_1:Kd.C (Kd.int .i64) w A0_1 l0_1.length l0_1) (hc0_1:l0_1.length≤c0_1) (hr0_2:Kd.C k90 w A0_2 l0_2.length l0_2) (hc0_2:l0_2.length≤c0_2) (h:qref02_Size.f k a0_0 l0_1 l0_2=some r),
  Calls Tryz.prog 186 #[.agg #[.int .i64 a0_0,.slice A0_1 l0_1.length c0_1,.slice A0_2 l0_2.length c0_2]] w fun e w'=>e=.returned (.int .i64 r)∧Below w.heap.size w w':=by
 induction k using Nat.strongRecOn with
 | _ k ih =>
 intro a0_0 A0_1 c0_1 l0_1 A0_2 c0_2 l0_2 r w hr0_1 hc0_1 hr0_2 hc0_2 h
 cases k with
 | zero=>exact absurd h (by simp [qref02_Size.f])
 | succ k =>
 simp only [qref02_Size.f] at h
 have hu90:=Tryz.underlying90
 have HR0_1:=Z hr0_1
 have HC0_1:=Z hc0_1
 clear hr0_1 hc0_1
 have HR0_2:=Z hr0_2
 have HC0_2:=Z hc0_2
 clear hr0_2 hc0_2
 have HB:=Z (Below.refl w.heap.size w)
 have H:(qref02_Size.l0 k (wrap64 ((l0_1.length:Int)+(l0_2.length:Int))) l0_2 (l0_2.length:Int) 0)=some r:=h
 clear h
 have H':=Z H
 clear H
 go_enter Tryz.func186,Tryz.ntmps186
 go_wp2_with (first|((with_reducible refine gate_dst (N:=1) rfl ?_);refine box_event ?hg (N:=1) ?hd (cs:=#[.int .i64 a0_0,.slice A0_1 l0_1.length c0_1,.slice A0_2 l0_2.length c0_2]) (t:=90) ?hr ?_;(case hd=>rfl);(case hg=>rfl);(case hr=>first|(go_simp;done)|(go_simp;rfl));intro gb281 hg w2 hbox hb;have n0_:=Z (below_step pB hb);have BK281:=Z (hbox);have GW281:=Z ((pT hg:w.heap.size≤gb281));have GE281:=Z ((pT hg:w.heap.size≤gb281));clear HB;have HB:=n0_;clear n0_ hb hbox hg;obtain ⟨hcz3_0,hcz3_1,hcz3_2,hfz3_0,hfz3_1,hfz3_2⟩:=p3 BK281))
 go_loopg [3,16] k (fun kq v3 v16 w'=>∃ (x3_1:Int) (x16_1:Int),v3=.int .i64 x3_1∧v16=.int .i64 x16_1∧Aside0 (qref02_Size.l0 kq x3_1 l0_2 (l0_2.length:Int) x16_1=some r)∧Aside0 (kq≤k)∧Aside0 (w'.heap[gb281]?=some (.cells #[.int .i64 a0_0,(.slice A0_1 l0_1.length c0_1),(.slice A0_2 l0_2.length c0_2)] 90 (0,0)))∧Aside0 (Below w.heap.size w w'))
 case atStart=>exact ⟨(wrap64 ((l0_1.length:Int)+(l0_2.length:Int))),(0),pE,pE,H',⟨Nat.le_refl _⟩,⟨pK BK281⟩,⟨pB⟩⟩
 case round =>
  clear H'
  try clear c1
  try clear p2
  try clear hcz3_0
  try clear hcz3_1
  try clear hcz3_2
  try clear hfz3_0
  try clear hfz3_1
  try clear hfz3_2
  obtain ⟨x3_1,x16_1,rfl,rfl,HA,HK1,BK281,HB⟩:=hrel
  cases gk with
  | zero=>exact absurd HA.out (by simp [qref02_Size.l0])
  | succ k1 =>
   have H:=HA.out
   clear HA
   simp only [qref02_Size.l0] at H
   by_cases c4:x16_1 < (l0_2.length:Int)
   ·rw [if_pos c4] at H
    have c4b0:decide (x16_1 < (l0_2.length:Int))=true:=decide_eq_true c4
    clear c4
    by_cases c5:0≤x16_1
    ·rw [if_pos c5] at H
     have c5b0:decide (0≤x16_1)=true:=decide_eq_true c5
     clear c5
     by_cases c6:x16_1 < (l0_2.length:Int)
     ·rw [if_pos c6] at H
      have c6b0:decide (x16_1 < (l0_2.length:Int))=true:=decide_eq_true c6
      clear c6
      replace H:=pO H
      obtain ⟨t284,A70,H⟩:=H
      try dsimp only at H
      have A7:=Z A70
      clear A70
      have H':=Z H
      clear H
      have p282:0≤(x16_1:Int):=of_decide_eq_true pA
      have q282:x16_1 < (l0_2.length:Int):=of_decide_eq_true pA
      obtain ⟨ad282,A282_1,c282_1,A282_2,c282_2,e282,hx282_0,hx282_1,hx282_2,hl282_1,hi282_1,hl282_2,hi282_2⟩:=at_T90 HR0_2.out x16_1 p282 q282
      cases e282
      replace hx282_0:=pX HB hx282_0
      replace hx282_1:=pX HB hx282_1
      replace hx282_2:=pX HB hx282_2
      have HR282_1:=Z hi282_1
      have HC282_1:=Z hl282_1
      clear hi282_1 hl282_1
      have HR282_2:=Z hi282_2
      have HC282_2:=Z hl282_2
      clear hi282_2 hl282_2
      replace p282:=eq_true p282
      replace q282:=eq_true q282
      go_wp2_with (first|((with_reducible refine gate_dst (N:=5) rfl ?_);refine box_event ?hg (N:=5) ?hd (cs:=#[.int .i64 0,.slice none 0 0,.slice none 0 0]) (t:=90) ?hr ?_;(case hd=>rfl);(case hg=>rfl);(case hr=>first|(go_simp;done)|(go_simp;rfl));intro gb283 hg w8 hbox hb;have n0_:=Z (blk_below (g:=gb281) (o:=.cells #[.int .i64 a0_0,.slice A0_1 l0_1.length c0_1,.slice (some ad282) l0_2.length c0_2] 90 (0,0)) (pK BK281) hb);have n1_:=Z (below_step pB hb);have BK283:=Z (hbox);have GW283:=Z ((pT hg:w.heap.size≤gb283));have GE283:=Z ((pT hg:w.heap.size≤gb283));have NB281_283:=Z ((pL hg (pK BK281):gb281 ≠ gb283));have NB283_281:=Z ((pM hg (pK BK281):gb283 ≠ gb281));clear BK281 HB;have BK281:=n0_;have HB:=n1_;clear n0_ n1_ hb hbox hg;have hnb9:=NB283_281.out;have hnc9:=NB281_283.out;obtain ⟨hcz10_0,hcz10_1,hcz10_2,hfz10_0,hfz10_1,hfz10_2⟩:=p3 BK283)|((with_reducible refine gate_callee (f:=186) rfl ?_);refine goesL_ (some 22) rfl rfl Tryz.func186 pU rfl #[.agg #[.int .i64 ((rd_T90 l0_2 x16_1).f0),.slice A282_1 ((rd_T90 l0_2 x16_1).f1).length c282_1,.slice A282_2 ((rd_T90 l0_2 x16_1).f2).length c282_2]] rfl pG ?_;(with_reducible refine (ih k1 (by have:=HK1.out;omega) ((rd_T90 l0_2 x16_1).f0) _ _ ((rd_T90 l0_2 x16_1).f1) _ _ ((rd_T90 l0_2 x16_1).f2) t284 _ ?side1 ?side2 ?side3 ?side4 A7.out).mono ?_);(case side1=>exact Kd.C_below HR282_1.out pB);(case side2=>exact HC282_1.out);(case side3=>exact Kd.C_below HR282_2.out pB);(case side4=>exact HC282_2.out);rintro e w11 ⟨rfl,hb⟩;refine ⟨_,rfl,?_⟩;replace BK281:=Z (blk_below (g:=gb281) (o:=.cells #[.int .i64 a0_0,.slice A0_1 l0_1.length c0_1,.slice (some ad282) l0_2.length c0_2] 90 (0,0)) (by refine pQ ?_;refine blk_far ?_ NB281_283.out _;refine pQ ?_;refine blk_far ?_ NB281_283.out _;refine pQ ?_;refine blk_far ?_ NB281_283.out _;exact pK BK281) hb);replace BK283:=Z (blk_below (g:=gb283) (o:=.cells #[.int .i64 ((rd_T90 l0_2 x16_1).f0),.slice A282_1 ((rd_T90 l0_2 x16_1).f1).length c282_1,.slice A282_2 ((rd_T90 l0_2 x16_1).f2).length c282_2] 90 (0,0)) (by refine pQ ?_;refine blk_put (cs:=#[.int .i64 ((rd_T90 l0_2 x16_1).f0),.slice A282_1 ((rd_T90 l0_2 x16_1).f1).length c282_1,.slice none 0 0]) ?_ 2 _ rfl;refine pQ ?_;refine blk_put (cs:=#[.int .i64 ((rd_T90 l0_2 x16_1).f0),.slice none 0 0,.slice none 0 0]) ?_ 1 _ rfl;refine pQ ?_;refine blk_put (cs:=#[.int .i64 0,.slice none 0 0,.slice none 0 0]) ?_ 0 _ rfl;exact pK BK283) hb);have n2_:=Z (below_step pB hb);clear HB;have HB:=n2_;clear n2_;(try clear hb);(try clear hb2);(try clear hk);(try clear hi)))
      go_roundg k1
      case measure=>have:=HK1.out;omega
      case rel=>exact ⟨(wrap64 (x3_1+t284)),(wrap64 (x16_1+1)),pE,pE,H',⟨by have:=HK1.out;omega⟩,⟨pK BK281⟩,⟨pB⟩⟩
     ·rw [if_neg c6] at H
      exact absurd H (by simp)
    ·rw [if_neg c5] at H
     exact absurd H (by simp)
   ·rw [if_neg c4] at H
    have c4b0:decide (x16_1 < (l0_2.length:Int))=false:=decide_eq_false c4
    clear c4
    obtain rfl:=Option.some.inj H
    go_wp2
    go_ret
    exact ⟨pF,pB⟩
def qref01_Valid.f (a0:Int):Option (Bool):=if a0 ≥ 0 then (some (decide (a0≤1023))) else (some false)
set_option maxHeartbeats 8000000 in
set_option maxRecDepth 100000 in
theorem qref01_Valid.calls (a0:Int) (r:Bool) (w:World) (h:qref01_Valid.f a0=some r) :
  Calls Tryz.prog 115 #[.int .i64 a0] w fun e w'=>e=.returned (.bool r)∧Drawn0 w w':=by
 have H:(if a0 ≥ 0 then (some (decide (a0≤1023))) else (some false))=some r:=h
 clear h
 by_cases c2:a0 ≥ 0
 ·rw [if_pos c2] at H
  have c2b0:decide (0≤a0)=true:=decide_eq_true c2
  clear c2
  obtain rfl:=Option.some.inj H
  go_enter Tryz.func115,Tryz.ntmps115
  go_wp2
  go_ret
  exact ⟨pE,pD⟩
 ·rw [if_neg c2] at H
  have c2b0:decide (0≤a0)=false:=decide_eq_false c2
  clear c2
  obtain rfl:=Option.some.inj H
  go_enter Tryz.func115,Tryz.ntmps115
  go_wp2
  go_ret
  exact ⟨pE,pD⟩
def qref01_Has.f (a0:Int) (a1:Int):Option (Bool):=(qref01_Valid.f a0).bind fun t285=>(if t285=true then (if a1 ≥ 0 then (if a1 < 10 then (if 0≤a1 then (some ((Go.bits .and .i64 (shr .i64 a0 a1) 1) == 1)) else (none)) else (some false)) else (some false)) else (some false))
set_option maxHeartbeats 8000000 in
set_option maxRecDepth 100000 in
theorem qref01_Has.calls (a0:Int) (a1:Int) (r:Bool) (w:World) (h:qref01_Has.f a0 a1=some r) :
  Calls Tryz.prog 78 #[.int .i64 a0,.int .i64 a1] w fun e w'=>e=.returned (.bool r)∧Drawn0 w w':=by
 have H:((qref01_Valid.f a0).bind fun t285=>(if t285=true then (if a1 ≥ 0 then (if a1 < 10 then (if 0≤a1 then (some ((Go.bits .and .i64 (shr .i64 a0 a1) 1) == 1)) else (none)) else (some false)) else (some false)) else (some false)))=some r:=h
 clear h
 replace H:=pO H
 obtain ⟨t285,A30,H⟩:=H
 try dsimp only at H
 have A3:=Z A30
 clear A30
 by_cases c4:t285=true
 ·subst c4
  rw [if_pos rfl] at H
  by_cases c5:a1 ≥ 0
  ·rw [if_pos c5] at H
   have c5b0:decide (0≤a1)=true:=decide_eq_true c5
   clear c5
   by_cases c6:a1 < 10
   ·rw [if_pos c6] at H
    have c6b0:decide (a1 < 10)=true:=decide_eq_true c6
    clear c6
    by_cases c7:0≤a1
    ·rw [if_pos c7] at H
     have c7b0:=eq_true c7
     have c7b1:decide (0≤a1)=true:=decide_eq_true c7
     clear c7
     obtain ⟨ji8,hji8⟩:∃ j_:Int,(shr .i64 a0 a1)=j_:=⟨_,rfl⟩
     replace H:(some ((Go.bits .and .i64 (ji8) 1) == 1))=some r:=by first|(rw [hji8] at H;exact H)|(simp only [hji8] at H ⊢;exact H)
     (try rw [hji8] at A3)
     have hji8_:(a0 / 2 ^ min a1.toNat 64)=ji8:=hji8
     have hji8z:a1≤64→(a0 / 2 ^ a1.toNat)=ji8:=shr_small hji8
     obtain rfl:=Option.some.inj H
     go_enter Tryz.func78,Tryz.ntmps78
     go_wp2_with (first|((with_reducible refine gate_callee (f:=115) rfl ?_);refine goesL_ (some 6) rfl rfl Tryz.func115 pU rfl #[.int .i64 a0] rfl pG ?_;(with_reducible refine (qref01_Valid.calls a0 true _ A3.out).mono ?_);rintro e w' ⟨rfl,⟨nd,rfl⟩⟩;refine ⟨_,rfl,?_⟩))
     go_ret
     exact ⟨by first|rfl|(simp;done)|(simp only [← hji8] <;> (first|rfl|simp))|(simp [*];done),by repeat (first|exact Drawn0.refl _|apply Drawn0.step)⟩
    ·rw [if_neg c7] at H
     exact absurd H (by simp)
   ·rw [if_neg c6] at H
    have c6b0:decide (a1 < 10)=false:=decide_eq_false c6
    clear c6
    obtain rfl:=Option.some.inj H
    go_enter Tryz.func78,Tryz.ntmps78
    go_wp2_with (first|((with_reducible refine gate_callee (f:=115) rfl ?_);refine goesL_ (some 6) rfl rfl Tryz.func115 pU rfl #[.int .i64 a0] rfl pG ?_;(with_reducible refine (qref01_Valid.calls a0 true _ A3.out).mono ?_);rintro e w' ⟨rfl,⟨nd,rfl⟩⟩;refine ⟨_,rfl,?_⟩))
    go_ret
    exact ⟨pE,pD⟩
  ·rw [if_neg c5] at H
   have c5b0:decide (0≤a1)=false:=decide_eq_false c5
   clear c5
   obtain rfl:=Option.some.inj H
   go_enter Tryz.func78,Tryz.ntmps78
   go_wp2_with (first|((with_reducible refine gate_callee (f:=115) rfl ?_);refine goesL_ (some 6) rfl rfl Tryz.func115 pU rfl #[.int .i64 a0] rfl pG ?_;(with_reducible refine (qref01_Valid.calls a0 true _ A3.out).mono ?_);rintro e w' ⟨rfl,⟨nd,rfl⟩⟩;refine ⟨_,rfl,?_⟩))
   go_ret
   exact ⟨pE,pD⟩
 ·replace c4:=Bool.eq_false_iff.mpr c4
  subst c4
  rw [if_neg (show ¬ (false=true) by decide)] at H
  obtain rfl:=Option.some.inj H
  go_enter Tryz.func78,Tryz.ntmps78
  go_wp2_with (first|((with_reducible refine gate_callee (f:=115) rfl ?_);refine goesL_ (some 6) rfl rfl Tryz.func115 pU rfl #[.int .i64 a0] rfl pG ?_;(with_reducible refine (qref01_Valid.calls a0 false _ A3.out).mono ?_);rintro e w' ⟨rfl,⟨nd,rfl⟩⟩;refine ⟨_,rfl,?_⟩))
  go_ret
  exact ⟨pE,pD⟩
mutual
def qref01_Of.l0:Nat→Int→List Int→Int→Int→Option (Int × Int)
 | 0,_,_,_,_=>none
 | k+1,x4,x7,x8,x9=>if x9 < x8 then (if 0≤x9 then (if x9 < (x7.length:Int) then (if (rd x7 x9) < 0 then (qref01_Of.j1 k x4 (rd x7 x9) x7 x8 x9 true) else (qref01_Of.j1 k x4 (rd x7 x9) x7 x8 x9 (decide ((rd x7 x9) ≥ 10)))) else (none)) else (none)) else (some (x4,0))
def qref01_Of.j1:Nat→Int→Int→List Int→Int→Int→Bool→Option (Int × Int)
 | 0,_,_,_,_,_,_=>none
 | k+1,x4,x6,x7,x8,x9,x18=>if x18=true then (some (0,5)) else ((qref01_Has.f x4 x6).bind fun t287=>(if t287=true then (some (0,6)) else (if 0≤x6 then (qref01_Of.l0 k (Go.bits .or .i64 x4 (shl .i64 1 x6)) x7 x8 (wrap64 (x9+1))) else (none))))
end
def qref01_Of.f (k:Nat) (l0:List Int):Option (Int × Int):=qref01_Of.l0 k 0 l0 (l0.length:Int) 0
set_option maxHeartbeats 8000000 in
set_option maxRecDepth 100000 in
theorem qref01_Of.calls (k:Nat) (A0:Option Addr) (c0:Nat) (l0:List Int) (r1:Int) (r2:Int) (w:World) (hr0:Kd.C (Kd.int .i64) w A0 l0.length l0) (hc0:l0.length≤c0) (h:qref01_Of.f k l0=some (r1,r2)) :
  Calls Tryz.prog 208 #[.slice A0 l0.length c0] w fun e w'=>e=.returned (.tuple #[.int .i64 r1,.int .i64 r2])∧Drawn0 w w':=by
 have HR0:=Z hr0
 have HC0:=Z hc0
 clear hr0 hc0
 have H:(qref01_Of.l0 k 0 l0 (l0.length:Int) 0)=some (r1,r2):=h
 clear h
 have H':=Z H
 clear H
 go_enter Tryz.func208,Tryz.ntmps208
 go_wp2
 go_loopg [4,9] k (fun kq v4 v9 w'=>∃ (x4_1:Int) (x9_1:Int),v4=.int .i64 x4_1∧v9=.int .i64 x9_1∧Aside0 (qref01_Of.l0 kq x4_1 l0 (l0.length:Int) x9_1=some (r1,r2))∧Aside0 (kq≤k)∧Drawn0 w w')
 case atStart=>exact ⟨(0),(0),pE,pE,H',⟨Nat.le_refl _⟩,by repeat (first|exact Drawn0.refl _|apply Drawn0.step)⟩
 case round =>
  clear H'
  obtain ⟨x4_1,x9_1,rfl,rfl,HA,HK1,⟨m1,rfl⟩⟩:=hrel
  cases gk with
  | zero=>exact absurd HA.out (by simp [qref01_Of.l0])
  | succ k1 =>
   have H:=HA.out
   clear HA
   simp only [qref01_Of.l0] at H
   by_cases c2:x9_1 < (l0.length:Int)
   ·rw [if_pos c2] at H
    have c2b0:decide (x9_1 < (l0.length:Int))=true:=decide_eq_true c2
    clear c2
    by_cases c3:0≤x9_1
    ·rw [if_pos c3] at H
     have c3b0:decide (0≤x9_1)=true:=decide_eq_true c3
     clear c3
     by_cases c4:x9_1 < (l0.length:Int)
     ·rw [if_pos c4] at H
      have c4b0:decide (x9_1 < (l0.length:Int))=true:=decide_eq_true c4
      clear c4
      have HC5:=Z H
      clear H
      have p286:0≤(x9_1:Int):=of_decide_eq_true pA
      have q286:x9_1 < (l0.length:Int):=of_decide_eq_true pA
      obtain ⟨ad286,e286,hx286_0⟩:=Kd.at_int HR0.out x9_1 p286 q286
      cases e286
      replace p286:=eq_true p286
      replace q286:=eq_true q286
      go_upto_region 5 with (fail)
      go_cut [18] (fun v18 wc=>∃ (kq:Nat) (x18_4:Bool),v18=.bool x18_4∧Aside0 (qref01_Of.j1 kq x4_1 (rd l0 x9_1) l0 (l0.length:Int) x9_1 x18_4=some (r1,r2))∧Aside0 (kq≤k1)∧Drawn0 w wc)
      case first =>
       have H:=HC5.out
       clear HC5
       by_cases c6:(rd l0 x9_1) < 0
       ·rw [if_pos c6] at H
        have c6b0:decide ((rd l0 x9_1) < 0)=true:=decide_eq_true c6
        clear c6
        (first|rw [c6b0]|(simp only [i64_w,i32_w];rw [c6b0])|skip)
        have H':=Z H
        clear H
        go_wp2
        go_meet
        case rel=>exact ⟨_,(true),pE,H',⟨by have:=HK1.out;first|omega|exact Nat.le_refl _⟩,by repeat (first|exact Drawn0.refl _|apply Drawn0.step)⟩
       ·rw [if_neg c6] at H
        have c6b0:decide ((rd l0 x9_1) < 0)=false:=decide_eq_false c6
        clear c6
        (first|rw [c6b0]|(simp only [i64_w,i32_w];rw [c6b0])|skip)
        have H':=Z H
        clear H
        go_wp2
        go_meet
        case rel=>exact ⟨_,(decide ((rd l0 x9_1) ≥ 10)),pE,H',⟨by have:=HK1.out;first|omega|exact Nat.le_refl _⟩,by repeat (first|exact Drawn0.refl _|apply Drawn0.step)⟩
      case rest =>
       clear HC5
       try clear c2
       try clear c2b0
       try clear p2
       try clear q2
       try clear hx2
       try clear c3
       try clear c3b0
       try clear c4
       try clear c4b0
       try clear c6
       try clear c6b0
       try clear hx286_0
       try clear p286
       try clear q286
       obtain ⟨kq,x18_4,rfl,HA,HJ4,⟨mc4,rfl⟩⟩:=hcut
       cases kq with
       | zero=>exact absurd HA.out (by simp [qref01_Of.j1])
       | succ kj4 =>
        have H:=HA.out
        clear HA
        simp only [qref01_Of.j1] at H
        by_cases c7:x18_4=true
        ·subst c7
         rw [if_pos rfl] at H
         simp only [Option.some.injEq,Prod.mk.injEq] at H
         obtain ⟨rfl,rfl⟩:=H
         go_wp2
         go_ret2
         exact ⟨pE,pD⟩
        ·replace c7:=Bool.eq_false_iff.mpr c7
         subst c7
         rw [if_neg (show ¬ (false=true) by decide)] at H
         replace H:=pO H
         obtain ⟨t287,A80,H⟩:=H
         try dsimp only at H
         have A8:=Z A80
         clear A80
         by_cases c9:t287=true
         ·subst c9
          rw [if_pos rfl] at H
          simp only [Option.some.injEq,Prod.mk.injEq] at H
          obtain ⟨rfl,rfl⟩:=H
          go_wp2_with (first|((with_reducible refine gate_callee (f:=78) rfl ?_);refine goesL_ (some 21) rfl rfl Tryz.func78 pU rfl #[.int .i64 x4_1,.int .i64 (rd l0 x9_1)] rfl pG ?_;(with_reducible refine (qref01_Has.calls x4_1 (rd l0 x9_1) true _ A8.out).mono ?_);rintro e w' ⟨rfl,⟨nd,rfl⟩⟩;refine ⟨_,rfl,?_⟩))
          go_ret2
          exact ⟨pE,pD⟩
         ·replace c9:=Bool.eq_false_iff.mpr c9
          subst c9
          rw [if_neg (show ¬ (false=true) by decide)] at H
          by_cases c10:0≤(rd l0 x9_1)
          ·rw [if_pos c10] at H
           have c10b0:=eq_true c10
           have c10b1:decide (0≤(rd l0 x9_1))=true:=decide_eq_true c10
           clear c10
           obtain ⟨ji11,hji11⟩:∃ j_:Int,(shl .i64 1 (rd l0 x9_1))=j_:=⟨_,rfl⟩
           replace H:(qref01_Of.l0 kj4 (Go.bits .or .i64 x4_1 (ji11)) l0 (l0.length:Int) (wrap64 (x9_1+1)))=some (r1,r2):=by first|(rw [hji11] at H;exact H)|(simp only [hji11] at H ⊢;exact H)
           (try rw [hji11] at A8)
           have hji11_:(IntKind.i64.wrap (1 * 2 ^ min (rd l0 x9_1).toNat 64))=ji11:=hji11
           have hji11z:(rd l0 x9_1)≤64→(IntKind.i64.wrap (1 * 2 ^ (rd l0 x9_1).toNat))=ji11:=shl_small hji11
           have hji11u:(IntKind.i64.wrap (2 ^ min (rd l0 x9_1).toNat 64))=ji11:=by have h_:=hji11_;rw [Int.one_mul] at h_;exact h_
           have hji11v:(rd l0 x9_1)≤64→(IntKind.i64.wrap (2 ^ (rd l0 x9_1).toNat))=ji11:=fun hle_=>by have h_:=hji11z hle_;rw [Int.one_mul] at h_;exact h_
           have hji11y:(wrap64 (1 * 2 ^ min (rd l0 x9_1).toNat 64))=ji11:=(i64_w _).symm.trans hji11_
           have hji11x:(rd l0 x9_1)≤64→(wrap64 (1 * 2 ^ (rd l0 x9_1).toNat))=ji11:=fun h_=>(i64_w _).symm.trans (hji11z h_)
           have H':=Z H
           clear H
           go_wp2_with (first|((with_reducible refine gate_callee (f:=78) rfl ?_);refine goesL_ (some 21) rfl rfl Tryz.func78 pU rfl #[.int .i64 x4_1,.int .i64 (rd l0 x9_1)] rfl pG ?_;(with_reducible refine (qref01_Has.calls x4_1 (rd l0 x9_1) false _ A8.out).mono ?_);rintro e w' ⟨rfl,⟨nd,rfl⟩⟩;refine ⟨_,rfl,?_⟩))
           go_roundg kj4
           case measure=>have:=HK1.out;have:=HJ4.out;omega
           case rel=>exact ⟨(Go.bits .or .i64 x4_1 (ji11)),(wrap64 (x9_1+1)),(by first|exact pE|(simp only [← hji11] <;> (first|rfl|simp))),pE,H',⟨by have:=HK1.out;have:=HJ4.out;omega⟩,by repeat (first|exact Drawn0.refl _|apply Drawn0.step)⟩
          ·rw [if_neg c10] at H
           exact absurd H (by simp)
     ·rw [if_neg c4] at H
      exact absurd H (by simp)
    ·rw [if_neg c3] at H
     exact absurd H (by simp)
   ·rw [if_neg c2] at H
    have c2b0:decide (x9_1 < (l0.length:Int))=false:=decide_eq_false c2
    clear c2
    simp only [Option.some.injEq,Prod.mk.injEq] at H
    obtain ⟨rfl,rfl⟩:=H
    go_wp2
    go_ret2
    exact ⟨pE,pD⟩
mutual
def qref02_check.j0:Nat→Bool→Int→List Int→List (S90)→Option (Int)
 | 0,_,_,_,_=>none
 | k+1,x24,x289000,x289001,x289002=>if x24=true then (some 4) else (qref02_check.l0 k x289001 (x289001.length:Int) 0 x289000 x289001 x289002)
def qref02_check.l0:Nat→List Int→Int→Int→Int→List Int→List (S90)→Option (Int)
 | 0,_,_,_,_,_,_=>none
 | k+1,x26,x27,x28,x289000,x289001,x289002=>if x28 < x27 then (if 0≤x28 then (if x28 < (x26.length:Int) then (if (rd x26 x28) < 0 then (some 5) else (if (rd x26 x28) ≥ 10 then (some 5) else (qref02_check.l0 k x26 x27 (wrap64 (x28+1)) x289000 x289001 x289002))) else (none)) else (none)) else ((qref01_Of.f k x289001).bind fun bt290=>(if bt290.2=0 then (qref02_check.l1 k x289002 (x289002.length:Int) 0) else (some bt290.2)))
def qref02_check.l1:Nat→List (S90)→Int→Int→Option (Int)
 | 0,_,_,_=>none
 | k+1,x49,x50,x51=>if x51 < x50 then (if 0≤x51 then (if x51 < (x49.length:Int) then ((qref02_check.f k ((rd_T90 x49 x51).f0) ((rd_T90 x49 x51).f1) ((rd_T90 x49 x51).f2)).bind fun t294=>(if t294=0 then (qref02_check.l1 k x49 x50 (wrap64 (x51+1))) else (some t294))) else (none)) else (none)) else (some 0)
def qref02_check.f:Nat→Int→List Int→List (S90)→Option (Int)
 | 0,_,_,_=>none
 | k+1,a0_0,l0_1,l0_2=>if a0_0 < 1 then (qref02_check.j0 k true a0_0 l0_1 l0_2) else (qref02_check.j0 k (decide (a0_0 > (wrap64 ((l0_1.length:Int)+(l0_2.length:Int))))) a0_0 l0_1 l0_2)
end
set_option maxHeartbeats 8000000 in
set_option maxRecDepth 100000 in
theorem qref02_check.calls (k:Nat):∀ (a0_0:Int) (A0_1:Option Addr) (c0_1:Nat) (l0_1:List Int) (A0_2:Option Addr) (c0_2:Nat) (l0_2:List (S90)) (r:Int) (w:World) (hr0_1:Kd.C (Kd.int .i64) w A0_1 l0_1.length l0_1) (hc0_1:l0_1.length≤c0_1) (hr0_2:Kd.C k90 w A0_2 l0_2.length l0_2) (hc0_2:l0_2.length≤c0_2) (h:qref02_check.f k a0_0 l0_1 l0_2=some r),
  Calls Tryz.prog 187 #[.agg #[.int .i64 a0_0,.slice A0_1 l0_1.length c0_1,.slice A0_2 l0_2.length c0_2]] w fun e w'=>e=.returned (.int .i64 r)∧Below w.heap.size w w':=by
 induction k using Nat.strongRecOn with
 | _ k ih =>
 intro a0_0 A0_1 c0_1 l0_1 A0_2 c0_2 l0_2 r w hr0_1 hc0_1 hr0_2 hc0_2 h
 cases k with
 | zero=>exact absurd h (by simp [qref02_check.f])
 | succ k =>
 simp only [qref02_check.f] at h
 have hu90:=Tryz.underlying90
 have HR0_1:=Z hr0_1
 have HC0_1:=Z hc0_1
 clear hr0_1 hc0_1
 have HR0_2:=Z hr0_2
 have HC0_2:=Z hc0_2
 clear hr0_2 hc0_2
 have HB:=Z (Below.refl w.heap.size w)
 have H:(if a0_0 < 1 then (qref02_check.j0 k true a0_0 l0_1 l0_2) else (qref02_check.j0 k (decide (a0_0 > (wrap64 ((l0_1.length:Int)+(l0_2.length:Int))))) a0_0 l0_1 l0_2))=some r:=h
 clear h
 have HC2:=Z H
 clear H
 go_enter Tryz.func187,Tryz.ntmps187
 go_upto_region 1 with (first|((with_reducible refine gate_dst (N:=1) rfl ?_);(try (refine gate_guard (by rfl) ?_;dsimp only));refine box_event ?hg (N:=1) ?hd (cs:=#[.int .i64 a0_0,.slice A0_1 l0_1.length c0_1,.slice A0_2 l0_2.length c0_2]) (t:=90) ?hr ?_;(case hd=>rfl);(case hg=>rfl);(case hr=>first|(go_simp;done)|(go_simp;rfl));intro gb288 hg w3 hbox hb;have n0_:=Z (below_step pB hb);have BK288:=Z (hbox);have GW288:=Z ((pT hg:w.heap.size≤gb288));have GE288:=Z ((pT hg:w.heap.size≤gb288));clear HB;have HB:=n0_;clear n0_ hb hbox hg))
 (try simp only [Act.put,List.setIfInBounds_toArray,List.set_cons_zero,List.set_cons_succ])
 go_cut [24] (fun v24 wc=>∃ (kq:Nat) (x24_1:Bool),v24=.bool x24_1∧Aside0 (qref02_check.j0 kq x24_1 a0_0 l0_1 l0_2=some r)∧Aside0 (kq≤k)∧Aside0 (wc.heap[gb288]?=some (.cells #[.int .i64 a0_0,(.slice A0_1 l0_1.length c0_1),(.slice A0_2 l0_2.length c0_2)] 90 (0,0)))∧Aside0 (Below w.heap.size w wc))
 case first =>
  have H:=HC2.out
  clear HC2
  by_cases c4:a0_0 < 1
  ·rw [if_pos c4] at H
   have c4b0:decide (a0_0 < 1)=true:=decide_eq_true c4
   clear c4
   (first|rw [c4b0]|(simp only [i64_w,i32_w];rw [c4b0])|skip)
   have H':=Z H
   clear H
   have hcz5_0:=pV BK288 (.int .i64 a0_0) 0 rfl
   have hcz5_1:=pV BK288 (.slice A0_1 l0_1.length c0_1) 1 rfl
   have hcz5_2:=pV BK288 (.slice A0_2 l0_2.length c0_2) 2 rfl
   have hfz5_0:=kF BK288.out 0
   have hfz5_1:=kF BK288.out 1
   have hfz5_2:=kF BK288.out 2
   go_wp2
   go_meet
   case rel=>exact ⟨_,(true),pE,H',⟨by first|omega|exact Nat.le_refl _⟩,⟨pK BK288⟩,⟨pB⟩⟩
  ·rw [if_neg c4] at H
   have c4b0:decide (a0_0 < 1)=false:=decide_eq_false c4
   clear c4
   (first|rw [c4b0]|(simp only [i64_w,i32_w];rw [c4b0])|skip)
   have H':=Z H
   clear H
   have hcz6_0:=pV BK288 (.int .i64 a0_0) 0 rfl
   have hcz6_1:=pV BK288 (.slice A0_1 l0_1.length c0_1) 1 rfl
   have hcz6_2:=pV BK288 (.slice A0_2 l0_2.length c0_2) 2 rfl
   have hfz6_0:=kF BK288.out 0
   have hfz6_1:=kF BK288.out 1
   have hfz6_2:=kF BK288.out 2
   go_wp2
   go_meet
   case rel=>exact ⟨_,(decide (a0_0 > (wrap64 ((l0_1.length:Int)+(l0_2.length:Int))))),pE,H',⟨by first|omega|exact Nat.le_refl _⟩,⟨pK BK288⟩,⟨pB⟩⟩
 case rest =>
  clear HC2
  try clear c1
  try clear p2
  try clear c4
  try clear c4b0
  try clear p6
  try clear hcz5_0
  try clear hcz5_1
  try clear hcz5_2
  try clear hcz6_0
  try clear hcz6_1
  try clear hcz6_2
  try clear hfz5_0
  try clear hfz5_1
  try clear hfz5_2
  try clear hfz6_0
  try clear hfz6_1
  try clear hfz6_2
  obtain ⟨kq,x24_1,rfl,HA,HJ1,BK288,HB⟩:=hcut
  cases kq with
  | zero=>exact absurd HA.out (by simp [qref02_check.j0])
  | succ kj1 =>
   have H:=HA.out
   clear HA
   simp only [qref02_check.j0] at H
   by_cases c7:x24_1=true
   ·subst c7
    rw [if_pos rfl] at H
    obtain rfl:=Option.some.inj H
    go_wp2
    go_ret
    exact ⟨pF,pB⟩
   ·replace c7:=Bool.eq_false_iff.mpr c7
    subst c7
    rw [if_neg (show ¬ (false=true) by decide)] at H
    have H':=Z H
    clear H
    have hcz8_0:=pV BK288 (.int .i64 a0_0) 0 rfl
    have hcz8_1:=pV BK288 (.slice A0_1 l0_1.length c0_1) 1 rfl
    have hcz8_2:=pV BK288 (.slice A0_2 l0_2.length c0_2) 2 rfl
    have hfz8_0:=kF BK288.out 0
    have hfz8_1:=kF BK288.out 1
    have hfz8_2:=kF BK288.out 2
    go_wp2
    go_loopg [28] kj1 (fun kq v28 w'=>∃ (x28_2:Int),v28=.int .i64 x28_2∧Aside0 (qref02_check.l0 kq l0_1 (l0_1.length:Int) x28_2 a0_0 l0_1 l0_2=some r)∧Aside0 (kq≤kj1)∧Aside0 (w'.heap[gb288]?=some (.cells #[.int .i64 a0_0,(.slice A0_1 l0_1.length c0_1),(.slice A0_2 l0_2.length c0_2)] 90 (0,0)))∧Aside0 (Below w.heap.size w w'))
    case atStart=>exact ⟨(0),pE,H',⟨Nat.le_refl _⟩,⟨pK BK288⟩,⟨pB⟩⟩
    case round =>
     clear H'
     try clear c1
     try clear p2
     try clear c4
     try clear c4b0
     try clear p6
     try clear c7
     try clear hcz5_0
     try clear hcz5_1
     try clear hcz5_2
     try clear hcz6_0
     try clear hcz6_1
     try clear hcz6_2
     try clear hcz8_0
     try clear hcz8_1
     try clear hcz8_2
     try clear hfz5_0
     try clear hfz5_1
     try clear hfz5_2
     try clear hfz6_0
     try clear hfz6_1
     try clear hfz6_2
     try clear hfz8_0
     try clear hfz8_1
     try clear hfz8_2
     obtain ⟨x28_2,rfl,HA,HK2,BK288,HB⟩:=hrel
     cases gk with
     | zero=>exact absurd HA.out (by simp [qref02_check.l0])
     | succ k2 =>
      have H:=HA.out
      clear HA
      simp only [qref02_check.l0] at H
      by_cases c9:x28_2 < (l0_1.length:Int)
      ·rw [if_pos c9] at H
       have c9b0:decide (x28_2 < (l0_1.length:Int))=true:=decide_eq_true c9
       clear c9
       by_cases c10:0≤x28_2
       ·rw [if_pos c10] at H
        have c10b0:decide (0≤x28_2)=true:=decide_eq_true c10
        clear c10
        by_cases c11:x28_2 < (l0_1.length:Int)
        ·rw [if_pos c11] at H
         have c11b0:decide (x28_2 < (l0_1.length:Int))=true:=decide_eq_true c11
         clear c11
         by_cases c12:(rd l0_1 x28_2) < 0
         ·rw [if_pos c12] at H
          have c12b0:decide ((rd l0_1 x28_2) < 0)=true:=decide_eq_true c12
          clear c12
          obtain rfl:=Option.some.inj H
          have p289:0≤(x28_2:Int):=of_decide_eq_true pA
          have q289:x28_2 < (l0_1.length:Int):=of_decide_eq_true pA
          obtain ⟨ad289,e289,hx289_0⟩:=Kd.at_int HR0_1.out x28_2 p289 q289
          cases e289
          replace hx289_0:=pX HB hx289_0
          replace p289:=eq_true p289
          replace q289:=eq_true q289
          go_wp2
          go_ret
          exact ⟨pF,pB⟩
         ·rw [if_neg c12] at H
          have c12b0:decide ((rd l0_1 x28_2) < 0)=false:=decide_eq_false c12
          clear c12
          by_cases c13:(rd l0_1 x28_2) ≥ 10
          ·rw [if_pos c13] at H
           have c13b0:decide (10≤(rd l0_1 x28_2))=true:=decide_eq_true c13
           clear c13
           obtain rfl:=Option.some.inj H
           have p289:0≤(x28_2:Int):=of_decide_eq_true pA
           have q289:x28_2 < (l0_1.length:Int):=of_decide_eq_true pA
           obtain ⟨ad289,e289,hx289_0⟩:=Kd.at_int HR0_1.out x28_2 p289 q289
           cases e289
           replace hx289_0:=pX HB hx289_0
           replace p289:=eq_true p289
           replace q289:=eq_true q289
           go_wp2
           go_ret
           exact ⟨pF,pB⟩
          ·rw [if_neg c13] at H
           have c13b0:decide (10≤(rd l0_1 x28_2))=false:=decide_eq_false c13
           clear c13
           have H':=Z H
           clear H
           have p289:0≤(x28_2:Int):=of_decide_eq_true pA
           have q289:x28_2 < (l0_1.length:Int):=of_decide_eq_true pA
           obtain ⟨ad289,e289,hx289_0⟩:=Kd.at_int HR0_1.out x28_2 p289 q289
           cases e289
           replace hx289_0:=pX HB hx289_0
           replace p289:=eq_true p289
           replace q289:=eq_true q289
           go_wp2
           go_roundg k2
           case measure=>have:=HJ1.out;have:=HK2.out;omega
           case rel=>exact ⟨(wrap64 (x28_2+1)),pE,H',⟨by have:=HJ1.out;have:=HK2.out;omega⟩,⟨pK BK288⟩,⟨pB⟩⟩
        ·rw [if_neg c11] at H
         exact absurd H (by simp)
       ·rw [if_neg c10] at H
        exact absurd H (by simp)
      ·rw [if_neg c9] at H
       have c9b0:decide (x28_2 < (l0_1.length:Int))=false:=decide_eq_false c9
       clear c9
       replace H:=pO H
       obtain ⟨⟨t290,t291⟩,A140,H⟩:=H
       try dsimp only at H
       have A14:=Z A140
       clear A140
       by_cases c15:t291=0
       ·rw [if_pos c15] at H
        have c15b0:(t291 == 0)=true:=beq_iff_eq.mpr c15
        have c15b1:(t291 != 0)=false:=bne_eq_false_iff_eq.mpr c15
        clear c15
        have H':=Z H
        clear H
        have hcz16_0:=pV BK288 (.int .i64 a0_0) 0 rfl
        have hcz16_1:=pV BK288 (.slice A0_1 l0_1.length c0_1) 1 rfl
        have hcz16_2:=pV BK288 (.slice A0_2 l0_2.length c0_2) 2 rfl
        have hfz16_0:=kF BK288.out 0
        have hfz16_1:=kF BK288.out 1
        have hfz16_2:=kF BK288.out 2
        go_wp2_with (first|((with_reducible refine gate_callee (f:=208) rfl ?_);refine goesL_ (some 42) rfl rfl Tryz.func208 pU rfl #[.slice A0_1 l0_1.length c0_1] rfl pG ?_;(with_reducible refine (qref01_Of.calls k2 _ _ l0_1 t290 t291 _ ?side1 ?side2 A14.out).mono ?_);(case side1=>exact pC HR0_1);(case side2=>exact HC0_1.out);rintro e w' ⟨rfl,⟨nd,rfl⟩⟩;refine ⟨_,rfl,?_⟩))
        go_loopg [51] k2 (fun kq v51 w'=>∃ (x51_3:Int),v51=.int .i64 x51_3∧Aside0 (qref02_check.l1 kq l0_2 (l0_2.length:Int) x51_3=some r)∧Aside0 (kq≤k2)∧Aside0 (w'.heap[gb288]?=some (.cells #[.int .i64 a0_0,(.slice A0_1 l0_1.length c0_1),(.slice A0_2 l0_2.length c0_2)] 90 (0,0)))∧Aside0 (Below w.heap.size w w'))
        case atStart=>exact ⟨(0),pE,H',⟨Nat.le_refl _⟩,⟨pK BK288⟩,⟨pB⟩⟩
        case round =>
         clear H'
         try clear c1
         try clear c2
         try clear p2
         try clear q2
         try clear hx2
         try clear c4
         try clear c4b0
         try clear p6
         try clear c7
         try clear c9
         try clear c9b0
         try clear c10
         try clear c10b0
         try clear c11
         try clear c11b0
         try clear c12
         try clear c12b0
         try clear c13
         try clear c13b0
         try clear c15
         try clear c15b0
         try clear c15b1
         try clear hcz16_0
         try clear hcz16_1
         try clear hcz16_2
         try clear hcz5_0
         try clear hcz5_1
         try clear hcz5_2
         try clear hcz6_0
         try clear hcz6_1
         try clear hcz6_2
         try clear hcz8_0
         try clear hcz8_1
         try clear hcz8_2
         try clear hfz16_0
         try clear hfz16_1
         try clear hfz16_2
         try clear hfz5_0
         try clear hfz5_1
         try clear hfz5_2
         try clear hfz6_0
         try clear hfz6_1
         try clear hfz6_2
         try clear hfz8_0
         try clear hfz8_1
         try clear hfz8_2
         try clear hx289_0
         try clear p289
         try clear q289
         obtain ⟨x51_3,rfl,HA,HK3,BK288,HB⟩:=hrel
         cases gk with
         | zero=>exact absurd HA.out (by simp [qref02_check.l1])
         | succ k3 =>
          have H:=HA.out
          clear HA
          simp only [qref02_check.l1] at H
          by_cases c17:x51_3 < (l0_2.length:Int)
          ·rw [if_pos c17] at H
           have c17b0:decide (x51_3 < (l0_2.length:Int))=true:=decide_eq_true c17
           clear c17
           by_cases c18:0≤x51_3
           ·rw [if_pos c18] at H
            have c18b0:decide (0≤x51_3)=true:=decide_eq_true c18
            clear c18
            by_cases c19:x51_3 < (l0_2.length:Int)
            ·rw [if_pos c19] at H
             have c19b0:decide (x51_3 < (l0_2.length:Int))=true:=decide_eq_true c19
             clear c19
             replace H:=pO H
             obtain ⟨t294,A200,H⟩:=H
             try dsimp only at H
             have A20:=Z A200
             clear A200
             by_cases c21:t294=0
             ·rw [if_pos c21] at H
              have c21b0:(t294 == 0)=true:=beq_iff_eq.mpr c21
              have c21b1:(t294 != 0)=false:=bne_eq_false_iff_eq.mpr c21
              clear c21
              have H':=Z H
              clear H
              have p292:0≤(x51_3:Int):=of_decide_eq_true pA
              have q292:x51_3 < (l0_2.length:Int):=of_decide_eq_true pA
              obtain ⟨ad292,A292_1,c292_1,A292_2,c292_2,e292,hx292_0,hx292_1,hx292_2,hl292_1,hi292_1,hl292_2,hi292_2⟩:=at_T90 HR0_2.out x51_3 p292 q292
              cases e292
              replace hx292_0:=pX HB hx292_0
              replace hx292_1:=pX HB hx292_1
              replace hx292_2:=pX HB hx292_2
              have HR292_1:=Z hi292_1
              have HC292_1:=Z hl292_1
              clear hi292_1 hl292_1
              have HR292_2:=Z hi292_2
              have HC292_2:=Z hl292_2
              clear hi292_2 hl292_2
              replace p292:=eq_true p292
              replace q292:=eq_true q292
              go_wp2_with (first|((with_reducible refine gate_dst (N:=8) rfl ?_);(try (refine gate_guard (by rfl) ?_;dsimp only));refine box_event ?hg (N:=8) ?hd (cs:=#[.int .i64 0,.slice none 0 0,.slice none 0 0]) (t:=90) ?hr ?_;(case hd=>rfl);(case hg=>rfl);(case hr=>first|(go_simp;done)|(go_simp;rfl));intro gb293 hg w22 hbox hb;have n0_:=Z (blk_below (g:=gb288) (o:=.cells #[.int .i64 a0_0,.slice A0_1 l0_1.length c0_1,.slice (some ad292) l0_2.length c0_2] 90 (0,0)) (pK BK288) hb);have n1_:=Z (below_step pB hb);have BK293:=Z (hbox);have GW293:=Z ((pT hg:w.heap.size≤gb293));have GE293:=Z ((pT hg:w.heap.size≤gb293));have NB288_293:=Z ((pL hg (pK BK288):gb288 ≠ gb293));have NB293_288:=Z ((pM hg (pK BK288):gb293 ≠ gb288));clear BK288 HB;have BK288:=n0_;have HB:=n1_;clear n0_ n1_ hb hbox hg;have hnb23:=NB293_288.out;have hnc23:=NB288_293.out;obtain ⟨hcz24_0,hcz24_1,hcz24_2,hfz24_0,hfz24_1,hfz24_2⟩:=p3 BK293)|((with_reducible refine gate_callee (f:=187) rfl ?_);refine goesL_ (some 56) rfl rfl Tryz.func187 pU rfl #[.agg #[.int .i64 ((rd_T90 l0_2 x51_3).f0),.slice A292_1 ((rd_T90 l0_2 x51_3).f1).length c292_1,.slice A292_2 ((rd_T90 l0_2 x51_3).f2).length c292_2]] rfl pG ?_;(with_reducible refine (ih k3 (by have:=HJ1.out;have:=HK2.out;have:=HK3.out;omega) ((rd_T90 l0_2 x51_3).f0) _ _ ((rd_T90 l0_2 x51_3).f1) _ _ ((rd_T90 l0_2 x51_3).f2) t294 _ ?side1 ?side2 ?side3 ?side4 A20.out).mono ?_);(case side1=>exact Kd.C_below HR292_1.out pB);(case side2=>exact HC292_1.out);(case side3=>exact Kd.C_below HR292_2.out pB);(case side4=>exact HC292_2.out);rintro e w25 ⟨rfl,hb⟩;refine ⟨_,rfl,?_⟩;replace BK288:=Z (blk_below (g:=gb288) (o:=.cells #[.int .i64 a0_0,.slice A0_1 l0_1.length c0_1,.slice (some ad292) l0_2.length c0_2] 90 (0,0)) (by refine pQ ?_;refine blk_far ?_ NB288_293.out _;refine pQ ?_;refine blk_far ?_ NB288_293.out _;refine pQ ?_;refine blk_far ?_ NB288_293.out _;exact pK BK288) hb);replace BK293:=Z (blk_below (g:=gb293) (o:=.cells #[.int .i64 ((rd_T90 l0_2 x51_3).f0),.slice A292_1 ((rd_T90 l0_2 x51_3).f1).length c292_1,.slice A292_2 ((rd_T90 l0_2 x51_3).f2).length c292_2] 90 (0,0)) (by refine pQ ?_;refine blk_put (cs:=#[.int .i64 ((rd_T90 l0_2 x51_3).f0),.slice A292_1 ((rd_T90 l0_2 x51_3).f1).length c292_1,.slice none 0 0]) ?_ 2 _ rfl;refine pQ ?_;refine blk_put (cs:=#[.int .i64 ((rd_T90 l0_2 x51_3).f0),.slice none 0 0,.slice none 0 0]) ?_ 1 _ rfl;refine pQ ?_;refine blk_put (cs:=#[.int .i64 0,.slice none 0 0,.slice none 0 0]) ?_ 0 _ rfl;exact pK BK293) hb);have n2_:=Z (below_step pB hb);clear HB;have HB:=n2_;clear n2_;(try clear hb);(try clear hb2);(try clear hk);(try clear hi)))
              go_roundg k3
              case measure=>have:=HJ1.out;have:=HK2.out;have:=HK3.out;omega
              case rel=>exact ⟨(wrap64 (x51_3+1)),pE,H',⟨by have:=HJ1.out;have:=HK2.out;have:=HK3.out;omega⟩,⟨pK BK288⟩,⟨pB⟩⟩
             ·rw [if_neg c21] at H
              have c21b0:(t294 == 0)=false:=beq_eq_false_iff_ne.mpr c21
              have c21b1:(t294 != 0)=true:=bne_iff_ne.mpr c21
              obtain rfl:=Option.some.inj H
              have p292:0≤(x51_3:Int):=of_decide_eq_true pA
              have q292:x51_3 < (l0_2.length:Int):=of_decide_eq_true pA
              obtain ⟨ad292,A292_1,c292_1,A292_2,c292_2,e292,hx292_0,hx292_1,hx292_2,hl292_1,hi292_1,hl292_2,hi292_2⟩:=at_T90 HR0_2.out x51_3 p292 q292
              cases e292
              replace hx292_0:=pX HB hx292_0
              replace hx292_1:=pX HB hx292_1
              replace hx292_2:=pX HB hx292_2
              have HR292_1:=Z hi292_1
              have HC292_1:=Z hl292_1
              clear hi292_1 hl292_1
              have HR292_2:=Z hi292_2
              have HC292_2:=Z hl292_2
              clear hi292_2 hl292_2
              replace p292:=eq_true p292
              replace q292:=eq_true q292
              go_wp2_with (first|((with_reducible refine gate_dst (N:=8) rfl ?_);(try (refine gate_guard (by rfl) ?_;dsimp only));refine box_event ?hg (N:=8) ?hd (cs:=#[.int .i64 0,.slice none 0 0,.slice none 0 0]) (t:=90) ?hr ?_;(case hd=>rfl);(case hg=>rfl);(case hr=>first|(go_simp;done)|(go_simp;rfl));intro gb293 hg w26 hbox hb;have n0_:=Z (blk_below (g:=gb288) (o:=.cells #[.int .i64 a0_0,.slice A0_1 l0_1.length c0_1,.slice (some ad292) l0_2.length c0_2] 90 (0,0)) (pK BK288) hb);have n1_:=Z (below_step pB hb);have BK293:=Z (hbox);have GW293:=Z ((pT hg:w.heap.size≤gb293));have GE293:=Z ((pT hg:w.heap.size≤gb293));have NB288_293:=Z ((pL hg (pK BK288):gb288 ≠ gb293));have NB293_288:=Z ((pM hg (pK BK288):gb293 ≠ gb288));clear BK288 HB;have BK288:=n0_;have HB:=n1_;clear n0_ n1_ hb hbox hg;have hnb27:=NB293_288.out;have hnc27:=NB288_293.out;obtain ⟨hcz28_0,hcz28_1,hcz28_2,hfz28_0,hfz28_1,hfz28_2⟩:=p3 BK293)|((with_reducible refine gate_callee (f:=187) rfl ?_);refine goesL_ (some 56) rfl rfl Tryz.func187 pU rfl #[.agg #[.int .i64 ((rd_T90 l0_2 x51_3).f0),.slice A292_1 ((rd_T90 l0_2 x51_3).f1).length c292_1,.slice A292_2 ((rd_T90 l0_2 x51_3).f2).length c292_2]] rfl pG ?_;(with_reducible refine (ih k3 (by have:=HJ1.out;have:=HK2.out;have:=HK3.out;omega) ((rd_T90 l0_2 x51_3).f0) _ _ ((rd_T90 l0_2 x51_3).f1) _ _ ((rd_T90 l0_2 x51_3).f2) t294 _ ?side1 ?side2 ?side3 ?side4 A20.out).mono ?_);(case side1=>exact Kd.C_below HR292_1.out pB);(case side2=>exact HC292_1.out);(case side3=>exact Kd.C_below HR292_2.out pB);(case side4=>exact HC292_2.out);rintro e w29 ⟨rfl,hb⟩;refine ⟨_,rfl,?_⟩;replace BK288:=Z (blk_below (g:=gb288) (o:=.cells #[.int .i64 a0_0,.slice A0_1 l0_1.length c0_1,.slice (some ad292) l0_2.length c0_2] 90 (0,0)) (by refine pQ ?_;refine blk_far ?_ NB288_293.out _;refine pQ ?_;refine blk_far ?_ NB288_293.out _;refine pQ ?_;refine blk_far ?_ NB288_293.out _;exact pK BK288) hb);replace BK293:=Z (blk_below (g:=gb293) (o:=.cells #[.int .i64 ((rd_T90 l0_2 x51_3).f0),.slice A292_1 ((rd_T90 l0_2 x51_3).f1).length c292_1,.slice A292_2 ((rd_T90 l0_2 x51_3).f2).length c292_2] 90 (0,0)) (by refine pQ ?_;refine blk_put (cs:=#[.int .i64 ((rd_T90 l0_2 x51_3).f0),.slice A292_1 ((rd_T90 l0_2 x51_3).f1).length c292_1,.slice none 0 0]) ?_ 2 _ rfl;refine pQ ?_;refine blk_put (cs:=#[.int .i64 ((rd_T90 l0_2 x51_3).f0),.slice none 0 0,.slice none 0 0]) ?_ 1 _ rfl;refine pQ ?_;refine blk_put (cs:=#[.int .i64 0,.slice none 0 0,.slice none 0 0]) ?_ 0 _ rfl;exact pK BK293) hb);have n2_:=Z (below_step pB hb);clear HB;have HB:=n2_;clear n2_;(try clear hb);(try clear hb2);(try clear hk);(try clear hi)))
              go_ret
              exact ⟨pF,pB⟩
            ·rw [if_neg c19] at H
             exact absurd H (by simp)
           ·rw [if_neg c18] at H
            exact absurd H (by simp)
          ·rw [if_neg c17] at H
           have c17b0:decide (x51_3 < (l0_2.length:Int))=false:=decide_eq_false c17
           clear c17
           obtain rfl:=Option.some.inj H
           go_wp2
           go_ret
           exact ⟨pF,pB⟩
       ·rw [if_neg c15] at H
        have c15b0:(t291 == 0)=false:=beq_eq_false_iff_ne.mpr c15
        have c15b1:(t291 != 0)=true:=bne_iff_ne.mpr c15
        obtain rfl:=Option.some.inj H
        have hcz30_0:=pV BK288 (.int .i64 a0_0) 0 rfl
        have hcz30_1:=pV BK288 (.slice A0_1 l0_1.length c0_1) 1 rfl
        have hcz30_2:=pV BK288 (.slice A0_2 l0_2.length c0_2) 2 rfl
        have hfz30_0:=kF BK288.out 0
        have hfz30_1:=kF BK288.out 1
        have hfz30_2:=kF BK288.out 2
        go_wp2_with (first|((with_reducible refine gate_callee (f:=208) rfl ?_);refine goesL_ (some 42) rfl rfl Tryz.func208 pU rfl #[.slice A0_1 l0_1.length c0_1] rfl pG ?_;(with_reducible refine (qref01_Of.calls k2 _ _ l0_1 t290 t291 _ ?side1 ?side2 A14.out).mono ?_);(case side1=>exact pC HR0_1);(case side2=>exact HC0_1.out);rintro e w' ⟨rfl,⟨nd,rfl⟩⟩;refine ⟨_,rfl,?_⟩))
        go_ret
        exact ⟨pF,pB⟩
def qref02_Valid.f (k:Nat) (a0_0:Int) (l0_1:List Int) (l0_2:List (S90)):Option (Int):=(qref02_Depth.f k a0_0 l0_1 l0_2).bind fun t296=>(if t296 > 4 then (some 3) else ((qref02_Size.f k a0_0 l0_1 l0_2).bind fun t297=>(if t297 > 200 then (some 3) else ((qref02_check.f k a0_0 l0_1 l0_2).bind fun t298=>(some t298)))))
set_option maxHeartbeats 8000000 in
set_option maxRecDepth 100000 in
theorem qref02_Valid.calls (k:Nat) (a0_0:Int) (A0_1:Option Addr) (c0_1:Nat) (l0_1:List Int) (A0_2:Option Addr) (c0_2:Nat) (l0_2:List (S90)) (r:Int) (w:World) (hr0_1:Kd.C (Kd.int .i64) w A0_1 l0_1.length l0_1) (hc0_1:l0_1.length≤c0_1) (hr0_2:Kd.C k90 w A0_2 l0_2.length l0_2) (hc0_2:l0_2.length≤c0_2) (h:qref02_Valid.f k a0_0 l0_1 l0_2=some r) :
  Calls Tryz.prog 155 #[.agg #[.int .i64 a0_0,.slice A0_1 l0_1.length c0_1,.slice A0_2 l0_2.length c0_2]] w fun e w'=>e=.returned (.int .i64 r)∧Below w.heap.size w w':=by
 have hu90:=Tryz.underlying90
 have HR0_1:=Z hr0_1
 have HC0_1:=Z hc0_1
 clear hr0_1 hc0_1
 have HR0_2:=Z hr0_2
 have HC0_2:=Z hc0_2
 clear hr0_2 hc0_2
 have HB:=Z (Below.refl w.heap.size w)
 have H:((qref02_Depth.f k a0_0 l0_1 l0_2).bind fun t296=>(if t296 > 4 then (some 3) else ((qref02_Size.f k a0_0 l0_1 l0_2).bind fun t297=>(if t297 > 200 then (some 3) else ((qref02_check.f k a0_0 l0_1 l0_2).bind fun t298=>(some t298))))))=some r:=h
 clear h
 replace H:=pO H
 obtain ⟨t296,A20,H⟩:=H
 try dsimp only at H
 have A2:=Z A20
 clear A20
 by_cases c3:t296 > 4
 ·rw [if_pos c3] at H
  have c3b0:decide (4 < t296)=true:=decide_eq_true c3
  clear c3
  obtain rfl:=Option.some.inj H
  go_enter Tryz.func155,Tryz.ntmps155
  go_wp2_with (first|((with_reducible refine gate_dst (N:=1) rfl ?_);refine box_event ?hg (N:=1) ?hd (cs:=#[.int .i64 a0_0,.slice A0_1 l0_1.length c0_1,.slice A0_2 l0_2.length c0_2]) (t:=90) ?hr ?_;(case hd=>rfl);(case hg=>rfl);(case hr=>first|(go_simp;done)|(go_simp;rfl));intro gb295 hg w4 hbox hb;have n0_:=Z (below_step pB hb);have BK295:=Z (hbox);have GW295:=Z ((pT hg:w.heap.size≤gb295));have GE295:=Z ((pT hg:w.heap.size≤gb295));clear HB;have HB:=n0_;clear n0_ hb hbox hg;obtain ⟨hcz5_0,hcz5_1,hcz5_2,hfz5_0,hfz5_1,hfz5_2⟩:=p3 BK295)|((with_reducible refine gate_callee (f:=185) rfl ?_);refine goesL_ (some 4) rfl rfl Tryz.func185 pU rfl #[.agg #[.int .i64 a0_0,.slice A0_1 l0_1.length c0_1,.slice A0_2 l0_2.length c0_2]] rfl pG ?_;(with_reducible refine (qref02_Depth.calls k a0_0 _ _ l0_1 _ _ l0_2 t296 _ ?side1 ?side2 ?side3 ?side4 A2.out).mono ?_);(case side1=>exact pC HR0_1);(case side2=>exact HC0_1.out);(case side3=>exact pC HR0_2);(case side4=>exact HC0_2.out);rintro e w6 ⟨rfl,hb⟩;refine ⟨_,rfl,?_⟩;replace BK295:=Z (blk_below (g:=gb295) (o:=.cells #[.int .i64 a0_0,.slice A0_1 l0_1.length c0_1,.slice A0_2 l0_2.length c0_2] 90 (0,0)) (pK BK295) hb);have n1_:=Z (below_step pB hb);clear HB;have HB:=n1_;clear n1_;(try clear hb);(try clear hb2);(try clear hk);(try clear hi)))
  go_ret
  exact ⟨pF,pB⟩
 ·rw [if_neg c3] at H
  have c3b0:decide (4 < t296)=false:=decide_eq_false c3
  clear c3
  replace H:=pO H
  obtain ⟨t297,A70,H⟩:=H
  try dsimp only at H
  have A7:=Z A70
  clear A70
  by_cases c8:t297 > 200
  ·rw [if_pos c8] at H
   have c8b0:decide (200 < t297)=true:=decide_eq_true c8
   clear c8
   obtain rfl:=Option.some.inj H
   go_enter Tryz.func155,Tryz.ntmps155
   go_wp2_with (first|((with_reducible refine gate_dst (N:=1) rfl ?_);refine box_event ?hg (N:=1) ?hd (cs:=#[.int .i64 a0_0,.slice A0_1 l0_1.length c0_1,.slice A0_2 l0_2.length c0_2]) (t:=90) ?hr ?_;(case hd=>rfl);(case hg=>rfl);(case hr=>first|(go_simp;done)|(go_simp;rfl));intro gb295 hg w9 hbox hb;have n0_:=Z (below_step pB hb);have BK295:=Z (hbox);have GW295:=Z ((pT hg:w.heap.size≤gb295));have GE295:=Z ((pT hg:w.heap.size≤gb295));clear HB;have HB:=n0_;clear n0_ hb hbox hg;obtain ⟨hcz10_0,hcz10_1,hcz10_2,hfz10_0,hfz10_1,hfz10_2⟩:=p3 BK295)|((with_reducible refine gate_callee (f:=185) rfl ?_);refine goesL_ (some 4) rfl rfl Tryz.func185 pU rfl #[.agg #[.int .i64 a0_0,.slice A0_1 l0_1.length c0_1,.slice A0_2 l0_2.length c0_2]] rfl pG ?_;(with_reducible refine (qref02_Depth.calls k a0_0 _ _ l0_1 _ _ l0_2 t296 _ ?side1 ?side2 ?side3 ?side4 A2.out).mono ?_);(case side1=>exact pC HR0_1);(case side2=>exact HC0_1.out);(case side3=>exact pC HR0_2);(case side4=>exact HC0_2.out);rintro e w11 ⟨rfl,hb⟩;refine ⟨_,rfl,?_⟩;replace BK295:=Z (blk_below (g:=gb295) (o:=.cells #[.int .i64 a0_0,.slice A0_1 l0_1.length c0_1,.slice A0_2 l0_2.length c0_2] 90 (0,0)) (pK BK295) hb);have n1_:=Z (below_step pB hb);clear HB;have HB:=n1_;clear n1_;(try clear hb);(try clear hb2);(try clear hk);(try clear hi);obtain ⟨hcz12_0,hcz12_1,hcz12_2,hfz12_0,hfz12_1,hfz12_2⟩:=p3 BK295)|(go_at_call 186;(with_reducible refine (qref02_Size.calls k a0_0 _ _ l0_1 _ _ l0_2 t297 _ ?side1 ?side2 ?side3 ?side4 A7.out).mono ?_);(case side1=>exact pC HR0_1);(case side2=>exact HC0_1.out);(case side3=>exact pC HR0_2);(case side4=>exact HC0_2.out);rintro e w13 ⟨rfl,hb⟩;replace BK295:=Z (blk_below (g:=gb295) (o:=.cells #[.int .i64 a0_0,.slice A0_1 l0_1.length c0_1,.slice A0_2 l0_2.length c0_2] 90 (0,0)) (pK BK295) hb);have n1_:=Z (below_step pB hb);clear HB;have HB:=n1_;clear n1_;(try clear hb);(try clear hb2);(try clear hk);(try clear hi)))
   go_ret
   exact ⟨pF,pB⟩
  ·rw [if_neg c8] at H
   have c8b0:decide (200 < t297)=false:=decide_eq_false c8
   clear c8
   replace H:=pO H
   obtain ⟨t298,A140,H⟩:=H
   try dsimp only at H
   have A14:=Z A140
   clear A140
   obtain rfl:=Option.some.inj H
   go_enter Tryz.func155,Tryz.ntmps155
   go_wp2_with (first|((with_reducible refine gate_dst (N:=1) rfl ?_);refine box_event ?hg (N:=1) ?hd (cs:=#[.int .i64 a0_0,.slice A0_1 l0_1.length c0_1,.slice A0_2 l0_2.length c0_2]) (t:=90) ?hr ?_;(case hd=>rfl);(case hg=>rfl);(case hr=>first|(go_simp;done)|(go_simp;rfl));intro gb295 hg w15 hbox hb;have n0_:=Z (below_step pB hb);have BK295:=Z (hbox);have GW295:=Z ((pT hg:w.heap.size≤gb295));have GE295:=Z ((pT hg:w.heap.size≤gb295));clear HB;have HB:=n0_;clear n0_ hb hbox hg;obtain ⟨hcz16_0,hcz16_1,hcz16_2,hfz16_0,hfz16_1,hfz16_2⟩:=p3 BK295)|((with_reducible refine gate_callee (f:=185) rfl ?_);refine goesL_ (some 4) rfl rfl Tryz.func185 pU rfl #[.agg #[.int .i64 a0_0,.slice A0_1 l0_1.length c0_1,.slice A0_2 l0_2.length c0_2]] rfl pG ?_;(with_reducible refine (qref02_Depth.calls k a0_0 _ _ l0_1 _ _ l0_2 t296 _ ?side1 ?side2 ?side3 ?side4 A2.out).mono ?_);(case side1=>exact pC HR0_1);(case side2=>exact HC0_1.out);(case side3=>exact pC HR0_2);(case side4=>exact HC0_2.out);rintro e w17 ⟨rfl,hb⟩;refine ⟨_,rfl,?_⟩;replace BK295:=Z (blk_below (g:=gb295) (o:=.cells #[.int .i64 a0_0,.slice A0_1 l0_1.length c0_1,.slice A0_2 l0_2.length c0_2] 90 (0,0)) (pK BK295) hb);have n1_:=Z (below_step pB hb);clear HB;have HB:=n1_;clear n1_;(try clear hb);(try clear hb2);(try clear hk);(try clear hi);obtain ⟨hcz18_0,hcz18_1,hcz18_2,hfz18_0,hfz18_1,hfz18_2⟩:=p3 BK295)|(go_at_call 186;(with_reducible refine (qref02_Size.calls k a0_0 _ _ l0_1 _ _ l0_2 t297 _ ?side1 ?side2 ?side3 ?side4 A7.out).mono ?_);(case side1=>exact pC HR0_1);(case side2=>exact HC0_1.out);(case side3=>exact pC HR0_2);(case side4=>exact HC0_2.out);rintro e w19 ⟨rfl,hb⟩;replace BK295:=Z (blk_below (g:=gb295) (o:=.cells #[.int .i64 a0_0,.slice A0_1 l0_1.length c0_1,.slice A0_2 l0_2.length c0_2] 90 (0,0)) (pK BK295) hb);have n1_:=Z (below_step pB hb);clear HB;have HB:=n1_;clear n1_;(try clear hb);(try clear hb2);(try clear hk);(try clear hi);obtain ⟨hcz20_0,hcz20_1,hcz20_2,hfz20_0,hfz20_1,hfz20_2⟩:=p3 BK295)|((with_reducible refine gate_callee (f:=187) rfl ?_);refine goesL_ (some 12) rfl rfl Tryz.func187 pU rfl #[.agg #[.int .i64 a0_0,.slice A0_1 l0_1.length c0_1,.slice A0_2 l0_2.length c0_2]] rfl pG ?_;(with_reducible refine (qref02_check.calls k a0_0 _ _ l0_1 _ _ l0_2 t298 _ ?side1 ?side2 ?side3 ?side4 A14.out).mono ?_);(case side1=>exact pC HR0_1);(case side2=>exact HC0_1.out);(case side3=>exact pC HR0_2);(case side4=>exact HC0_2.out);rintro e w21 ⟨rfl,hb⟩;refine ⟨_,rfl,?_⟩;replace BK295:=Z (blk_below (g:=gb295) (o:=.cells #[.int .i64 a0_0,.slice A0_1 l0_1.length c0_1,.slice A0_2 l0_2.length c0_2] 90 (0,0)) (pK BK295) hb);have n1_:=Z (below_step pB hb);clear HB;have HB:=n1_;clear n1_;(try clear hb);(try clear hb2);(try clear hk);(try clear hi)))
   go_ret
   exact ⟨pF,pB⟩
mutual
def qmake_Tape_Order.l0:Nat→Int→List Int→Int→List Int→Int→Option (List Int × Int)
 | 0,_,_,_,_,_=>none
 | k+1,x1,x5,x6,x1000,x1001=>if x6 < x1 then (if x5.length < 17592186044416 then (qmake_Tape_Order.l0 k x1 (x5++[x6]) (wrap64 (x6+1)) x1000 x1001) else (none)) else (qmake_Tape_Order.l1 k x5 (wrap64 (x1 - 1)) x1000 x1001)
def qmake_Tape_Order.l1:Nat→List Int→Int→List Int→Int→Option (List Int × Int)
 | 0,_,_,_,_=>none
 | k+1,x5,x7,x1000,x1001=>if x7 > 0 then ((qmake_Tape_N.f x1000 x1001 (wrap64 (x7+1))).bind fun bt268=>(if 0≤bt268.1 then (if bt268.1 < (x5.length:Int) then (if 0≤x7 then (if x7 < (x5.length:Int) then (qmake_Tape_Order.l1 k ((x5.set (x7:Int).toNat (rd x5 bt268.1)).set (bt268.1:Int).toNat (rd x5 x7)) (wrap64 (x7 - 1)) x1000 bt268.2) else (none)) else (none)) else (none)) else (none))) else (some (x5,x1001))
end
def qmake_Tape_Order.f (k:Nat) (s0_0:List Int) (s0_1:Int) (a1:Int):Option (List Int × Int):=qmake_Tape_Order.l0 k a1 ([]:List Int) 0 s0_0 s0_1
def qmake_Tape_Order.T10:Bool × List (List Nat × List Nat):=(true,[([],[]),([],[]),([],[]),([],[]),([],[]),([],[]),([4,5],[4,5]),([6],[6]),([],[]),([],[]),([8,9],[8,9]),([10],[10]),([0,1,0,1,4,5,6,7,11],[0,1]),([12,7,0,1,4,5,6,7,11],[7,12]),([2,3,0,1,2,3,4,5,6,7,8,9,10,11,12,13],[2,3]),([14,11,13,0,1,2,3,4,5,6,7,8,9,10,11,12,13],[11,14])])
def qmake_Tape_Order.B10:List Nat:=[0,0,0,0,0,0,48,112,0,0,768,1792,4083,8179,16383,32767]
theorem qmake_Tape_Order.tab10:rtab .any (opsOf Tryz.f184 10)=qmake_Tape_Order.T10:=by kernel_rfl
theorem qmake_Tape_Order.bits10:waitsOk qmake_Tape_Order.T10.2 qmake_Tape_Order.B10=true:=by kernel_rfl
set_option maxHeartbeats 8000000 in
set_option maxRecDepth 100000 in
theorem qmake_Tape_Order.calls (k:Nat) (g:Nat) (s0_0:List Int) (s0_1:Int) (a1:Int) (r1:List Int) (r2:Int) (w0 w:World) (hI:IsS95 w0 w g s0_0 s0_1) (hB:Below w0.heap.size w0 w) (h:qmake_Tape_Order.f k s0_0 s0_1 a1=some (r1,r2)) :
  Calls Tryz.prog 184 #[.pointer (some ⟨g,0,none⟩),.int .i64 a1] w fun e w'=>∃ v0_:Value,e=.returned (v0_)∧Kd.R (Kd.int .i64) 3 w' w.heap.size (fun _=>True) v0_ r1∧IsS95 w0 w' g s0_0 r2∧Below w0.heap.size w0 w'∧KeepBut w w' g none:=by
 have HI0:=Z hI
 have HK:=Z (KeepBut.refl w g none)
 have HL:=Z hB.size
 clear hI
 have HW0:=Z hB.size
 have HB:=Z hB
 clear hB
 have H:(qmake_Tape_Order.l0 k a1 ([]:List Int) 0 s0_0 s0_1)=some (r1,r2):=h
 clear h
 have H':=Z H
 clear H
 go_enter Tryz.func184,Tryz.ntmps184
 go_wp2
 go_loopg [5,6] k (fun kq v5 v6 w'=>∃ (x5_1:List Int) (x6_1:Int),v6=.int .i64 x6_1∧Aside0 (qmake_Tape_Order.l0 kq a1 x5_1 x6_1 s0_0 s0_1=some (r1,r2))∧Aside0 (kq≤k)∧Aside0 (Kd.R (Kd.int .i64) 3 w' w.heap.size (fun _=>True) v5 x5_1)∧Aside0 (IsS95 w0 w' g s0_0 s0_1)∧Aside0 (KeepBut w w' g none)∧Aside0 (Below w0.heap.size w0 w'))
 case atStart=>exact ⟨(([]:List Int)),(0),pE,H',⟨Nat.le_refl _⟩,⟨pN⟩,⟨pI⟩,⟨pH⟩,⟨pB⟩⟩
 case round =>
  clear H'
  try clear c1
  try clear p2
  obtain ⟨x5_1,x6_1,rfl,HA,HK1,HO_5,HI0,HK,HB⟩:=hrel
  cases gk with
  | zero=>exact absurd HA.out (by simp [qmake_Tape_Order.l0])
  | succ k1 =>
   have H:=HA.out
   clear HA
   simp only [qmake_Tape_Order.l0] at H
   by_cases c3:x6_1 < a1
   ·rw [if_pos c3] at H
    have c3b0:decide (x6_1 < a1)=true:=decide_eq_true c3
    clear c3
    by_cases c4:x5_1.length < 17592186044416
    ·rw [if_pos c4] at H
     have LMc4:=Z c4
     clear c4
     obtain ⟨y265,hy265⟩:∃ y_:List Int,y_=(x5_1++[x6_1]):=⟨_,rfl⟩
     first|rw [← hy265] at H|(replace H:=(Option.bind_some _ _).symm.trans H;rw [← hy265] at H)
     have Ny265:=Z hy265
     clear hy265
     have H':=Z H
     clear H
     go_wp2_with (first|((with_reducible refine gate_builtin (b:=.append) (xs:=#[.tmp 14,.tmp 16]) rfl ?_);at_builtin;refine Kd.R_append (Kd.int .i64) w.heap.size rfl (.tmp 14) (.tmp 16) 22 3 (.int .i64 0) 8 rfl Tryz.underlying22 info3 rfl (by decide) (by omega) u5 x5_1 x6_1 [.int .i64 x6_1] (fun _=>True) (fun _=>False) rfl rfl ?aP (fun _ hk=>hk.elim) ?aF ?aO (Below.refl _ _) ?aS ?aL ?_;(case aP=>exact rfl);(case aF=>exact (fun _ _=>trivial));(case aO=>exact (pR HO_5));(case aS=>exact (keep_size (w:=w) (g:=g) (row:=none) pH));(case aL=>have:=LMc4.out;omega);intro v266 w5 ho hb hg hat;rw [← Ny265.out] at ho;have n0_:=Z (IsS95.grown pI hg (IsS95.own_ne HI0.out HO_5.out (by decide)));have n1_:=Z (below_weaken pB HL.out hb);have n2_:=Z (KeepBut.trans pH (KeepBut.of_grown hg g) (Kd.R_base2 HO_5.out));have n3_:=Z (ho);clear HI0 HB HK HO_5;have HI0:=n0_;have HB:=n1_;have HK:=n2_;have HO267:=n3_;clear n0_ n1_ n2_ n3_ ho hb hg hat))
     go_roundg k1
     case measure=>have:=HK1.out;omega
     case rel=>exact ⟨(y265),(wrap64 (x6_1+1)),pE,H',⟨by have:=HK1.out;omega⟩,⟨pR HO267⟩,⟨pI⟩,⟨pH⟩,⟨pB⟩⟩
    ·rw [if_neg c4] at H
     exact absurd H (by simp)
   ·rw [if_neg c3] at H
    have c3b0:decide (x6_1 < a1)=false:=decide_eq_false c3
    clear c3
    have H':=Z H
    clear H
    go_wp2
    go_loopg [7] k1 (fun kq v7 w'=>∃ (x5_2:List Int) (x7_2:Int) (x1001_2:Int),v7=.int .i64 x7_2∧Aside0 (qmake_Tape_Order.l1 kq x5_2 x7_2 s0_0 x1001_2=some (r1,r2))∧Aside0 (kq≤k1)∧Aside0 (Kd.R (Kd.int .i64) 3 w' w.heap.size (fun _=>True) u5 x5_2)∧Aside0 (IsS95 w0 w' g s0_0 x1001_2)∧Aside0 (KeepBut w w' g none)∧Aside0 (Below w0.heap.size w0 w'))
    case atStart=>exact ⟨(x5_1),(wrap64 (a1 - 1)),(s0_1),pE,H',⟨Nat.le_refl _⟩,⟨pR HO_5⟩,⟨pI⟩,⟨pH⟩,⟨pB⟩⟩
    case round =>
     clear H'
     try clear c1
     try clear p2
     try clear c3
     try clear c3b0
     try clear c4
     obtain ⟨x5_2,x7_2,x1001_2,rfl,HA,HK2,HO_5,HI0,HK,HB⟩:=hrel
     cases gk with
     | zero=>exact absurd HA.out (by simp [qmake_Tape_Order.l1])
     | succ k2 =>
      have H:=HA.out
      clear HA
      simp only [qmake_Tape_Order.l1] at H
      by_cases c6:x7_2 > 0
      ·rw [if_pos c6] at H
       have c6b0:decide (0 < x7_2)=true:=decide_eq_true c6
       clear c6
       replace H:=pO H
       obtain ⟨⟨t268,t269⟩,A70,H⟩:=H
       try dsimp only at H
       have A7:=Z A70
       clear A70
       by_cases c8:0≤t268
       ·rw [if_pos c8] at H
        have c8b0:decide (0≤t268)=true:=decide_eq_true c8
        clear c8
        by_cases c9:t268 < (x5_2.length:Int)
        ·rw [if_pos c9] at H
         have c9b0:decide (t268 < (x5_2.length:Int))=true:=decide_eq_true c9
         clear c9
         by_cases c10:0≤x7_2
         ·rw [if_pos c10] at H
          have c10b0:decide (0≤x7_2)=true:=decide_eq_true c10
          clear c10
          by_cases c11:x7_2 < (x5_2.length:Int)
          ·rw [if_pos c11] at H
           have c11b0:decide (x7_2 < (x5_2.length:Int))=true:=decide_eq_true c11
           clear c11
           obtain ⟨y272,hy272⟩:∃ y_:List Int,y_=(x5_2.set (x7_2:Int).toNat (rd x5_2 t268)):=⟨_,rfl⟩
           first|rw [← hy272] at H|(replace H:=(Option.bind_some _ _).symm.trans H;rw [← hy272] at H)
           have Ny272:=Z hy272
           clear hy272
           obtain ⟨y273,hy273⟩:∃ y_:List Int,y_=(y272.set (t268:Int).toNat (rd x5_2 x7_2)):=⟨_,rfl⟩
           first|rw [← hy273] at H|(replace H:=(Option.bind_some _ _).symm.trans H;rw [← hy273] at H)
           have Ny273:=Z hy273
           clear hy273
           have H':=Z H
           clear H
           try go_wp2_with (first|((with_reducible refine gate_callee (f:=36) rfl ?_);refine goesL_ (some 27) rfl rfl Tryz.func36 pU rfl #[.pointer (some ⟨g,0,none⟩),.int .i64 (wrap64 (x7_2+1))] rfl pG ?_;(with_reducible refine (qmake_Tape_N.calls g s0_0 x1001_2 (wrap64 (x7_2+1)) t268 t269 w0 _ ?side1 ?side2 A7.out).mono ?_);(case side1=>exact pI);(case side2=>exact pB);rintro e w14 ⟨rfl,hi,hb,hk⟩;refine ⟨_,rfl,?_⟩;replace HO_5:=Z (Kd.R_mono (Kd.R_keep (IsS95.apart (show IsS95 w0 _ g s0_0 x1001_2 from pI) (pR HO_5) (by decide)) hk (fun _ h=>h.2)) (fun _ h=>h.1));have n1_:=Z (KeepBut.trans pH hk (.inl rfl));have n2_:=Z (hb);have n3_:=Z (hi);clear HK HB HI0;have HK:=n1_;have HB:=n2_;have HI0:=n3_;clear n1_ n2_ n3_;(try clear hb);(try clear hb2);(try clear hk);(try clear hi)))
           have n0_:=Z (Kd.R_drew HO_5.out)
           have n1_:=Z (IsS95.drew HI0.out)
           have n2_:=Z (keep_drew HK.out)
           have n3_:=Z (wD HB.out)
           clear HO_5 HI0 HK HB
           have HO_5:=n0_
           have HI0:=n1_
           have HK:=n2_
           have HB:=n3_
           clear n0_ n1_ n2_ n3_
           obtain ⟨Ao16,co16,eo16⟩:=Kd.R_slice HO_5.out
           (first|subst eo16|(injection eo16 with f1_ f2_ f3_;have f4_:=f1_.symm;have f5_:=f3_.symm;clear f1_ f2_ f3_;subst f4_;subst f5_))
           have p270:0≤(t268:Int):=of_decide_eq_true pA
           have q270:t268 < (x5_2.length:Int):=of_decide_eq_true pA
           obtain ⟨ad270,e270,hx270_0⟩:=Kd.at_int (Kd.R_reads' HO_5.out).2.2 t268 p270 q270
           cases e270
           replace p270:=eq_true p270
           replace q270:=eq_true q270
           have p271:0≤(x7_2:Int):=of_decide_eq_true pA
           have q271:x7_2 < (x5_2.length:Int):=of_decide_eq_true pA
           obtain ⟨ad271,e271,hx271_0⟩:=Kd.at_int (Kd.R_reads' HO_5.out).2.2 x7_2 p271 q271
           obtain rfl:ad270=ad271:=(by injection e271)
           replace p271:=eq_true p271
           replace q271:=eq_true q271
           have p12:0≤(x7_2:Int):=of_decide_eq_true pA
           have q12:(x7_2:Int) < ((x5_2.length:Int):Int):=of_decide_eq_true pA
           obtain ⟨go12,co12,eo12,gb12,gl12,cl12,HG12⟩:=Kd.R_form HO_5.out (by omega)
           (first|cases eo12|(injection eo12 with ea_ en_ ec_;(first|subst ea_|(injection ea_ with ea_;subst ea_));subst ec_;clear en_))
           have GB12:=Z gb12
           have GG12:=Z HG12
           clear gb12 gl12 HG12
           (first|simp only [add_plain] at hx270_0|skip)
           (first|simp only [add_plain] at hx271_0|skip)
           obtain ⟨hx12_0,hf12_0⟩:=Kd.R_celln 0 HO_5.out (x7_2:Int) p12 q12
           replace p12:=eq_true p12
           replace q12:=eq_true q12
           have HN0_go12:=Z (show g ≠ go12 from by have h_:=IsS95.own_ne HI0.out HO_5.out (by decide);intro e_;exact h_ (by rw [e_];rfl))
           have HP17:=Kd.R_putn HO_5.out (x7_2:Int) (rd x5_2 t268)
           rw [← Ny272.out] at HP17
           have HQ17:=Z HP17
           clear HP17
           have p13:0≤(t268:Int):=of_decide_eq_true pA
           have q13:(t268:Int) < ((x5_2.length:Int):Int):=of_decide_eq_true pA
           obtain ⟨hx13_0,hf13_0⟩:=Kd.R_celln 0 HQ17.out (t268:Int) p13 q13
           replace p13:=eq_true p13
           replace q13:=eq_true q13
           have HN0_go12:=Z (show g ≠ go12 from by have h_:=IsS95.own_ne HI0.out HO_5.out (by decide);intro e_;exact h_ (by rw [e_];rfl))
           have HP18:=Kd.R_putn HQ17.out (t268:Int) (rd x5_2 x7_2)
           rw [← Ny273.out] at HP18
           have HQ18:=Z HP18
           clear HP18
           refine start_ (n:=16) (S:=fun w'=>w'.cell? ⟨go12,(t268).toNat,none⟩=some (.int .i64 (rd x5_2 t268))∧w'.cell? ⟨go12,(x7_2).toNat,none⟩=some (.int .i64 (rd x5_2 x7_2))) (ds:=[13,15]) #[false,false,false,false,false,false,false,false,false,false,false,false,false,false,false,false] pU rfl rfl ⟨hx270_0,hx271_0⟩ (fun hHeld=>?_);refine with_tabW qmake_Tape_Order.tab10 qmake_Tape_Order.bits10 (fun HT_ HW_=>?_)
           generalize w14.drew=w15 at HO_5 HI0 HK HB GG12 HQ17 HQ18 hf12_0 hf13_0 hx12_0 hx13_0 hx270_0 hx271_0 hHeld ⊢
           refine pure_ (i:=0) (N:=some 28) (v:=?_) (a':=?_) #[true,false,false,false,false,false,false,false,false,false,false,false,false,false,false,false] rfl rfl (any_of HT_.out pU) (fun _ _ _ h=>h) (Or.inl ⟨by rfl,?_⟩) ?_ ?_
           rotate_left
           ·intro w'
            go_simp
            with_reducible rfl
           rotate_left
           ·simp only [Act.put,List.setIfInBounds_toArray,List.set_cons_zero,List.set_cons_succ,i64_w,i32_w]
            rfl
           refine pure_ (i:=1) (N:=some 29) (v:=?_) (a':=?_) #[true,true,false,false,false,false,false,false,false,false,false,false,false,false,false,false] rfl rfl (any_of HT_.out pU) (fun _ _ _ h=>h) (Or.inl ⟨by rfl,?_⟩) ?_ ?_
           rotate_left
           ·intro w'
            go_simp
            with_reducible rfl
           rotate_left
           ·simp only [Act.put,List.setIfInBounds_toArray,List.set_cons_zero,List.set_cons_succ,i64_w,i32_w]
            rfl
           refine pure_ (i:=2) (N:=some 30) (v:=?_) (a':=?_) #[true,true,true,false,false,false,false,false,false,false,false,false,false,false,false,false] rfl rfl (any_of HT_.out pU) (fun _ _ _ h=>h) (Or.inl ⟨by rfl,?_⟩) ?_ ?_
           rotate_left
           ·intro w'
            go_simp
            with_reducible rfl
           rotate_left
           ·simp only [Act.put,List.setIfInBounds_toArray,List.set_cons_zero,List.set_cons_succ,i64_w,i32_w]
            rfl
           refine pure_ (i:=3) (N:=some 31) (v:=?_) (a':=?_) #[true,true,true,true,false,false,false,false,false,false,false,false,false,false,false,false] rfl rfl (any_of HT_.out pU) (fun _ _ _ h=>h) (Or.inl ⟨by rfl,?_⟩) ?_ ?_
           rotate_left
           ·intro w'
            go_simp
            with_reducible rfl
           rotate_left
           ·simp only [Act.put,List.setIfInBounds_toArray,List.set_cons_zero,List.set_cons_succ,i64_w,i32_w]
            rfl
           refine pure_ (i:=4) (N:=some 32) (v:=?_) (a':=?_) #[true,true,true,true,true,false,false,false,false,false,false,false,false,false,false,false] rfl rfl (any_of HT_.out pU) (fun _ _ _ h=>h) (Or.inl ⟨by rfl,?_⟩) ?_ ?_
           rotate_left
           ·intro w'
            go_simp
            with_reducible rfl
           rotate_left
           ·simp only [Act.put,List.setIfInBounds_toArray,List.set_cons_zero,List.set_cons_succ,i64_w,i32_w]
            rfl
           refine pure_ (i:=5) (N:=some 33) (v:=?_) (a':=?_) #[true,true,true,true,true,true,false,false,false,false,false,false,false,false,false,false] rfl rfl (any_of HT_.out pU) (fun _ _ _ h=>h) (Or.inl ⟨by rfl,?_⟩) ?_ ?_
           rotate_left
           ·intro w'
            go_simp
            with_reducible rfl
           rotate_left
           ·simp only [Act.put,List.setIfInBounds_toArray,List.set_cons_zero,List.set_cons_succ,i64_w,i32_w]
            rfl
           refine pure_ (i:=6) (N:=some 34) (v:=?_) (a':=?_) #[true,true,true,true,true,true,true,false,false,false,false,false,false,false,false,false] rfl rfl (any_of HT_.out pU) (fun _ _ _ h=>h) (Or.inl ⟨by rfl,?_⟩) ?_ ?_
           rotate_left
           ·intro w'
            go_simp
            with_reducible rfl
           rotate_left
           ·simp only [Act.put,List.setIfInBounds_toArray,List.set_cons_zero,List.set_cons_succ,i64_w,i32_w]
            rfl
           refine pure_ (i:=8) (N:=some 36) (v:=?_) (a':=?_) #[true,true,true,true,true,true,true,false,true,false,false,false,false,false,false,false] rfl rfl (any_of HT_.out pU) (fun _ _ _ h=>h) (Or.inl ⟨by rfl,?_⟩) ?_ ?_
           rotate_left
           ·intro w'
            go_simp
            with_reducible rfl
           rotate_left
           ·simp only [Act.put,List.setIfInBounds_toArray,List.set_cons_zero,List.set_cons_succ,i64_w,i32_w]
            rfl
           refine pure_ (i:=9) (N:=some 37) (v:=?_) (a':=?_) #[true,true,true,true,true,true,true,false,true,true,false,false,false,false,false,false] rfl rfl (any_of HT_.out pU) (fun _ _ _ h=>h) (Or.inl ⟨by rfl,?_⟩) ?_ ?_
           rotate_left
           ·intro w'
            go_simp
            with_reducible rfl
           rotate_left
           ·simp only [Act.put,List.setIfInBounds_toArray,List.set_cons_zero,List.set_cons_succ,i64_w,i32_w]
            rfl
           refine pure_ (i:=10) (N:=some 38) (v:=?_) (a':=?_) #[true,true,true,true,true,true,true,false,true,true,true,false,false,false,false,false] rfl rfl (any_of HT_.out pU) (fun _ _ _ h=>h) (Or.inl ⟨by rfl,?_⟩) ?_ ?_
           rotate_left
           ·intro w'
            go_simp
            with_reducible rfl
           rotate_left
           ·simp only [Act.put,List.setIfInBounds_toArray,List.set_cons_zero,List.set_cons_succ,i64_w,i32_w]
            rfl
           refine take_ (i:=7) (N:=some 35) (v:=?_) (a':=?_) #[true,true,true,true,true,true,true,true,true,true,true,false,false,false,false,false] rfl rfl (take_ofW HT_.out HW_.out pU) (fun _ _ _ h=>h) (Or.inl ⟨by rfl,?_⟩) hHeld ?_ ?_
           rotate_left
           ·rintro w' ⟨s0,s1⟩
            go_simp
            with_reducible rfl
           rotate_left
           ·simp only [Act.put,List.setIfInBounds_toArray,List.set_cons_zero,List.set_cons_succ,i64_w,i32_w]
            rfl
           refine take_ (i:=11) (N:=some 39) (v:=?_) (a':=?_) #[true,true,true,true,true,true,true,true,true,true,true,true,false,false,false,false] rfl rfl (take_ofW HT_.out HW_.out pU) (fun _ _ _ h=>h) (Or.inl ⟨by rfl,?_⟩) hHeld ?_ ?_
           rotate_left
           ·rintro w' ⟨s0,s1⟩
            go_simp
            with_reducible rfl
           rotate_left
           ·simp only [Act.put,List.setIfInBounds_toArray,List.set_cons_zero,List.set_cons_succ,i64_w,i32_w]
            rfl
           refine pure_ (i:=12) (N:=some 40) (v:=?_) (a':=?_) #[true,true,true,true,true,true,true,true,true,true,true,true,true,false,false,false] rfl rfl (any_of HT_.out pU) (fun _ _ _ h=>h) (Or.inl ⟨by rfl,?_⟩) ?_ ?_
           rotate_left
           ·intro w'
            go_simp
            with_reducible rfl
           rotate_left
           ·simp only [Act.put,List.setIfInBounds_toArray,List.set_cons_zero,List.set_cons_succ,i64_w,i32_w]
            rfl
           refine last_ (i:=13) (N:=none) #[true,true,true,true,true,true,true,true,true,true,true,true,true,true,false,false] rfl rfl (one_of HT_.out pU) (by decide) (fun K hK=>?_)
           refine skip_ (w1:=?_) (by rfl) rfl ?_ ?_
           rotate_left
           ·go_simp
            rfl
           refine hK.out _ _ ?_
           clear hK K
           refine pure_ (i:=14) (N:=some 41) (v:=?_) (a':=?_) #[true,true,true,true,true,true,true,true,true,true,true,true,true,true,true,false] rfl rfl (any_of HT_.out pU) (fun _ _ _ h=>h) (Or.inl ⟨by rfl,?_⟩) ?_ ?_
           rotate_left
           ·intro w'
            go_simp
            with_reducible rfl
           rotate_left
           ·simp only [Act.put,List.setIfInBounds_toArray,List.set_cons_zero,List.set_cons_succ,i64_w,i32_w]
            rfl
           refine last_ (i:=15) (N:=none) #[true,true,true,true,true,true,true,true,true,true,true,true,true,true,true,true] rfl rfl (one_of HT_.out pU) (by decide) (fun K hK=>?_)
           refine skip_ (w1:=?_) (by rfl) rfl ?_ ?_
           rotate_left
           ·go_simp
            rfl
           refine hK.out _ _ ?_
           clear hK K
           refine done_ (done_of HT_.out pU) ?_
           try go_wp2
           go_roundg k2
           case measure=>have:=HK1.out;have:=HK2.out;omega
           case rel=>exact ⟨(y273),(wrap64 (x7_2 - 1)),(t269),pE,H',⟨by have:=HK1.out;have:=HK2.out;omega⟩,⟨pR HQ18⟩,⟨pI⟩,⟨pH⟩,⟨by repeat (first|(with_reducible first|exact HB.out|apply wA|apply wN|apply wD|refine wS ?_ (Nat.le_trans HL.out GB12.out)|refine wS ?_ (Nat.le_trans HL.out GB12.out)|refine wS ?_ (IsS95.ge HI0.out))|exact HB.out)⟩⟩
          ·rw [if_neg c11] at H
           exact absurd H (by simp)
         ·rw [if_neg c10] at H
          exact absurd H (by simp)
        ·rw [if_neg c9] at H
         exact absurd H (by simp)
       ·rw [if_neg c8] at H
        exact absurd H (by simp)
      ·rw [if_neg c6] at H
       have c6b0:decide (0 < x7_2)=false:=decide_eq_false c6
       clear c6
       simp only [Option.some.injEq,Prod.mk.injEq] at H
       obtain ⟨rfl,rfl⟩:=H
       go_wp2
       go_ret
       exact ⟨_,pF,pR HO_5,pI,pB,pH⟩
def qmake_Tape_Pick.f (s0_0:List Int) (s0_1:Int) (l1:List Int):Option (Int × Int):=(qmake_Tape_N.f s0_0 s0_1 (l1.length:Int)).bind fun bt274=>(if 0≤bt274.1 then (if bt274.1 < (l1.length:Int) then (some (rd l1 bt274.1,bt274.2)) else (none)) else (none))
set_option maxHeartbeats 8000000 in
set_option maxRecDepth 100000 in
theorem qmake_Tape_Pick.calls (g:Nat) (s0_0:List Int) (s0_1:Int) (A1:Option Addr) (c1:Nat) (l1:List Int) (r1:Int) (r2:Int) (w0 w:World) (hI:IsS95 w0 w g s0_0 s0_1) (hB:Below w0.heap.size w0 w) (hr1:Kd.C (Kd.int .i64) w A1 l1.length l1) (hc1:l1.length≤c1) (hf1:∀ ad,A1=some ad→0 < l1.length→ad.block ≠ g) (h:qmake_Tape_Pick.f s0_0 s0_1 l1=some (r1,r2)) :
  Calls Tryz.prog 87 #[.pointer (some ⟨g,0,none⟩),.slice A1 l1.length c1] w fun e w'=>e=.returned (.int .i64 r1)∧IsS95 w0 w' g s0_0 r2∧Below w0.heap.size w0 w'∧KeepBut w w' g none:=by
 have HR1:=Z hr1
 have HC1:=Z hc1
 clear hr1 hc1
 have HI0:=Z hI
 have HK:=Z (KeepBut.refl w g none)
 have HL:=Z hB.size
 clear hI
 have HW0:=Z hB.size
 have HB:=Z hB
 clear hB
 have H:((qmake_Tape_N.f s0_0 s0_1 (l1.length:Int)).bind fun bt274=>(if 0≤bt274.1 then (if bt274.1 < (l1.length:Int) then (some (rd l1 bt274.1,bt274.2)) else (none)) else (none)))=some (r1,r2):=h
 clear h
 replace H:=pO H
 obtain ⟨⟨t274,t275⟩,A30,H⟩:=H
 try dsimp only at H
 have A3:=Z A30
 clear A30
 by_cases c4:0≤t274
 ·rw [if_pos c4] at H
  have c4b0:decide (0≤t274)=true:=decide_eq_true c4
  clear c4
  by_cases c5:t274 < (l1.length:Int)
  ·rw [if_pos c5] at H
   have c5b0:decide (t274 < (l1.length:Int))=true:=decide_eq_true c5
   clear c5
   simp only [Option.some.injEq,Prod.mk.injEq] at H
   obtain ⟨rfl,rfl⟩:=H
   go_enter Tryz.func87,Tryz.ntmps87
   go_wp2_with (first|((with_reducible refine gate_callee (f:=36) rfl ?_);refine goesL_ (some 9) rfl rfl Tryz.func36 pU rfl #[.pointer (some ⟨g,0,none⟩),.int .i64 (l1.length:Int)] rfl pG ?_;(with_reducible refine (qmake_Tape_N.calls g s0_0 s0_1 (l1.length:Int) t274 t275 w0 _ ?side1 ?side2 A3.out).mono ?_);(case side1=>exact pI);(case side2=>exact pB);rintro e w6 ⟨rfl,hi,hb,hk⟩;refine ⟨_,rfl,?_⟩;have n0_:=Z (KeepBut.trans pH hk (.inl rfl));have n1_:=Z (hb);have n2_:=Z (hi);clear HK HB HI0;have HK:=n0_;have HB:=n1_;have HI0:=n2_;clear n0_ n1_ n2_;(try clear hb);(try clear hb2);(try clear hk);(try clear hi);have p276:0≤(t274:Int):=of_decide_eq_true pA;have q276:t274 < (l1.length:Int):=of_decide_eq_true pA;obtain ⟨ad276,e276,hx276_0⟩:=Kd.at_int HR1.out t274 p276 q276;cases e276;replace hx276_0:=keep_cell HK.out hx276_0 (by first|(rw [add_block];exact hf1 _ rfl (by omega))|exact hf1 _ rfl (by omega)|exact hf1 ad276 rfl (by omega));replace p276:=eq_true p276;replace q276:=eq_true q276))
   go_ret
   exact ⟨pF,pI,pB,pH⟩
  ·rw [if_neg c5] at H
   exact absurd H (by simp)
 ·rw [if_neg c4] at H
  exact absurd H (by simp)
def qmake_most.l0:Nat→Int→Int→List Int→Int→Int→List Int→Option (Int × List Int × (List (S90)) × Int)
 | 0,_,_,_,_,_,_=>none
 | k+1,x1,x6,x1000,x1001,x317000,x317001=>if x6 < x1 then ((qmake_Tape_N.f x1000 x1001 10).bind fun bt317=>(if bt317.1 < 9 then (if x317001.length < 17592186044416 then (qmake_most.l0 k x1 (wrap64 (x6+1)) x1000 bt317.2 x317000 (x317001++[x6])) else (none)) else (qmake_most.l0 k x1 (wrap64 (x6+1)) x1000 bt317.2 x317000 x317001))) else (if (x317001.length:Int)=0 then ((some (([0]:List Int):List Int)).bind fun y322=>((qmake_Tape_Pick.f x1000 x1001 (([0,0,0,1,(-1)]:List Int))).bind fun bt328=>(some (mn (y322.length:Int) (mx 1 (wrap64 ((wrap64 (Int.tdiv (wrap64 ((wrap64 (2 * (y322.length:Int)))+2)) 3))+bt328.1))),y322,([]:List (S90)),bt328.2)))) else ((qmake_Tape_Pick.f x1000 x1001 (([0,0,0,1,(-1)]:List Int))).bind fun bt333=>(some (mn (x317001.length:Int) (mx 1 (wrap64 ((wrap64 (Int.tdiv (wrap64 ((wrap64 (2 * (x317001.length:Int)))+2)) 3))+bt333.1))),x317001,([]:List (S90)),bt333.2))))
def qmake_most.f (k:Nat) (s0_0:List Int) (s0_1:Int) (a1:Int):Option (Int × List Int × (List (S90)) × Int):=qmake_most.l0 k a1 0 s0_0 s0_1 0 ([]:List Int)
def qmake_most.T9:Bool × List (List Nat × List Nat):=(true,[([],[]),([0],[0]),([1],[1]),([],[]),([3],[3]),([4],[4]),([5],[5]),([6],[6]),([7],[7]),([],[]),([],[]),([9,10],[9,10]),([8,11],[8,11]),([12],[12]),([2,13],[2,13]),([0,1,2,3,4,5,6,7,8,9,10,11,12,13,14],[]),([15,14,11,0,1,2,3,4,5,6,7,8,9,10,11,12,13,14],[14,15])])
def qmake_most.B9:List Nat:=[0,1,3,0,8,24,56,120,248,0,0,1536,4088,8184,16383,32767,65535]
theorem qmake_most.tab9:rtab .any (opsOf Tryz.f92 9)=qmake_most.T9:=by kernel_rfl
theorem qmake_most.bits9:waitsOk qmake_most.T9.2 qmake_most.B9=true:=by kernel_rfl
set_option maxHeartbeats 8000000 in
set_option maxRecDepth 100000 in
theorem qmake_most.calls (k:Nat) (g:Nat) (s0_0:List Int) (s0_1:Int) (a1:Int) (r1:Int) (r2:List Int) (r3:List (S90)) (r4:Int) (w0 w:World) (hI:IsS95 w0 w g s0_0 s0_1) (hB:Below w0.heap.size w0 w) (h:qmake_most.f k s0_0 s0_1 a1=some (r1,r2,r3,r4)) :
  Calls Tryz.prog 92 #[.pointer (some ⟨g,0,none⟩),.int .i64 a1] w fun e w'=>∃ v1_ v2_:Value,e=.returned (.agg #[.int .i64 r1,v1_,v2_])∧Kd.R (Kd.int .i64) 3 w' w.heap.size (fun _=>True) v1_ r2∧Kd.R k90 90 w' w.heap.size (fun k_=>some k_ ≠ (v1_:Value).ownBlock) v2_ r3∧IsS95 w0 w' g s0_0 r4∧Below w0.heap.size w0 w'∧KeepBut w w' g none:=by
 have hu90:=Tryz.underlying90
 have HI0:=Aside0.mk hI
 have HK:=Aside0.mk (KeepBut.refl w g none)
 have HL:=Aside0.mk hB.size
 clear hI
 have HW0:=Aside0.mk hB.size
 have HB:=Aside0.mk hB
 clear hB
 have H:(qmake_most.l0 k a1 0 s0_0 s0_1 0 ([]:List Int))=some (r1,r2,r3,r4):=h
 clear h
 have H':=Aside0.mk H
 clear H
 go_enter Tryz.func92,Tryz.ntmps92
 go_wp2_with (first|((with_reducible refine gate_dst (N:=4) rfl ?_);refine box_event ?hg (N:=4) ?hd (cs:=#[.int .i64 0,.slice none 0 0,.slice none 0 0]) (t:=90) ?hr ?_;(case hd=>rfl);(case hg=>rfl);(case hr=>first|(go_simp;done)|(go_simp;rfl));intro gb315 hg w3 hbox hb;have n0_:=Z (IsS95.below pI hb);have n1_:=Z (KeepBut.trans pH (KeepBut.of_below hb g none) (.inl rfl));have n2_:=Z (below_step pB hb);have BK315:=Z (hbox);have GW315:=Z ((pS hg:w.heap.size≤gb315));have GE315:=Z ((Nat.le_trans HW0.out (pS hg:w.heap.size≤gb315):w0.heap.size≤gb315));have NB0_315:=Z ((pL71 hg (show IsS95 w0 _ g s0_0 s0_1 from pI):g ≠ gb315));have NB315_0:=Z ((pM71 hg (show IsS95 w0 _ g s0_0 s0_1 from pI):gb315 ≠ g));clear HI0 HK HB;have HI0:=n0_;have HK:=n1_;have HB:=n2_;clear n0_ n1_ n2_ hb hbox hg)|((with_reducible refine gate_dst (N:=5) rfl ?_);refine box_event ?hg (N:=5) ?hd (cs:=#[.int .i64 0,.slice none 0 0,.slice none 0 0]) (t:=90) ?hr ?_;(case hd=>rfl);(case hg=>rfl);(case hr=>first|(go_simp;done)|(go_simp;rfl));intro gb316 hg w4 hbox hb;have n0_:=Z (IsS95.below pI hb);have n1_:=Z (blk_below (g:=gb315) (o:=.cells #[.int .i64 0,.slice none 0 0,.slice none 0 0] 90 (0,0)) (pK BK315) hb);have n2_:=Z (KeepBut.trans pH (KeepBut.of_below hb g none) (.inl rfl));have n3_:=Z (below_step pB hb);have BK316:=Z (hbox);have GW316:=Z ((pS hg:w.heap.size≤gb316));have GE316:=Z ((Nat.le_trans HW0.out (pS hg:w.heap.size≤gb316):w0.heap.size≤gb316));have NB315_316:=Z ((pL hg (pK BK315):gb315 ≠ gb316));have NB316_315:=Z ((pM hg (pK BK315):gb316 ≠ gb315));have NB0_316:=Z ((pL71 hg (show IsS95 w0 _ g s0_0 s0_1 from pI):g ≠ gb316));have NB316_0:=Z ((pM71 hg (show IsS95 w0 _ g s0_0 s0_1 from pI):gb316 ≠ g));clear HI0 BK315 HK HB;have HI0:=n0_;have BK315:=n1_;have HK:=n2_;have HB:=n3_;clear n0_ n1_ n2_ n3_ hb hbox hg;have hnb5:=NB316_315.out;have hnc5:=NB315_316.out;have hnb6:=NB316_0.out;have hnc6:=NB0_316.out;obtain ⟨hcz7_0,hcz7_1,hcz7_2,hfz7_0,hfz7_1,hfz7_2⟩:=p3 BK316))
 go_loopg [6] k (fun kq v6 w'=>∃ (x6_1:Int) (x1001_1:Int) (x317001_1:List Int) (u317001:Value),v6=.int .i64 x6_1∧Aside0 (qmake_most.l0 kq a1 x6_1 s0_0 x1001_1 0 x317001_1=some (r1,r2,r3,r4))∧Aside0 (kq≤k)∧Aside0 (Kd.R (Kd.int .i64) 3 w' w.heap.size (fun _=>True) u317001 x317001_1)∧Aside0 (w'.heap[gb315]?=some (.cells #[.int .i64 0,(.slice none 0 0),(.slice none 0 0)] 90 (0,0)))∧Aside0 (w'.heap[gb316]?=some (.cells #[.int .i64 0,u317001,(.slice none 0 0)] 90 (0,0)))∧Aside0 (IsS95 w0 w' g s0_0 x1001_1)∧Aside0 (KeepBut w w' g none)∧Aside0 (Below w0.heap.size w0 w'))
 case atStart=>exact ⟨(0),(s0_1),(([]:List Int)),(.slice none 0 0),pE,H',⟨Nat.le_refl _⟩,⟨pN⟩,⟨by refine pQ ?_;refine blk_far ?_ NB315_316.out _;refine pQ ?_;refine blk_far ?_ NB315_316.out _;refine pQ ?_;refine blk_far ?_ NB315_316.out _;exact pK BK315⟩,⟨by refine pQ ?_;refine blk_put (cs:=#[.int .i64 0,.slice none 0 0,.slice none 0 0]) ?_ 2 _ rfl;refine pQ ?_;refine blk_put (cs:=#[.int .i64 0,.slice none 0 0,.slice none 0 0]) ?_ 1 _ rfl;refine pQ ?_;refine blk_put (cs:=#[.int .i64 0,.slice none 0 0,.slice none 0 0]) ?_ 0 _ rfl;exact pK BK316⟩,⟨pI⟩,⟨pH⟩,⟨pB⟩⟩
 case round =>
  clear H'
  try clear p2
  try clear c5
  try clear c6
  try clear hcz7_0
  try clear hcz7_1
  try clear hcz7_2
  try clear hfz7_0
  try clear hfz7_1
  try clear hfz7_2
  obtain ⟨x6_1,x1001_1,x317001_1,u317001,rfl,HA,HK1,HO_317001,BK315,BK316,HI0,HK,HB⟩:=hrel
  cases gk with
  | zero=>exact absurd HA.out (by simp [qmake_most.l0])
  | succ k1 =>
   have H:=HA.out
   clear HA
   simp only [qmake_most.l0] at H
   by_cases c8:x6_1 < a1
   ·rw [if_pos c8] at H
    have c8b0:decide (x6_1 < a1)=true:=decide_eq_true c8
    clear c8
    replace H:=pO H
    obtain ⟨⟨t317,t318⟩,A90,H⟩:=H
    replace H:(if t317 < 9 then (if x317001_1.length < 17592186044416 then (qmake_most.l0 k1 a1 (wrap64 (x6_1+1)) s0_0 t318 0 (x317001_1++[x6_1])) else (none)) else (qmake_most.l0 k1 a1 (wrap64 (x6_1+1)) s0_0 t318 0 x317001_1))=some (r1,r2,r3,r4):=H
    have A9:=Aside0.mk A90
    clear A90
    by_cases c10:t317 < 9
    ·rw [if_pos c10] at H
     have c10b0:decide (t317 < 9)=true:=decide_eq_true c10
     clear c10
     by_cases c11:x317001_1.length < 17592186044416
     ·rw [if_pos c11] at H
      have LMc11:=Aside0.mk c11
      clear c11
      obtain ⟨y319,hy319⟩:∃ y_:List Int,y_=(x317001_1++[x6_1]):=⟨_,rfl⟩
      replace H:(qmake_most.l0 k1 a1 (wrap64 (x6_1+1)) s0_0 t318 0 y319)=some (r1,r2,r3,r4):=by first|(rw [hy319];with_reducible exact H)|(have H2_:=(Option.bind_some _ _).symm.trans H;rw [hy319];with_reducible exact H2_)|(have H2_:=(Option.bind_some _ _).symm.trans H;with_reducible exact H2_)|with_reducible exact H|(rw [hy319];exact H)|exact H
      have Ny319:=Aside0.mk hy319
      clear hy319
      have H':=Aside0.mk H
      clear H
      go_wp2_with (first|((with_reducible refine gate_callee (f:=36) rfl ?_);refine goesL_ (some 14) rfl rfl Tryz.func36 pU rfl #[.pointer (some ⟨g,0,none⟩),.int .i64 10] rfl pG ?_;(with_reducible refine (qmake_Tape_N.calls g s0_0 x1001_1 10 t317 t318 w0 _ ?side1 ?side2 A9.out).mono ?_);(case side1=>exact pI);(case side2=>exact pB);rintro e w12 ⟨rfl,hi,hb,hk⟩;refine ⟨_,rfl,?_⟩;replace HO_317001:=Z (Kd.R_mono (Kd.R_keep (IsS95.apart (show IsS95 w0 _ g s0_0 x1001_1 from pI) (pR HO_317001) (by decide)) hk (fun _ h=>h.2)) (fun _ h=>h.1));replace BK315:=Z (KeepBut.blk hk (g':=gb315) (o:=.cells #[.int .i64 0,.slice none 0 0,.slice none 0 0] 90 (0,0)) (pK BK315) NB315_0.out (by simp));replace BK316:=Z (KeepBut.blk hk (g':=gb316) (o:=.cells #[.int .i64 0,u317001,.slice none 0 0] 90 (0,0)) (pK BK316) NB316_0.out (by simp));have n3_:=Z (KeepBut.trans pH hk (.inl rfl));have n4_:=Z (hb);have n5_:=Z (hi);clear HK HB HI0;have HK:=n3_;have HB:=n4_;have HI0:=n5_;clear n3_ n4_ n5_;(try clear hb);(try clear hb2);(try clear hk);(try clear hi);have hnb13:=NB316_315.out;have hnc13:=NB315_316.out;have hnb14:=NB316_0.out;have hnc14:=NB0_316.out;obtain ⟨hcz15_0,hcz15_1,hcz15_2,hfz15_0,hfz15_1,hfz15_2⟩:=p3 BK316)|((with_reducible refine gate_builtin (b:=.append) (xs:=#[.tmp 17,.tmp 19]) rfl ?_);at_builtin;refine Kd.R_append (Kd.int .i64) w.heap.size rfl (.tmp 17) (.tmp 19) 22 3 (.int .i64 0) 8 rfl Tryz.underlying22 info3 rfl (by decide) (by omega) u317001 x317001_1 x6_1 [.int .i64 x6_1] (fun _=>True) (fun _=>False) rfl rfl ?aP (fun _ hk=>hk.elim) ?aF ?aO (Below.refl _ _) ?aS ?aL ?_;(case aP=>exact rfl);(case aF=>exact (fun _ _=>trivial));(case aO=>exact (pR HO_317001));(case aS=>exact (keep_size (w:=w) (g:=g) (row:=none) pH));(case aL=>have:=LMc11.out;omega);intro v320 w16 ho hb hg hat;rw [← Ny319.out] at ho;have n0_:=Z (blk_grown (g:=gb315) (o:=.cells #[.int .i64 0,.slice none 0 0,.slice none 0 0] 90 (0,0)) (pK BK315) hg (Kd.R_ne HO_317001.out BK315.out (by decide)));have n1_:=Z (blk_grown (g:=gb316) (o:=.cells #[.int .i64 0,u317001,.slice none 0 0] 90 (0,0)) (pK BK316) hg (Kd.R_ne HO_317001.out BK316.out (by decide)));have n2_:=Z (IsS95.grown pI hg (IsS95.own_ne HI0.out HO_317001.out (by decide)));have n3_:=Z (below_weaken pB HL.out hb);have n4_:=Z (KeepBut.trans pH (KeepBut.of_grown hg g) (Kd.R_base2 HO_317001.out));have n5_:=Z (ho);clear BK315 BK316 HI0 HB HK HO_317001;have BK315:=n0_;have BK316:=n1_;have HI0:=n2_;have HB:=n3_;have HK:=n4_;have HO321:=n5_;clear n0_ n1_ n2_ n3_ n4_ n5_ ho hb hg hat;obtain ⟨Ao17,co17,eo17⟩:=Kd.R_slice HO321.out;subst eo17;obtain ⟨hcz18_0,hcz18_1,hcz18_2,hfz18_0,hfz18_1,hfz18_2⟩:=p3 BK316))
      go_roundg k1
      case measure=>have:=HK1.out;omega
      case rel=>exact ⟨(wrap64 (x6_1+1)),(t318),(y319),(.slice Ao17 y319.length co17),pE,H',⟨by have:=HK1.out;omega⟩,⟨by refine pP ?_;exact Kd.R_mono (Kd.R_far (p:=⟨gb316,1,none⟩) (Kd.R_types HO321.out BK316.out (by decide)) (fun _ hk=>hk.2) (.slice Ao17 y319.length co17)) (fun _ hk=>trivial)⟩,⟨by refine pQ ?_;refine blk_far ?_ NB315_316.out _;exact pK BK315⟩,⟨by refine pQ ?_;refine blk_put (cs:=#[.int .i64 0,u317001,.slice none 0 0]) ?_ 1 _ rfl;exact pK BK316⟩,⟨pI⟩,⟨pH⟩,⟨pB⟩⟩
     ·rw [if_neg c11] at H
      exact absurd H (by simp)
    ·rw [if_neg c10] at H
     have c10b0:decide (t317 < 9)=false:=decide_eq_false c10
     clear c10
     have H':=Aside0.mk H
     clear H
     go_wp2_with (first|((with_reducible refine gate_callee (f:=36) rfl ?_);refine goesL_ (some 14) rfl rfl Tryz.func36 pU rfl #[.pointer (some ⟨g,0,none⟩),.int .i64 10] rfl pG ?_;(with_reducible refine (qmake_Tape_N.calls g s0_0 x1001_1 10 t317 t318 w0 _ ?side1 ?side2 A9.out).mono ?_);(case side1=>exact pI);(case side2=>exact pB);rintro e w19 ⟨rfl,hi,hb,hk⟩;refine ⟨_,rfl,?_⟩;replace HO_317001:=Z (Kd.R_mono (Kd.R_keep (IsS95.apart (show IsS95 w0 _ g s0_0 x1001_1 from pI) (pR HO_317001) (by decide)) hk (fun _ h=>h.2)) (fun _ h=>h.1));replace BK315:=Z (KeepBut.blk hk (g':=gb315) (o:=.cells #[.int .i64 0,.slice none 0 0,.slice none 0 0] 90 (0,0)) (pK BK315) NB315_0.out (by simp));replace BK316:=Z (KeepBut.blk hk (g':=gb316) (o:=.cells #[.int .i64 0,u317001,.slice none 0 0] 90 (0,0)) (pK BK316) NB316_0.out (by simp));have n3_:=Z (KeepBut.trans pH hk (.inl rfl));have n4_:=Z (hb);have n5_:=Z (hi);clear HK HB HI0;have HK:=n3_;have HB:=n4_;have HI0:=n5_;clear n3_ n4_ n5_;(try clear hb);(try clear hb2);(try clear hk);(try clear hi)))
     go_roundg k1
     case measure=>have:=HK1.out;omega
     case rel=>exact ⟨(wrap64 (x6_1+1)),(t318),(x317001_1),(u317001),pE,H',⟨by have:=HK1.out;omega⟩,⟨pR HO_317001⟩,⟨pK BK315⟩,⟨pK BK316⟩,⟨pI⟩,⟨pH⟩,⟨pB⟩⟩
   ·rw [if_neg c8] at H
    have c8b0:decide (x6_1 < a1)=false:=decide_eq_false c8
    clear c8
    by_cases c20:(x317001_1.length:Int)=0
    ·rw [if_pos c20] at H
     have c20b0:((x317001_1.length:Int) == 0)=true:=beq_iff_eq.mpr c20
     have c20b1:((x317001_1.length:Int) != 0)=false:=bne_eq_false_iff_eq.mpr c20
     clear c20
     obtain ⟨y322,hy322⟩:∃ y_:List Int,y_=(([0]:List Int)):=⟨_,rfl⟩
     replace H:((qmake_Tape_Pick.f s0_0 x1001_1 (([0,0,0,1,(-1)]:List Int))).bind fun bt328=>(some (mn (y322.length:Int) (mx 1 (wrap64 ((wrap64 (Int.tdiv (wrap64 ((wrap64 (2 * (y322.length:Int)))+2)) 3))+bt328.1))),y322,([]:List (S90)),bt328.2)))=some (r1,r2,r3,r4):=by first|(rw [hy322];with_reducible exact H)|(have H2_:=(Option.bind_some _ _).symm.trans H;rw [hy322];with_reducible exact H2_)|(have H2_:=(Option.bind_some _ _).symm.trans H;with_reducible exact H2_)|with_reducible exact H|(rw [hy322];exact H)|exact H
     have Ny322:=Aside0.mk hy322
     clear hy322
     obtain ⟨y325,hy325⟩:∃ y_:List Int,y_=(([0,0,0,1,(-1)]:List Int)):=⟨_,rfl⟩
     replace H:((qmake_Tape_Pick.f s0_0 x1001_1 y325).bind fun bt328=>(some (mn (y322.length:Int) (mx 1 (wrap64 ((wrap64 (Int.tdiv (wrap64 ((wrap64 (2 * (y322.length:Int)))+2)) 3))+bt328.1))),y322,([]:List (S90)),bt328.2)))=some (r1,r2,r3,r4):=by first|(rw [hy325];with_reducible exact H)|(have H2_:=(Option.bind_some _ _).symm.trans H;rw [hy325];with_reducible exact H2_)|(have H2_:=(Option.bind_some _ _).symm.trans H;with_reducible exact H2_)|with_reducible exact H|(rw [hy325];exact H)|exact H
     have Ny325:=Aside0.mk hy325
     clear hy325
     replace H:=pO H
     obtain ⟨⟨t328,t329⟩,A210,H⟩:=H
     replace H:(some (mn (y322.length:Int) (mx 1 (wrap64 ((wrap64 (Int.tdiv (wrap64 ((wrap64 (2 * (y322.length:Int)))+2)) 3))+t328))),y322,([]:List (S90)),t329))=some (r1,r2,r3,r4):=H
     have A21:=Aside0.mk A210
     clear A210
     obtain ⟨ji22,hji22⟩:∃ j_:Int,(mx 1 (wrap64 ((wrap64 (Int.tdiv (wrap64 ((wrap64 (2 * (y322.length:Int)))+2)) 3))+t328)))=j_:=⟨_,rfl⟩
     replace H:(some (mn (y322.length:Int) (ji22),y322,([]:List (S90)),t329))=some (r1,r2,r3,r4):=by first|(rw [hji22] at H;exact H)|(simp only [hji22] at H ⊢;exact H)
     (try rw [hji22] at A21)
     (try (have hji22l:1≤ji22:=by (rw [← hji22];unfold mx;(repeat' split) <;> omega)))
     (try (have hji22m:0≤ji22:=by omega))
     have hji22_:(if 1 < (wrap64 ((wrap64 (Int.tdiv (wrap64 ((wrap64 (2 * (y322.length:Int)))+2)) 3))+t328)) then (wrap64 ((wrap64 (Int.tdiv (wrap64 ((wrap64 (2 * (y322.length:Int)))+2)) 3))+t328)) else 1)=ji22:=hji22
     obtain ⟨ji23,hji23⟩:∃ j_:Int,(mn (y322.length:Int) (ji22))=j_:=⟨_,rfl⟩
     replace H:(some (ji23,y322,([]:List (S90)),t329))=some (r1,r2,r3,r4):=by first|(rw [hji23] at H;exact H)|(simp only [hji23] at H ⊢;exact H)
     (try rw [hji23] at A21)
     have hji23_:(if (ji22) < (y322.length:Int) then (ji22) else (y322.length:Int))=ji23:=hji23
     simp only [Option.some.injEq,Prod.mk.injEq] at H
     obtain ⟨rfl,rfl,rfl,rfl⟩:=H
     have hnb24:=NB316_315.out
     have hnc24:=NB315_316.out
     have hnb25:=NB316_0.out
     have hnc25:=NB0_316.out
     have hcz26_0:=pV BK316 (.int .i64 0) 0 rfl
     have hcz26_1:=pV BK316 (u317001) 1 rfl
     have hcz26_2:=pV BK316 (.slice none 0 0) 2 rfl
     have hfz26_0:=kF BK316.out 0
     have hfz26_1:=kF BK316.out 1
     have hfz26_2:=kF BK316.out 2
     obtain ⟨Ao27,co27,eo27⟩:=Kd.R_slice HO_317001.out
     subst eo27
     try go_wp2_with (first|((with_reducible refine gate_dst (N:=26) rfl ?_);refine Kd.R_lit (Kd.int .i64) _ 3 ?hg (N:=26) ?hd (xs:=([0]:List Int)) (inner:=[.int .i64 0]) (ok:=fun _=>True) (okp:=fun _=>True) ?hr ?hp (fun _ hk=>hk) trivial (Below.refl _ _) (Nat.le_refl _) (by simp) ?_;(case hd=>rfl);(case hg=>rfl);(case hr=>first|(go_simp;done)|(go_simp;rfl));(case hp=>exact (Reps.one (show Kd.M (Kd.int .i64) _ _ _ 0 [.int .i64 0] from rfl) (Reps.none _ _)));intro v323 w28 ho29 hb hg_ hnew_;clear hg_ hnew_;(first|rw [← Ny322.out] at ho29|(simp only [Int.reduceToNat] at ho29;rw [← Ny322.out] at ho29));have n0_:=Z (Kd.R_elder' (pR HO_317001) (Kd.R_base ho29) hb);have HO324:=Z (Kd.R_lower (Kd.R_new' ho29 (Kd.R_lt (pR HO_317001))) (keep_size (w:=w) (g:=g) (row:=none) pH));replace BK315:=Z (blk_below (g:=gb315) (o:=.cells #[.int .i64 0,.slice none 0 0,.slice none 0 0] 90 (0,0)) (pK BK315) hb);replace BK316:=Z (blk_below (g:=gb316) (o:=.cells #[.int .i64 0,.slice Ao27 x317001_1.length co27,.slice none 0 0] 90 (0,0)) (pK BK316) hb);have n4_:=Z (IsS95.below pI hb);have n5_:=Z (KeepBut.trans pH (KeepBut.of_below hb g none) (.inl rfl));have n6_:=Z (below_step pB hb);clear HO_317001 HI0 HK HB;have HO_317001:=n0_;have HI0:=n4_;have HK:=n5_;have HB:=n6_;clear n0_ n4_ n5_ n6_ hb ho29;obtain ⟨Ao30,co30,eo30⟩:=Kd.R_slice HO324.out;subst eo30;obtain ⟨hcz31_0,hcz31_1,hcz31_2,hfz31_0,hfz31_1,hfz31_2⟩:=p3 BK316))
     have n0_:Aside0 (Kd.R (Kd.int .i64) 3 (w28.setCell ⟨gb316,1,none⟩ (.slice Ao30 y322.length co30)) w.heap.size (fun k_=>some k_ ≠ (.slice Ao30 y322.length co30:Value).ownBlock) (.slice Ao27 x317001_1.length co27) x317001_1):=⟨by refine pP ?_;exact Kd.R_mono (Kd.R_far (p:=⟨gb316,1,none⟩) (Kd.R_types HO_317001.out BK316.out (by decide)) (fun _ hk=>hk.2) (.slice Ao30 y322.length co30)) (fun _ hk=>hk.1.2)⟩
     have n1_:Aside0 (Kd.R (Kd.int .i64) 3 (w28.setCell ⟨gb316,1,none⟩ (.slice Ao30 y322.length co30)) w.heap.size (fun k_=>some k_ ≠ (.slice Ao27 x317001_1.length co27:Value).ownBlock) (.slice Ao30 y322.length co30) y322):=⟨by refine pP ?_;exact Kd.R_mono (Kd.R_far (p:=⟨gb316,1,none⟩) (Kd.R_types HO324.out BK316.out (by decide)) (fun _ hk=>hk.2) (.slice Ao30 y322.length co30)) (fun _ hk=>hk.1.2)⟩
     have n2_:Aside0 ((w28.setCell ⟨gb316,1,none⟩ (.slice Ao30 y322.length co30)).heap[gb315]?=some (.cells #[.int .i64 0,.slice none 0 0,.slice none 0 0] 90 (0,0))):=⟨by refine pQ ?_;refine blk_far ?_ NB315_316.out _;exact pK BK315⟩
     have n3_:Aside0 ((w28.setCell ⟨gb316,1,none⟩ (.slice Ao30 y322.length co30)).heap[gb316]?=some (.cells #[.int .i64 0,.slice Ao30 y322.length co30,.slice none 0 0] 90 (0,0))):=⟨by refine pQ ?_;refine blk_put (cs:=#[.int .i64 0,.slice Ao27 x317001_1.length co27,.slice none 0 0]) ?_ 1 _ rfl;exact pK BK316⟩
     have n4_:Aside0 (IsS95 w0 (w28.setCell ⟨gb316,1,none⟩ (.slice Ao30 y322.length co30)) g s0_0 x1001_1):=⟨pI⟩
     have n5_:Aside0 (KeepBut w (w28.setCell ⟨gb316,1,none⟩ (.slice Ao30 y322.length co30)) g none):=⟨pH⟩
     have n6_:Aside0 (Below w0.heap.size w0 (w28.setCell ⟨gb316,1,none⟩ (.slice Ao30 y322.length co30))):=⟨pB⟩
     (try clear HO_317001)
     (try clear HO324)
     (try clear BK315)
     (try clear BK316)
     (try clear HI0)
     (try clear HK)
     (try clear HB)
     generalize (w28.setCell ⟨gb316,1,none⟩ (.slice Ao30 y322.length co30))=w32 at n0_ n1_ n2_ n3_ n4_ n5_ n6_ ⊢
     have HO_317001:=n0_
     have HO324:=n1_
     have BK315:=n2_
     have BK316:=n3_
     have HI0:=n4_
     have HK:=n5_
     have HB:=n6_
     clear n0_ n1_ n2_ n3_ n4_ n5_ n6_
     have n0_:=Z (Kd.R_drew HO_317001.out)
     have n1_:=Z (Kd.R_drew HO324.out)
     have n2_:=Z (kD BK315.out)
     have n3_:=Z (kD BK316.out)
     have n4_:=Z (IsS95.drew HI0.out)
     have n5_:=Z (keep_drew HK.out)
     have n6_:=Z (wD HB.out)
     clear HO_317001 HO324 BK315 BK316 HI0 HK HB
     have HO_317001:=n0_
     have HO324:=n1_
     have BK315:=n2_
     have BK316:=n3_
     have HI0:=n4_
     have HK:=n5_
     have HB:=n6_
     clear n0_ n1_ n2_ n3_ n4_ n5_ n6_
     refine start_ (n:=17) (S:=fun w'=>w'.cell? ⟨gb316,0,none⟩=some (.int .i64 0)∧w'.cell? ⟨gb316,1,none⟩=some (.slice Ao30 y322.length co30)∧w'.cell? ⟨gb316,2,none⟩=some (.slice none 0 0)) (ds:=[16]) #[false,false,false,false,false,false,false,false,false,false,false,false,false,false,false,false,false] pU rfl rfl ⟨(kC BK316.out 0).trans rfl,(kC BK316.out 1).trans rfl,(kC BK316.out 2).trans rfl⟩ (fun hHeld=>?_);refine with_tabW qmake_most.tab9 qmake_most.bits9 (fun HT_ HW_=>?_)
     generalize w32.drew=w33 at HO_317001 HO324 BK315 BK316 HI0 HK HB hHeld ⊢
     refine pure_ (i:=0) (N:=some 28) (v:=?_) (a':=?_) #[true,false,false,false,false,false,false,false,false,false,false,false,false,false,false,false,false] rfl rfl (any_of HT_.out pU) (fun _ _ _ h=>h) (Or.inl ⟨by rfl,?_⟩) ?_ ?_
     rotate_left
     ·intro w'
      go_simp
      with_reducible rfl
     rotate_left
     ·simp only [Act.put,List.setIfInBounds_toArray,List.set_cons_zero,List.set_cons_succ,i64_w,i32_w]
      rfl
     refine pure_ (i:=3) (N:=some 31) (v:=?_) (a':=?_) #[true,false,false,true,false,false,false,false,false,false,false,false,false,false,false,false,false] rfl rfl (any_of HT_.out pU) (fun _ _ _ h=>h) (Or.inl ⟨by rfl,?_⟩) ?_ ?_
     rotate_left
     ·intro w'
      go_simp
      with_reducible rfl
     rotate_left
     ·simp only [Act.put,List.setIfInBounds_toArray,List.set_cons_zero,List.set_cons_succ,i64_w,i32_w]
      rfl
     refine pure_ (i:=9) (N:=some 37) (v:=?_) (a':=?_) #[true,false,false,true,false,false,false,false,false,true,false,false,false,false,false,false,false] rfl rfl (any_of HT_.out pU) (fun _ _ _ h=>h) (Or.inl ⟨by rfl,?_⟩) ?_ ?_
     rotate_left
     ·intro w'
      go_simp
      with_reducible rfl
     rotate_left
     ·simp only [Act.put,List.setIfInBounds_toArray,List.set_cons_zero,List.set_cons_succ,i64_w,i32_w]
      rfl
     refine take_ (i:=1) (N:=some 29) (v:=?_) (a':=?_) #[true,true,false,true,false,false,false,false,false,true,false,false,false,false,false,false,false] rfl rfl (take_ofW HT_.out HW_.out pU) (fun _ _ _ h=>h) (Or.inl ⟨by rfl,?_⟩) hHeld ?_ ?_
     rotate_left
     ·rintro w' ⟨s0,s1,s2⟩
      go_simp
      with_reducible rfl
     rotate_left
     ·simp only [Act.put,List.setIfInBounds_toArray,List.set_cons_zero,List.set_cons_succ,i64_w,i32_w]
      rfl
     refine pure_ (i:=2) (N:=some 30) (v:=?_) (a':=?_) #[true,true,true,true,false,false,false,false,false,true,false,false,false,false,false,false,false] rfl rfl (any_of HT_.out pU) (fun _ _ _ h=>h) (Or.inl ⟨by rfl,?_⟩) ?_ ?_
     rotate_left
     ·intro w'
      go_simp
      with_reducible rfl
     rotate_left
     ·simp only [Act.put,List.setIfInBounds_toArray,List.set_cons_zero,List.set_cons_succ,i64_w,i32_w]
      rfl
     refine take_ (i:=4) (N:=some 32) (v:=?_) (a':=?_) #[true,true,true,true,true,false,false,false,false,true,false,false,false,false,false,false,false] rfl rfl (take_ofW HT_.out HW_.out pU) (fun _ _ _ h=>h) (Or.inl ⟨by rfl,?_⟩) hHeld ?_ ?_
     rotate_left
     ·rintro w' ⟨s0,s1,s2⟩
      go_simp
      with_reducible rfl
     rotate_left
     ·simp only [Act.put,List.setIfInBounds_toArray,List.set_cons_zero,List.set_cons_succ,i64_w,i32_w]
      rfl
     refine pure_ (i:=5) (N:=some 33) (v:=?_) (a':=?_) #[true,true,true,true,true,true,false,false,false,true,false,false,false,false,false,false,false] rfl rfl (any_of HT_.out pU) (fun _ _ _ h=>h) (Or.inl ⟨by rfl,?_⟩) ?_ ?_
     rotate_left
     ·intro w'
      go_simp
      with_reducible rfl
     rotate_left
     ·simp only [Act.put,List.setIfInBounds_toArray,List.set_cons_zero,List.set_cons_succ,i64_w,i32_w]
      rfl
     refine pure_ (i:=6) (N:=some 34) (v:=?_) (a':=?_) #[true,true,true,true,true,true,true,false,false,true,false,false,false,false,false,false,false] rfl rfl (any_of HT_.out pU) (fun _ _ _ h=>h) (Or.inl ⟨by rfl,?_⟩) ?_ ?_
     rotate_left
     ·intro w'
      go_simp
      with_reducible rfl
     rotate_left
     ·simp only [Act.put,List.setIfInBounds_toArray,List.set_cons_zero,List.set_cons_succ,i64_w,i32_w]
      rfl
     refine pure_ (i:=7) (N:=some 35) (v:=?_) (a':=?_) #[true,true,true,true,true,true,true,true,false,true,false,false,false,false,false,false,false] rfl rfl (any_of HT_.out pU) (fun _ _ _ h=>h) (Or.inl ⟨by rfl,?_⟩) ?_ ?_
     rotate_left
     ·intro w'
      go_simp
      with_reducible rfl
     rotate_left
     ·simp only [Act.put,List.setIfInBounds_toArray,List.set_cons_zero,List.set_cons_succ,i64_w,i32_w]
      rfl
     refine pure_ (i:=8) (N:=some 36) (v:=?_) (a':=?_) #[true,true,true,true,true,true,true,true,true,true,false,false,false,false,false,false,false] rfl rfl (any_of HT_.out pU) (fun _ _ _ h=>h) (Or.inl ⟨by rfl,?_⟩) ?_ ?_
     rotate_left
     ·intro w'
      go_simp
      with_reducible rfl
     rotate_left
     ·simp only [Act.put,List.setIfInBounds_toArray,List.set_cons_zero,List.set_cons_succ,i64_w,i32_w]
      rfl
     refine one_ (i:=10) (N:=some 38) #[true,true,true,true,true,true,true,true,true,true,true,false,false,false,false,false,false] rfl rfl (one_of HT_.out pU) (by decide) (fun K hK=>?_)
     refine Kd.R_lit_step (Kd.int .i64) _ 3 ?hg (N:=38) ?hd (xs:=([0,0,0,1,(-1)]:List Int)) (inner:=[.int .i64 0,.int .i64 0,.int .i64 0,.int .i64 1,.int .i64 (-1)]) (ok:=fun _=>True) (okp:=fun _=>True) ?hr ?hp (fun _ hk=>hk) trivial (Below.refl _ _) (Nat.le_refl _) (by simp) ?_;(case hd=>rfl);(case hg=>rfl);(case hr=>first|(go_simp;done)|(go_simp;rfl));(case hp=>exact (Reps.one (show Kd.M (Kd.int .i64) _ _ _ 0 [.int .i64 0] from rfl) (Reps.one (show Kd.M (Kd.int .i64) _ _ _ 0 [.int .i64 0] from rfl) (Reps.one (show Kd.M (Kd.int .i64) _ _ _ 0 [.int .i64 0] from rfl) (Reps.one (show Kd.M (Kd.int .i64) _ _ _ 1 [.int .i64 1] from rfl) (Reps.one (show Kd.M (Kd.int .i64) _ _ _ (-1) [.int .i64 (-1)] from rfl) (Reps.none _ _)))))))
     intro v326 w34 ho35 hb hg_ hnew_
     clear hg_ hnew_
     (first|rw [← Ny325.out] at ho35|(simp only [Int.reduceToNat] at ho35;rw [← Ny325.out] at ho35))
     have n0_:=Z (Kd.R_elder' (pR HO_317001) (Kd.R_base ho35) hb)
     have n1_:=Z (Kd.R_elder' (pR HO324) (Kd.R_base ho35) hb)
     have n2_:=Z (Kd.R_lower (Kd.R_new' (Kd.R_new' ho35 (Kd.R_lt (pR HO_317001))) (Kd.R_lt (pR HO324))) (keep_size (w:=w) (g:=g) (row:=none) pH))
     have n3_:=Z (blk_below (g:=gb315) (o:=.cells #[.int .i64 0,.slice none 0 0,.slice none 0 0] 90 (0,0)) (pK BK315) hb)
     have n4_:=Z (blk_below (g:=gb316) (o:=.cells #[.int .i64 0,.slice Ao30 y322.length co30,.slice none 0 0] 90 (0,0)) (pK BK316) hb)
     have n5_:=Z (IsS95.below pI hb)
     have n6_:=Z (KeepBut.trans pH (KeepBut.of_below hb g none) (.inl rfl))
     have n7_:=Z (below_step pB hb)
     clear HO_317001 HO324 BK315 BK316 HI0 HK HB
     have HO_317001:=n0_
     have HO324:=n1_
     have HO327:=n2_
     have BK315:=n3_
     have BK316:=n4_
     have HI0:=n5_
     have HK:=n6_
     have HB:=n7_
     clear n0_ n1_ n2_ n3_ n4_ n5_ n6_ n7_ hb ho35
     obtain ⟨Ao36,co36,eo36⟩:=Kd.R_slice HO327.out
     (first|subst eo36|(injection eo36 with f1_ f2_ f3_;have f4_:=f1_.symm;have f5_:=f3_.symm;clear f1_ f2_ f3_;subst f4_;subst f5_))
     refine hK.out _ _ ⟨(kC BK316.out 0).trans rfl,(kC BK316.out 1).trans rfl,(kC BK316.out 2).trans rfl⟩ (fun hHeld=>?_)
     clear hK K
     refine norm_ (a':=?_) ?_ ?_
     rotate_left
     ·show Act.put _ (some 38) _=_
      simp only [Act.put,List.setIfInBounds_toArray,List.set_cons_zero,List.set_cons_succ,i64_w,i32_w]
      rfl
     refine one_ (i:=11) (N:=some 39) #[true,true,true,true,true,true,true,true,true,true,true,true,false,false,false,false,false] rfl rfl (one_of HT_.out pU) (by decide) (fun K hK=>?_)
     refine goes_ Tryz.func87 pU rfl #[.pointer (some ⟨g,0,none⟩),.slice Ao36 y325.length co36] (by rfl) rfl rfl pG ?_
     with_reducible refine (qmake_Tape_Pick.calls g s0_0 x1001_1 _ _ y325 t328 t329 w0 _ ?side1 ?side2 ?side3 ?side4 ?side5 A21.out).mono ?_
     (case side1=>exact pI)
     (case side2=>exact pB)
     (case side3=>repeat (first|exact (Kd.R_reads' HO327.out).2.2|(with_reducible refine Kd.C_alloc ?_ _)|(with_reducible refine Kd.C_drewN ?_ _)|(with_reducible refine Kd.C_drew ?_)))
     (case side4=>exact (Kd.R_reads' HO327.out).2.1)
     (case side5=>exact far_slice (IsS95.own_ne HI0.out HO327.out (by decide)))
     rintro e w37 ⟨rfl,hi,hb,hk⟩
     refine ⟨_,rfl,?_⟩
     have n0_:=Z (Kd.R_mono (Kd.R_keep (IsS95.apart (show IsS95 w0 _ g s0_0 x1001_1 from pI) (pR HO_317001) (by decide)) hk (fun _ h=>h.2)) (fun _ h=>h.1))
     have n1_:=Z (KeepBut.blk hk (g':=gb315) (o:=.cells #[.int .i64 0,.slice none 0 0,.slice none 0 0] 90 (0,0)) (pK BK315) NB315_0.out (by simp))
     have n2_:=Z (KeepBut.blk hk (g':=gb316) (o:=.cells #[.int .i64 0,.slice Ao30 y322.length co30,.slice none 0 0] 90 (0,0)) (pK BK316) NB316_0.out (by simp))
     have n3_:=Z (Kd.R_mono (Kd.R_keep (IsS95.apart (show IsS95 w0 _ g s0_0 x1001_1 from pI) (pR HO324) (by decide)) hk (fun _ h=>h.2)) (fun _ h=>h.1))
     have n4_:=Z (Kd.R_mono (Kd.R_keep (IsS95.apart (show IsS95 w0 _ g s0_0 x1001_1 from pI) (pR HO327) (by decide)) hk (fun _ h=>h.2)) (fun _ h=>h.1))
     have n5_:=Z (KeepBut.trans pH hk (.inl rfl))
     have n6_:=Z (hb)
     have n7_:=Z (hi)
     clear HO_317001 BK315 BK316 HO324 HO327 HK HB HI0
     have HO_317001:=n0_
     have BK315:=n1_
     have BK316:=n2_
     have HO324:=n3_
     have HO327:=n4_
     have HK:=n5_
     have HB:=n6_
     have HI0:=n7_
     clear n0_ n1_ n2_ n3_ n4_ n5_ n6_ n7_
     (try clear hb)
     (try clear hb2)
     (try clear hk)
     (try clear hi)
     refine hK.out _ _ ⟨(kC BK316.out 0).trans rfl,(kC BK316.out 1).trans rfl,(kC BK316.out 2).trans rfl⟩ (fun hHeld=>?_)
     clear hK K
     refine norm_ (a':=?_) ?_ ?_
     rotate_left
     ·show Act.put _ (some 39) _=_
      simp only [Act.put,List.setIfInBounds_toArray,List.set_cons_zero,List.set_cons_succ,i64_w,i32_w]
      rfl
     refine pure_ (i:=12) (N:=some 40) (v:=?_) (a':=?_) #[true,true,true,true,true,true,true,true,true,true,true,true,true,false,false,false,false] rfl rfl (any_of HT_.out pU) (fun _ _ _ h=>h) (Or.inl ⟨by rfl,?_⟩) ?_ ?_
     rotate_left
     ·intro w'
      go_simp
      with_reducible rfl
     rotate_left
     ·simp only [Act.put,List.setIfInBounds_toArray,List.set_cons_zero,List.set_cons_succ,i64_w,i32_w]
      rfl
     refine pure_ (i:=13) (N:=some 41) (v:=?_) (a':=?_) #[true,true,true,true,true,true,true,true,true,true,true,true,true,true,false,false,false] rfl rfl (any_of HT_.out pU) (fun _ _ _ h=>h) (Or.inl ⟨by rfl,?_⟩) ?_ ?_
     rotate_left
     ·intro w'
      go_simp
      with_reducible rfl
     rotate_left
     ·simp only [Act.put,List.setIfInBounds_toArray,List.set_cons_zero,List.set_cons_succ,i64_w,i32_w]
      rfl
     refine pure_ (i:=14) (N:=some 42) (v:=?_) (a':=?_) #[true,true,true,true,true,true,true,true,true,true,true,true,true,true,true,false,false] rfl rfl (any_of HT_.out pU) (fun _ _ _ h=>h) (Or.inl ⟨by rfl,?_⟩) ?_ ?_
     rotate_left
     ·intro w'
      go_simp
      with_reducible rfl
     rotate_left
     ·simp only [Act.put,List.setIfInBounds_toArray,List.set_cons_zero,List.set_cons_succ,i64_w,i32_w]
      rfl
     refine pure_ (i:=15) (N:=some 43) (v:=?_) (a':=?_) #[true,true,true,true,true,true,true,true,true,true,true,true,true,true,true,true,false] rfl rfl (any_of HT_.out pU) (fun _ _ _ h=>h) (Or.inl ⟨by rfl,?_⟩) ?_ ?_
     rotate_left
     ·intro w'
      go_simp
      with_reducible rfl
     rotate_left
     ·simp only [Act.put,List.setIfInBounds_toArray,List.set_cons_zero,List.set_cons_succ,i64_w,i32_w]
      rfl
     refine last_ (i:=16) (N:=none) #[true,true,true,true,true,true,true,true,true,true,true,true,true,true,true,true,true] rfl rfl (one_of HT_.out pU) (by decide) (fun K hK=>?_)
     have hs38:w37.cell? ⟨gb316,0,none⟩=some (.int .i64 0):=(kC BK316.out 0).trans rfl
     have hfs38:=kF BK316.out 0
     have hns38_0:=NB315_316.out
     have hms38_0:=NB316_315.out
     refine skip_ (w1:=?_) (by rfl) rfl ?_ ?_
     rotate_left
     ·go_simp
      rfl
     refine hK.out _ _ ?_
     clear hK K
     refine done_ (done_of HT_.out pU) ?_
     have hcz39_0:=pV BK316 (.int .i64 0) 0 rfl
     have hcz39_1:=pV BK316 (.slice Ao30 y322.length co30) 1 rfl
     have hcz39_2:=pV BK316 (.slice none 0 0) 2 rfl
     have hfz39_0:=kF BK316.out 0
     have hfz39_1:=kF BK316.out 1
     have hfz39_2:=kF BK316.out 2
     have hnb40:=NB315_0.out
     have hnc40:=NB0_315.out
     have hcz41_0:=pV BK315 (.int .i64 0) 0 rfl
     have hcz41_1:=pV BK315 (.slice none 0 0) 1 rfl
     have hcz41_2:=pV BK315 (.slice none 0 0) 2 rfl
     have hfz41_0:=kF BK315.out 0
     have hfz41_1:=kF BK315.out 1
     have hfz41_2:=kF BK315.out 2
     try go_wp2
     refine bodyPost_ret (results_cell_row rfl _ _ gb315 90 #[.int .i64 ji23,.slice Ao30 y322.length co30,.slice none 0 0] (0,0) _ rfl (by refine pQ ?_;refine blk_put (cs:=#[.int .i64 ji23,.slice Ao30 y322.length co30,.slice none 0 0]) ?_ 2 _ rfl;refine pQ ?_;refine blk_put (cs:=#[.int .i64 ji23,.slice none 0 0,.slice none 0 0]) ?_ 1 _ rfl;refine pQ ?_;refine blk_put (cs:=#[.int .i64 0,.slice none 0 0,.slice none 0 0]) ?_ 0 _ rfl;refine pQ ?_;refine blk_far ?_ NB315_316.out _;exact pK BK315) Tryz.underlying90 rfl pU) rfl ?_
     exact ⟨_,_,by first|rfl|(simp [errW_none,errW_some] <;> rfl)|(simp only [← hji22,← hji23];first|rfl|(simp [errW_none,errW_some] <;> rfl))|(simp [*,errW_none,errW_some] <;> rfl),by refine pP ?_;exact Kd.R_mono (Kd.R_far (p:=⟨gb315,2,none⟩) (Kd.R_far (p:=⟨gb315,1,none⟩) (Kd.R_far (p:=⟨gb315,0,none⟩) (Kd.R_far (p:=⟨gb316,0,none⟩) (Kd.R_types (Kd.R_types HO324.out BK316.out (by decide)) BK315.out (by decide)) (fun _ hk=>hk.1.2) (.int .i64 ji23)) (fun _ hk=>hk.2) (.int .i64 ji23)) (fun _ hk=>hk.2) (.slice Ao30 y322.length co30)) (fun _ hk=>hk.2) (.slice none 0 0)) (fun _ hk=>trivial),pN,pI,pB,pH⟩
    ·rw [if_neg c20] at H
     have c20b0:((x317001_1.length:Int) == 0)=false:=beq_eq_false_iff_ne.mpr c20
     have c20b1:((x317001_1.length:Int) != 0)=true:=bne_iff_ne.mpr c20
     have c20b2:¬ (x317001_1=[]):=fun h_=>c20 (by rw [h_];rfl)
     obtain ⟨y330,hy330⟩:∃ y_:List Int,y_=(([0,0,0,1,(-1)]:List Int)):=⟨_,rfl⟩
     replace H:((qmake_Tape_Pick.f s0_0 x1001_1 y330).bind fun bt333=>(some (mn (x317001_1.length:Int) (mx 1 (wrap64 ((wrap64 (Int.tdiv (wrap64 ((wrap64 (2 * (x317001_1.length:Int)))+2)) 3))+bt333.1))),x317001_1,([]:List (S90)),bt333.2)))=some (r1,r2,r3,r4):=by first|(rw [hy330];with_reducible exact H)|(have H2_:=(Option.bind_some _ _).symm.trans H;rw [hy330];with_reducible exact H2_)|(have H2_:=(Option.bind_some _ _).symm.trans H;with_reducible exact H2_)|with_reducible exact H|(rw [hy330];exact H)|exact H
     have Ny330:=Aside0.mk hy330
     clear hy330
     replace H:=pO H
     obtain ⟨⟨t333,t334⟩,A420,H⟩:=H
     replace H:(some (mn (x317001_1.length:Int) (mx 1 (wrap64 ((wrap64 (Int.tdiv (wrap64 ((wrap64 (2 * (x317001_1.length:Int)))+2)) 3))+t333))),x317001_1,([]:List (S90)),t334))=some (r1,r2,r3,r4):=H
     have A42:=Aside0.mk A420
     clear A420
     obtain ⟨ji43,hji43⟩:∃ j_:Int,(mx 1 (wrap64 ((wrap64 (Int.tdiv (wrap64 ((wrap64 (2 * (x317001_1.length:Int)))+2)) 3))+t333)))=j_:=⟨_,rfl⟩
     replace H:(some (mn (x317001_1.length:Int) (ji43),x317001_1,([]:List (S90)),t334))=some (r1,r2,r3,r4):=by first|(rw [hji43] at H;exact H)|(simp only [hji43] at H ⊢;exact H)
     (try rw [hji43] at A42)
     have hji43_:(if 1 < (wrap64 ((wrap64 (Int.tdiv (wrap64 ((wrap64 (2 * (x317001_1.length:Int)))+2)) 3))+t333)) then (wrap64 ((wrap64 (Int.tdiv (wrap64 ((wrap64 (2 * (x317001_1.length:Int)))+2)) 3))+t333)) else 1)=ji43:=hji43
     obtain ⟨ji44,hji44⟩:∃ j_:Int,(mn (x317001_1.length:Int) (ji43))=j_:=⟨_,rfl⟩
     replace H:(some (ji44,x317001_1,([]:List (S90)),t334))=some (r1,r2,r3,r4):=by first|(rw [hji44] at H;exact H)|(simp only [hji44] at H ⊢;exact H)
     (try rw [hji44] at A42)
     have hji44_:(if (ji43) < (x317001_1.length:Int) then (ji43) else (x317001_1.length:Int))=ji44:=hji44
     simp only [Option.some.injEq,Prod.mk.injEq] at H
     obtain ⟨rfl,rfl,rfl,rfl⟩:=H
     have hnb45:=NB316_315.out
     have hnc45:=NB315_316.out
     have hnb46:=NB316_0.out
     have hnc46:=NB0_316.out
     have hcz47_0:=pV BK316 (.int .i64 0) 0 rfl
     have hcz47_1:=pV BK316 (u317001) 1 rfl
     have hcz47_2:=pV BK316 (.slice none 0 0) 2 rfl
     have hfz47_0:=kF BK316.out 0
     have hfz47_1:=kF BK316.out 1
     have hfz47_2:=kF BK316.out 2
     obtain ⟨Ao48,co48,eo48⟩:=Kd.R_slice HO_317001.out
     subst eo48
     try go_wp2
     have n0_:=Z (Kd.R_drew HO_317001.out)
     have n1_:=Z (kD BK315.out)
     have n2_:=Z (kD BK316.out)
     have n3_:=Z (IsS95.drew HI0.out)
     have n4_:=Z (keep_drew HK.out)
     have n5_:=Z (wD HB.out)
     clear HO_317001 BK315 BK316 HI0 HK HB
     have HO_317001:=n0_
     have BK315:=n1_
     have BK316:=n2_
     have HI0:=n3_
     have HK:=n4_
     have HB:=n5_
     clear n0_ n1_ n2_ n3_ n4_ n5_
     refine start_ (n:=17) (S:=fun w'=>w'.cell? ⟨gb316,0,none⟩=some (.int .i64 0)∧w'.cell? ⟨gb316,1,none⟩=some (.slice Ao48 x317001_1.length co48)∧w'.cell? ⟨gb316,2,none⟩=some (.slice none 0 0)) (ds:=[16]) #[false,false,false,false,false,false,false,false,false,false,false,false,false,false,false,false,false] pU rfl rfl ⟨(kC BK316.out 0).trans rfl,(kC BK316.out 1).trans rfl,(kC BK316.out 2).trans rfl⟩ (fun hHeld=>?_);refine with_tabW qmake_most.tab9 qmake_most.bits9 (fun HT_ HW_=>?_)
     generalize wr.drew=w49 at HO_317001 BK315 BK316 HI0 HK HB hHeld ⊢
     refine pure_ (i:=0) (N:=some 28) (v:=?_) (a':=?_) #[true,false,false,false,false,false,false,false,false,false,false,false,false,false,false,false,false] rfl rfl (any_of HT_.out pU) (fun _ _ _ h=>h) (Or.inl ⟨by rfl,?_⟩) ?_ ?_
     rotate_left
     ·intro w'
      go_simp
      with_reducible rfl
     rotate_left
     ·simp only [Act.put,List.setIfInBounds_toArray,List.set_cons_zero,List.set_cons_succ,i64_w,i32_w]
      rfl
     refine pure_ (i:=3) (N:=some 31) (v:=?_) (a':=?_) #[true,false,false,true,false,false,false,false,false,false,false,false,false,false,false,false,false] rfl rfl (any_of HT_.out pU) (fun _ _ _ h=>h) (Or.inl ⟨by rfl,?_⟩) ?_ ?_
     rotate_left
     ·intro w'
      go_simp
      with_reducible rfl
     rotate_left
     ·simp only [Act.put,List.setIfInBounds_toArray,List.set_cons_zero,List.set_cons_succ,i64_w,i32_w]
      rfl
     refine pure_ (i:=9) (N:=some 37) (v:=?_) (a':=?_) #[true,false,false,true,false,false,false,false,false,true,false,false,false,false,false,false,false] rfl rfl (any_of HT_.out pU) (fun _ _ _ h=>h) (Or.inl ⟨by rfl,?_⟩) ?_ ?_
     rotate_left
     ·intro w'
      go_simp
      with_reducible rfl
     rotate_left
     ·simp only [Act.put,List.setIfInBounds_toArray,List.set_cons_zero,List.set_cons_succ,i64_w,i32_w]
      rfl
     refine take_ (i:=1) (N:=some 29) (v:=?_) (a':=?_) #[true,true,false,true,false,false,false,false,false,true,false,false,false,false,false,false,false] rfl rfl (take_ofW HT_.out HW_.out pU) (fun _ _ _ h=>h) (Or.inl ⟨by rfl,?_⟩) hHeld ?_ ?_
     rotate_left
     ·rintro w' ⟨s0,s1,s2⟩
      go_simp
      with_reducible rfl
     rotate_left
     ·simp only [Act.put,List.setIfInBounds_toArray,List.set_cons_zero,List.set_cons_succ,i64_w,i32_w]
      rfl
     refine pure_ (i:=2) (N:=some 30) (v:=?_) (a':=?_) #[true,true,true,true,false,false,false,false,false,true,false,false,false,false,false,false,false] rfl rfl (any_of HT_.out pU) (fun _ _ _ h=>h) (Or.inl ⟨by rfl,?_⟩) ?_ ?_
     rotate_left
     ·intro w'
      go_simp
      with_reducible rfl
     rotate_left
     ·simp only [Act.put,List.setIfInBounds_toArray,List.set_cons_zero,List.set_cons_succ,i64_w,i32_w]
      rfl
     refine take_ (i:=4) (N:=some 32) (v:=?_) (a':=?_) #[true,true,true,true,true,false,false,false,false,true,false,false,false,false,false,false,false] rfl rfl (take_ofW HT_.out HW_.out pU) (fun _ _ _ h=>h) (Or.inl ⟨by rfl,?_⟩) hHeld ?_ ?_
     rotate_left
     ·rintro w' ⟨s0,s1,s2⟩
      go_simp
      with_reducible rfl
     rotate_left
     ·simp only [Act.put,List.setIfInBounds_toArray,List.set_cons_zero,List.set_cons_succ,i64_w,i32_w]
      rfl
     refine pure_ (i:=5) (N:=some 33) (v:=?_) (a':=?_) #[true,true,true,true,true,true,false,false,false,true,false,false,false,false,false,false,false] rfl rfl (any_of HT_.out pU) (fun _ _ _ h=>h) (Or.inl ⟨by rfl,?_⟩) ?_ ?_
     rotate_left
     ·intro w'
      go_simp
      with_reducible rfl
     rotate_left
     ·simp only [Act.put,List.setIfInBounds_toArray,List.set_cons_zero,List.set_cons_succ,i64_w,i32_w]
      rfl
     refine pure_ (i:=6) (N:=some 34) (v:=?_) (a':=?_) #[true,true,true,true,true,true,true,false,false,true,false,false,false,false,false,false,false] rfl rfl (any_of HT_.out pU) (fun _ _ _ h=>h) (Or.inl ⟨by rfl,?_⟩) ?_ ?_
     rotate_left
     ·intro w'
      go_simp
      with_reducible rfl
     rotate_left
     ·simp only [Act.put,List.setIfInBounds_toArray,List.set_cons_zero,List.set_cons_succ,i64_w,i32_w]
      rfl
     refine pure_ (i:=7) (N:=some 35) (v:=?_) (a':=?_) #[true,true,true,true,true,true,true,true,false,true,false,false,false,false,false,false,false] rfl rfl (any_of HT_.out pU) (fun _ _ _ h=>h) (Or.inl ⟨by rfl,?_⟩) ?_ ?_
     rotate_left
     ·intro w'
      go_simp
      with_reducible rfl
     rotate_left
     ·simp only [Act.put,List.setIfInBounds_toArray,List.set_cons_zero,List.set_cons_succ,i64_w,i32_w]
      rfl
     refine pure_ (i:=8) (N:=some 36) (v:=?_) (a':=?_) #[true,true,true,true,true,true,true,true,true,true,false,false,false,false,false,false,false] rfl rfl (any_of HT_.out pU) (fun _ _ _ h=>h) (Or.inl ⟨by rfl,?_⟩) ?_ ?_
     rotate_left
     ·intro w'
      go_simp
      with_reducible rfl
     rotate_left
     ·simp only [Act.put,List.setIfInBounds_toArray,List.set_cons_zero,List.set_cons_succ,i64_w,i32_w]
      rfl
     refine one_ (i:=10) (N:=some 38) #[true,true,true,true,true,true,true,true,true,true,true,false,false,false,false,false,false] rfl rfl (one_of HT_.out pU) (by decide) (fun K hK=>?_)
     refine Kd.R_lit_step (Kd.int .i64) _ 3 ?hg (N:=38) ?hd (xs:=([0,0,0,1,(-1)]:List Int)) (inner:=[.int .i64 0,.int .i64 0,.int .i64 0,.int .i64 1,.int .i64 (-1)]) (ok:=fun _=>True) (okp:=fun _=>True) ?hr ?hp (fun _ hk=>hk) trivial (Below.refl _ _) (Nat.le_refl _) (by simp) ?_;(case hd=>rfl);(case hg=>rfl);(case hr=>first|(go_simp;done)|(go_simp;rfl));(case hp=>exact (Reps.one (show Kd.M (Kd.int .i64) _ _ _ 0 [.int .i64 0] from rfl) (Reps.one (show Kd.M (Kd.int .i64) _ _ _ 0 [.int .i64 0] from rfl) (Reps.one (show Kd.M (Kd.int .i64) _ _ _ 0 [.int .i64 0] from rfl) (Reps.one (show Kd.M (Kd.int .i64) _ _ _ 1 [.int .i64 1] from rfl) (Reps.one (show Kd.M (Kd.int .i64) _ _ _ (-1) [.int .i64 (-1)] from rfl) (Reps.none _ _)))))))
     intro v331 w50 ho51 hb hg_ hnew_
     clear hg_ hnew_
     (first|rw [← Ny330.out] at ho51|(simp only [Int.reduceToNat] at ho51;rw [← Ny330.out] at ho51))
     have n0_:=Z (Kd.R_elder' (pR HO_317001) (Kd.R_base ho51) hb)
     have n1_:=Z (Kd.R_lower (Kd.R_new' ho51 (Kd.R_lt (pR HO_317001))) (keep_size (w:=w) (g:=g) (row:=none) pH))
     have n2_:=Z (blk_below (g:=gb315) (o:=.cells #[.int .i64 0,.slice none 0 0,.slice none 0 0] 90 (0,0)) (pK BK315) hb)
     have n3_:=Z (blk_below (g:=gb316) (o:=.cells #[.int .i64 0,.slice Ao48 x317001_1.length co48,.slice none 0 0] 90 (0,0)) (pK BK316) hb)
     have n4_:=Z (IsS95.below pI hb)
     have n5_:=Z (KeepBut.trans pH (KeepBut.of_below hb g none) (.inl rfl))
     have n6_:=Z (below_step pB hb)
     clear HO_317001 BK315 BK316 HI0 HK HB
     have HO_317001:=n0_
     have HO332:=n1_
     have BK315:=n2_
     have BK316:=n3_
     have HI0:=n4_
     have HK:=n5_
     have HB:=n6_
     clear n0_ n1_ n2_ n3_ n4_ n5_ n6_ hb ho51
     obtain ⟨Ao52,co52,eo52⟩:=Kd.R_slice HO332.out
     (first|subst eo52|(injection eo52 with f1_ f2_ f3_;have f4_:=f1_.symm;have f5_:=f3_.symm;clear f1_ f2_ f3_;subst f4_;subst f5_))
     refine hK.out _ _ ⟨(kC BK316.out 0).trans rfl,(kC BK316.out 1).trans rfl,(kC BK316.out 2).trans rfl⟩ (fun hHeld=>?_)
     clear hK K
     refine norm_ (a':=?_) ?_ ?_
     rotate_left
     ·show Act.put _ (some 38) _=_
      simp only [Act.put,List.setIfInBounds_toArray,List.set_cons_zero,List.set_cons_succ,i64_w,i32_w]
      rfl
     refine one_ (i:=11) (N:=some 39) #[true,true,true,true,true,true,true,true,true,true,true,true,false,false,false,false,false] rfl rfl (one_of HT_.out pU) (by decide) (fun K hK=>?_)
     refine goes_ Tryz.func87 pU rfl #[.pointer (some ⟨g,0,none⟩),.slice Ao52 y330.length co52] (by rfl) rfl rfl pG ?_
     with_reducible refine (qmake_Tape_Pick.calls g s0_0 x1001_1 _ _ y330 t333 t334 w0 _ ?side1 ?side2 ?side3 ?side4 ?side5 A42.out).mono ?_
     (case side1=>exact pI)
     (case side2=>exact pB)
     (case side3=>repeat (first|exact (Kd.R_reads' HO332.out).2.2|(with_reducible refine Kd.C_alloc ?_ _)|(with_reducible refine Kd.C_drewN ?_ _)|(with_reducible refine Kd.C_drew ?_)))
     (case side4=>exact (Kd.R_reads' HO332.out).2.1)
     (case side5=>exact far_slice (IsS95.own_ne HI0.out HO332.out (by decide)))
     rintro e w53 ⟨rfl,hi,hb,hk⟩
     refine ⟨_,rfl,?_⟩
     have n0_:=Z (Kd.R_mono (Kd.R_keep (IsS95.apart (show IsS95 w0 _ g s0_0 x1001_1 from pI) (pR HO_317001) (by decide)) hk (fun _ h=>h.2)) (fun _ h=>h.1))
     have n1_:=Z (KeepBut.blk hk (g':=gb315) (o:=.cells #[.int .i64 0,.slice none 0 0,.slice none 0 0] 90 (0,0)) (pK BK315) NB315_0.out (by simp))
     have n2_:=Z (KeepBut.blk hk (g':=gb316) (o:=.cells #[.int .i64 0,.slice Ao48 x317001_1.length co48,.slice none 0 0] 90 (0,0)) (pK BK316) NB316_0.out (by simp))
     have n3_:=Z (Kd.R_mono (Kd.R_keep (IsS95.apart (show IsS95 w0 _ g s0_0 x1001_1 from pI) (pR HO332) (by decide)) hk (fun _ h=>h.2)) (fun _ h=>h.1))
     have n4_:=Z (KeepBut.trans pH hk (.inl rfl))
     have n5_:=Z (hb)
     have n6_:=Z (hi)
     clear HO_317001 BK315 BK316 HO332 HK HB HI0
     have HO_317001:=n0_
     have BK315:=n1_
     have BK316:=n2_
     have HO332:=n3_
     have HK:=n4_
     have HB:=n5_
     have HI0:=n6_
     clear n0_ n1_ n2_ n3_ n4_ n5_ n6_
     (try clear hb)
     (try clear hb2)
     (try clear hk)
     (try clear hi)
     refine hK.out _ _ ⟨(kC BK316.out 0).trans rfl,(kC BK316.out 1).trans rfl,(kC BK316.out 2).trans rfl⟩ (fun hHeld=>?_)
     clear hK K
     refine norm_ (a':=?_) ?_ ?_
     rotate_left
     ·show Act.put _ (some 39) _=_
      simp only [Act.put,List.setIfInBounds_toArray,List.set_cons_zero,List.set_cons_succ,i64_w,i32_w]
      rfl
     refine pure_ (i:=12) (N:=some 40) (v:=?_) (a':=?_) #[true,true,true,true,true,true,true,true,true,true,true,true,true,false,false,false,false] rfl rfl (any_of HT_.out pU) (fun _ _ _ h=>h) (Or.inl ⟨by rfl,?_⟩) ?_ ?_
     rotate_left
     ·intro w'
      go_simp
      with_reducible rfl
     rotate_left
     ·simp only [Act.put,List.setIfInBounds_toArray,List.set_cons_zero,List.set_cons_succ,i64_w,i32_w]
      rfl
     refine pure_ (i:=13) (N:=some 41) (v:=?_) (a':=?_) #[true,true,true,true,true,true,true,true,true,true,true,true,true,true,false,false,false] rfl rfl (any_of HT_.out pU) (fun _ _ _ h=>h) (Or.inl ⟨by rfl,?_⟩) ?_ ?_
     rotate_left
     ·intro w'
      go_simp
      with_reducible rfl
     rotate_left
     ·simp only [Act.put,List.setIfInBounds_toArray,List.set_cons_zero,List.set_cons_succ,i64_w,i32_w]
      rfl
     refine pure_ (i:=14) (N:=some 42) (v:=?_) (a':=?_) #[true,true,true,true,true,true,true,true,true,true,true,true,true,true,true,false,false] rfl rfl (any_of HT_.out pU) (fun _ _ _ h=>h) (Or.inl ⟨by rfl,?_⟩) ?_ ?_
     rotate_left
     ·intro w'
      go_simp
      with_reducible rfl
     rotate_left
     ·simp only [Act.put,List.setIfInBounds_toArray,List.set_cons_zero,List.set_cons_succ,i64_w,i32_w]
      rfl
     refine pure_ (i:=15) (N:=some 43) (v:=?_) (a':=?_) #[true,true,true,true,true,true,true,true,true,true,true,true,true,true,true,true,false] rfl rfl (any_of HT_.out pU) (fun _ _ _ h=>h) (Or.inl ⟨by rfl,?_⟩) ?_ ?_
     rotate_left
     ·intro w'
      go_simp
      with_reducible rfl
     rotate_left
     ·simp only [Act.put,List.setIfInBounds_toArray,List.set_cons_zero,List.set_cons_succ,i64_w,i32_w]
      rfl
     refine last_ (i:=16) (N:=none) #[true,true,true,true,true,true,true,true,true,true,true,true,true,true,true,true,true] rfl rfl (one_of HT_.out pU) (by decide) (fun K hK=>?_)
     have hs54:w53.cell? ⟨gb316,0,none⟩=some (.int .i64 0):=(kC BK316.out 0).trans rfl
     have hfs54:=kF BK316.out 0
     have hns54_0:=NB315_316.out
     have hms54_0:=NB316_315.out
     refine skip_ (w1:=?_) (by rfl) rfl ?_ ?_
     rotate_left
     ·go_simp
      rfl
     refine hK.out _ _ ?_
     clear hK K
     refine done_ (done_of HT_.out pU) ?_
     have hcz55_0:=pV BK316 (.int .i64 0) 0 rfl
     have hcz55_1:=pV BK316 (.slice Ao48 x317001_1.length co48) 1 rfl
     have hcz55_2:=pV BK316 (.slice none 0 0) 2 rfl
     have hfz55_0:=kF BK316.out 0
     have hfz55_1:=kF BK316.out 1
     have hfz55_2:=kF BK316.out 2
     have hnb56:=NB315_0.out
     have hnc56:=NB0_315.out
     have hcz57_0:=pV BK315 (.int .i64 0) 0 rfl
     have hcz57_1:=pV BK315 (.slice none 0 0) 1 rfl
     have hcz57_2:=pV BK315 (.slice none 0 0) 2 rfl
     have hfz57_0:=kF BK315.out 0
     have hfz57_1:=kF BK315.out 1
     have hfz57_2:=kF BK315.out 2
     try go_wp2
     refine bodyPost_ret (results_cell_row rfl _ _ gb315 90 #[.int .i64 ji44,.slice Ao48 x317001_1.length co48,.slice none 0 0] (0,0) _ rfl (by refine pQ ?_;refine blk_put (cs:=#[.int .i64 ji44,.slice Ao48 x317001_1.length co48,.slice none 0 0]) ?_ 2 _ rfl;refine pQ ?_;refine blk_put (cs:=#[.int .i64 ji44,.slice none 0 0,.slice none 0 0]) ?_ 1 _ rfl;refine pQ ?_;refine blk_put (cs:=#[.int .i64 0,.slice none 0 0,.slice none 0 0]) ?_ 0 _ rfl;refine pQ ?_;refine blk_far ?_ NB315_316.out _;exact pK BK315) Tryz.underlying90 rfl pU) rfl ?_
     exact ⟨_,_,by first|rfl|(simp [errW_none,errW_some] <;> rfl)|(simp only [← hji43,← hji44];first|rfl|(simp [errW_none,errW_some] <;> rfl))|(simp [*,errW_none,errW_some] <;> rfl),by refine pP ?_;exact Kd.R_mono (Kd.R_far (p:=⟨gb315,2,none⟩) (Kd.R_far (p:=⟨gb315,1,none⟩) (Kd.R_far (p:=⟨gb315,0,none⟩) (Kd.R_far (p:=⟨gb316,0,none⟩) (Kd.R_types (Kd.R_types HO_317001.out BK316.out (by decide)) BK315.out (by decide)) (fun _ hk=>hk.1.2) (.int .i64 ji44)) (fun _ hk=>hk.2) (.int .i64 ji44)) (fun _ hk=>hk.2) (.slice Ao48 x317001_1.length co48)) (fun _ hk=>hk.2) (.slice none 0 0)) (fun _ hk=>trivial),pN,pI,pB,pH⟩
def qref01_Nodes.l0:Nat→Int→List Int→Int→Option (List Int)
 | 0,_,_,_=>none
 | k+1,x0,x3,x4=>if x4 < 10 then ((qref01_Has.f x0 x4).bind fun t409=>(if t409=true then (if x3.length < 17592186044416 then (qref01_Nodes.l0 k x0 (x3++[x4]) (wrap64 (x4+1))) else (none)) else (qref01_Nodes.l0 k x0 x3 (wrap64 (x4+1))))) else (some x3)
def qref01_Nodes.f (k:Nat) (a0:Int):Option (List Int):=qref01_Nodes.l0 k a0 ([]:List Int) 0
set_option maxHeartbeats 8000000 in
set_option maxRecDepth 100000 in
theorem qref01_Nodes.calls (k:Nat) (a0:Int) (r:List Int) (w:World) (h:qref01_Nodes.f k a0=some r) :
  Calls Tryz.prog 60 #[.int .i64 a0] w fun e w'=>∃ v0_:Value,e=.returned (v0_)∧Kd.R (Kd.int .i64) 3 w' w.heap.size (fun _=>True) v0_ r∧Below w.heap.size w w':=by
 have HB:=Z (Below.refl w.heap.size w)
 have H:(qref01_Nodes.l0 k a0 ([]:List Int) 0)=some r:=h
 clear h
 have H':=Z H
 clear H
 go_enter Tryz.func60,Tryz.ntmps60
 go_wp2
 go_loopg [3,4] k (fun kq v3 v4 w'=>∃ (x3_1:List Int) (x4_1:Int),v4=.int .i64 x4_1∧Aside0 (qref01_Nodes.l0 kq a0 x3_1 x4_1=some r)∧Aside0 (kq≤k)∧Aside0 (Kd.R (Kd.int .i64) 3 w' w.heap.size (fun _=>True) v3 x3_1)∧Aside0 (Below w.heap.size w w'))
 case atStart=>exact ⟨(([]:List Int)),(0),pE,H',⟨Nat.le_refl _⟩,⟨pN⟩,⟨pB⟩⟩
 case round =>
  clear H'
  obtain ⟨x3_1,x4_1,rfl,HA,HK1,HO_3,HB⟩:=hrel
  cases gk with
  | zero=>exact absurd HA.out (by simp [qref01_Nodes.l0])
  | succ k1 =>
   have H:=HA.out
   clear HA
   simp only [qref01_Nodes.l0] at H
   by_cases c2:x4_1 < 10
   ·rw [if_pos c2] at H
    have c2b0:decide (x4_1 < 10)=true:=decide_eq_true c2
    clear c2
    replace H:=pO H
    obtain ⟨t409,A30,H⟩:=H
    try dsimp only at H
    have A3:=Z A30
    clear A30
    by_cases c4:t409=true
    ·subst c4
     rw [if_pos rfl] at H
     by_cases c5:x3_1.length < 17592186044416
     ·rw [if_pos c5] at H
      have LMc5:=Z c5
      clear c5
      obtain ⟨y410,hy410⟩:∃ y_:List Int,y_=(x3_1++[x4_1]):=⟨_,rfl⟩
      first|rw [← hy410] at H|(replace H:=(Option.bind_some _ _).symm.trans H;rw [← hy410] at H)
      have Ny410:=Z hy410
      clear hy410
      have H':=Z H
      clear H
      go_wp2_with (first|((with_reducible refine gate_callee (f:=78) rfl ?_);refine goesL_ (some 11) rfl rfl Tryz.func78 pU rfl #[.int .i64 a0,.int .i64 x4_1] rfl pG ?_;(with_reducible refine (qref01_Has.calls a0 x4_1 true _ A3.out).mono ?_);rintro e w' ⟨rfl,⟨nd,rfl⟩⟩;refine ⟨_,rfl,?_⟩)|((with_reducible refine gate_builtin (b:=.append) (xs:=#[.tmp 12,.tmp 14]) rfl ?_);at_builtin;refine Kd.R_append (Kd.int .i64) (w0:=w) w.heap.size rfl (.tmp 12) (.tmp 14) 22 3 (.int .i64 0) 8 rfl Tryz.underlying22 info3 rfl (by decide) (by omega) u3 x3_1 x4_1 [.int .i64 x4_1] (fun _=>True) (fun _=>False) rfl rfl ?aP (fun _ hk=>hk.elim) ?aF ?aO ?aB ?aS ?aL ?_;(case aP=>exact rfl);(case aB=>exact pB);(case aF=>exact (fun _ _=>trivial));(case aO=>exact (pR HO_3));(case aS=>exact (below_size pB));(case aL=>have:=LMc5.out;omega);intro v411 w6 ho hb hg hat;rw [← Ny410.out] at ho;have n0_:=Z (hb);have n1_:=Z (ho);clear HB HO_3;have HB:=n0_;have HO412:=n1_;clear n0_ n1_ ho hb hg hat))
      go_roundg k1
      case measure=>have:=HK1.out;omega
      case rel=>exact ⟨(y410),(wrap64 (x4_1+1)),pE,H',⟨by have:=HK1.out;omega⟩,⟨pR HO412⟩,⟨pB⟩⟩
     ·rw [if_neg c5] at H
      exact absurd H (by simp)
    ·replace c4:=Bool.eq_false_iff.mpr c4
     subst c4
     rw [if_neg (show ¬ (false=true) by decide)] at H
     have H':=Z H
     clear H
     go_wp2_with (first|((with_reducible refine gate_callee (f:=78) rfl ?_);refine goesL_ (some 11) rfl rfl Tryz.func78 pU rfl #[.int .i64 a0,.int .i64 x4_1] rfl pG ?_;(with_reducible refine (qref01_Has.calls a0 x4_1 false _ A3.out).mono ?_);rintro e w' ⟨rfl,⟨nd,rfl⟩⟩;refine ⟨_,rfl,?_⟩))
     go_roundg k1
     case measure=>have:=HK1.out;omega
     case rel=>exact ⟨(x3_1),(wrap64 (x4_1+1)),pE,H',⟨by have:=HK1.out;omega⟩,⟨pR HO_3⟩,⟨pB⟩⟩
   ·rw [if_neg c2] at H
    have c2b0:decide (x4_1 < 10)=false:=decide_eq_false c2
    clear c2
    obtain rfl:=Option.some.inj H
    go_wp2
    go_ret
    exact ⟨_,pF,pR HO_3,pB⟩
def qref06_Declared.l0:Nat→Int→List (S92)→Int→Int→Option (Int)
 | 0,_,_,_,_=>none
 | k+1,x3,x7,x8,x9=>if x9 < x8 then (if 0≤x9 then (if x9 < (x7.length:Int) then (if x9 < 10 then (if (rd_T92 x7 x9).f0=true then (qref06_Declared.l0 k (Go.bits .or .i64 x3 (shl .i64 1 x9)) x7 x8 (wrap64 (x9+1))) else (qref06_Declared.l0 k x3 x7 x8 (wrap64 (x9+1)))) else (qref06_Declared.l0 k x3 x7 x8 (wrap64 (x9+1)))) else (none)) else (none)) else (some x3)
def qref06_Declared.f (k:Nat) (l0_0:List (S92)):Option (Int):=qref06_Declared.l0 k 0 l0_0 (l0_0.length:Int) 0
set_option maxHeartbeats 8000000 in
set_option maxRecDepth 100000 in
theorem qref06_Declared.calls (k:Nat) (A0_0:Option Addr) (c0_0:Nat) (l0_0:List (S92)) (r:Int) (w:World) (hr0_0:Kd.C k92 w A0_0 l0_0.length l0_0) (hc0_0:l0_0.length≤c0_0) (h:qref06_Declared.f k l0_0=some r) :
  Calls Tryz.prog 75 #[.agg #[.slice A0_0 l0_0.length c0_0]] w fun e w'=>e=.returned (.int .i64 r)∧Below w.heap.size w w':=by
 have hu25:=Tryz.underlying25
 have hu92:=Tryz.underlying92
 have HR0_0:=Z hr0_0
 have HC0_0:=Z hc0_0
 clear hr0_0 hc0_0
 have HB:=Z (Below.refl w.heap.size w)
 have H:(qref06_Declared.l0 k 0 l0_0 (l0_0.length:Int) 0)=some r:=h
 clear h
 have H':=Z H
 clear H
 go_enter Tryz.func75,Tryz.ntmps75
 go_wp2_with (first|((with_reducible refine gate_dst (N:=1) rfl ?_);refine box_event ?hg (N:=1) ?hd (cs:=#[.slice A0_0 l0_0.length c0_0]) (t:=25) ?hr ?_;(case hd=>rfl);(case hg=>rfl);(case hr=>first|(go_simp;done)|(go_simp;rfl));intro gb413 hg w2 hbox hb;have n0_:=Z (below_step pB hb);have BK413:=Z (hbox);have GW413:=Z ((pT hg:w.heap.size≤gb413));have GE413:=Z ((pT hg:w.heap.size≤gb413));clear HB;have HB:=n0_;clear n0_ hb hbox hg;obtain ⟨hcz3_0,hfz3_0⟩:=p1 BK413))
 go_loopg [3,9] k (fun kq v3 v9 w'=>∃ (x3_1:Int) (x9_1:Int),v3=.int .i64 x3_1∧v9=.int .i64 x9_1∧Aside0 (qref06_Declared.l0 kq x3_1 l0_0 (l0_0.length:Int) x9_1=some r)∧Aside0 (kq≤k)∧Aside0 (w'.heap[gb413]?=some (.cells #[(.slice A0_0 l0_0.length c0_0)] 25 (0,0)))∧Aside0 (Below w.heap.size w w'))
 case atStart=>exact ⟨(0),(0),pE,pE,H',⟨Nat.le_refl _⟩,⟨pK BK413⟩,⟨pB⟩⟩
 case round =>
  clear H'
  try clear p2
  try clear hcz3_0
  try clear hfz3_0
  obtain ⟨x3_1,x9_1,rfl,rfl,HA,HK1,BK413,HB⟩:=hrel
  cases gk with
  | zero=>exact absurd HA.out (by simp [qref06_Declared.l0])
  | succ k1 =>
   have H:=HA.out
   clear HA
   simp only [qref06_Declared.l0] at H
   by_cases c4:x9_1 < (l0_0.length:Int)
   ·rw [if_pos c4] at H
    have c4b0:decide (x9_1 < (l0_0.length:Int))=true:=decide_eq_true c4
    clear c4
    by_cases c5:0≤x9_1
    ·rw [if_pos c5] at H
     have c5b0:decide (0≤x9_1)=true:=decide_eq_true c5
     clear c5
     by_cases c6:x9_1 < (l0_0.length:Int)
     ·rw [if_pos c6] at H
      have c6b0:decide (x9_1 < (l0_0.length:Int))=true:=decide_eq_true c6
      clear c6
      by_cases c7:x9_1 < 10
      ·rw [if_pos c7] at H
       have c7b0:decide (x9_1 < 10)=true:=decide_eq_true c7
       clear c7
       obtain ⟨bq8,hbq8⟩:∃ b_:Bool,b_=((rd_T92 l0_0 x9_1).f0):=⟨_,rfl⟩
       replace H:(if bq8=true then (qref06_Declared.l0 k1 (Go.bits .or .i64 x3_1 (shl .i64 1 x9_1)) l0_0 (l0_0.length:Int) (wrap64 (x9_1+1))) else (qref06_Declared.l0 k1 x3_1 l0_0 (l0_0.length:Int) (wrap64 (x9_1+1))))=some r:=by rw [← hbq8] at H;exact H
       have Nbq8:=Z hbq8
       clear hbq8
       by_cases c9:bq8=true
       ·subst c9
        rw [if_pos rfl] at H
        have c10b0:=eq_true (of_decide_eq_true pA:0≤x9_1)
        obtain ⟨ji11,hji11⟩:∃ j_:Int,(shl .i64 1 x9_1)=j_:=⟨_,rfl⟩
        replace H:(qref06_Declared.l0 k1 (Go.bits .or .i64 x3_1 (ji11)) l0_0 (l0_0.length:Int) (wrap64 (x9_1+1)))=some r:=by first|(rw [hji11] at H;exact H)|(simp only [hji11] at H ⊢;exact H)
        have hji11_:(IntKind.i64.wrap (1 * 2 ^ min x9_1.toNat 64))=ji11:=hji11
        have hji11z:x9_1≤64→(IntKind.i64.wrap (1 * 2 ^ x9_1.toNat))=ji11:=shl_small hji11
        have hji11u:(IntKind.i64.wrap (2 ^ min x9_1.toNat 64))=ji11:=by have h_:=hji11_;rw [Int.one_mul] at h_;exact h_
        have hji11v:x9_1≤64→(IntKind.i64.wrap (2 ^ x9_1.toNat))=ji11:=fun hle_=>by have h_:=hji11z hle_;rw [Int.one_mul] at h_;exact h_
        have hji11y:(wrap64 (1 * 2 ^ min x9_1.toNat 64))=ji11:=(i64_w _).symm.trans hji11_
        have hji11x:x9_1≤64→(wrap64 (1 * 2 ^ x9_1.toNat))=ji11:=fun h_=>(i64_w _).symm.trans (hji11z h_)
        have H':=Z H
        clear H
        have p414:0≤(x9_1:Int):=of_decide_eq_true pA
        have q414:x9_1 < (l0_0.length:Int):=of_decide_eq_true pA
        obtain ⟨ad414,A414_2,c414_2,A414_3,c414_3,e414,hx414_0,hx414_1,hx414_2,hx414_3,hl414_2,hi414_2,hl414_3,hi414_3⟩:=at_T92 HR0_0.out x9_1 p414 q414
        (try rw [← Nbq8.out] at hx414_0)
        cases e414
        replace hx414_0:=pX HB hx414_0
        replace hx414_1:=pX HB hx414_1
        replace hx414_2:=pX HB hx414_2
        replace hx414_3:=pX HB hx414_3
        have HR414_2:=Z hi414_2
        have HC414_2:=Z hl414_2
        clear hi414_2 hl414_2
        have HR414_3:=Z hi414_3
        have HC414_3:=Z hl414_3
        clear hi414_3 hl414_3
        replace p414:=eq_true p414
        replace q414:=eq_true q414
        go_wp2_with (first|((with_reducible refine gate_dst (N:=5) rfl ?_);refine box_event ?hg (N:=5) ?hd (cs:=#[.bool false,.int .i64 0,.slice none 0 0,.slice none 0 0]) (t:=92) ?hr ?_;(case hd=>rfl);(case hg=>rfl);(case hr=>first|(go_simp;done)|(go_simp;rfl));intro gb415 hg w12 hbox hb;have n0_:=Z (blk_below (g:=gb413) (o:=.cells #[.slice (some ad414) l0_0.length c0_0] 25 (0,0)) (pK BK413) hb);have n1_:=Z (below_step pB hb);have BK415:=Z (hbox);have GW415:=Z ((pT hg:w.heap.size≤gb415));have GE415:=Z ((pT hg:w.heap.size≤gb415));have NB413_415:=Z ((pL hg (pK BK413):gb413 ≠ gb415));have NB415_413:=Z ((pM hg (pK BK413):gb415 ≠ gb413));clear BK413 HB;have BK413:=n0_;have HB:=n1_;clear n0_ n1_ hb hbox hg;have hnb13:=NB415_413.out;have hnc13:=NB413_415.out;obtain ⟨hcz14_0,hcz14_1,hcz14_2,hcz14_3,hfz14_0,hfz14_1,hfz14_2,hfz14_3⟩:=p4 BK415))
        go_roundg k1
        case measure=>have:=HK1.out;omega
        case rel=>exact ⟨(Go.bits .or .i64 x3_1 (ji11)),(wrap64 (x9_1+1)),(by first|exact pE|(simp only [← hji11] <;> (first|rfl|simp))),pE,H',⟨by have:=HK1.out;omega⟩,⟨by refine pQ ?_;refine blk_far ?_ NB413_415.out _;refine pQ ?_;refine blk_far ?_ NB413_415.out _;refine pQ ?_;refine blk_far ?_ NB413_415.out _;refine pQ ?_;refine blk_far ?_ NB413_415.out _;exact pK BK413⟩,⟨pB⟩⟩
       ·replace c9:=Bool.eq_false_iff.mpr c9
        subst c9
        rw [if_neg (show ¬ (false=true) by decide)] at H
        have H':=Z H
        clear H
        have p414:0≤(x9_1:Int):=of_decide_eq_true pA
        have q414:x9_1 < (l0_0.length:Int):=of_decide_eq_true pA
        obtain ⟨ad414,A414_2,c414_2,A414_3,c414_3,e414,hx414_0,hx414_1,hx414_2,hx414_3,hl414_2,hi414_2,hl414_3,hi414_3⟩:=at_T92 HR0_0.out x9_1 p414 q414
        (try rw [← Nbq8.out] at hx414_0)
        cases e414
        replace hx414_0:=pX HB hx414_0
        replace hx414_1:=pX HB hx414_1
        replace hx414_2:=pX HB hx414_2
        replace hx414_3:=pX HB hx414_3
        have HR414_2:=Z hi414_2
        have HC414_2:=Z hl414_2
        clear hi414_2 hl414_2
        have HR414_3:=Z hi414_3
        have HC414_3:=Z hl414_3
        clear hi414_3 hl414_3
        replace p414:=eq_true p414
        replace q414:=eq_true q414
        go_wp2_with (first|((with_reducible refine gate_dst (N:=5) rfl ?_);refine box_event ?hg (N:=5) ?hd (cs:=#[.bool false,.int .i64 0,.slice none 0 0,.slice none 0 0]) (t:=92) ?hr ?_;(case hd=>rfl);(case hg=>rfl);(case hr=>first|(go_simp;done)|(go_simp;rfl));intro gb415 hg w15 hbox hb;have n0_:=Z (blk_below (g:=gb413) (o:=.cells #[.slice (some ad414) l0_0.length c0_0] 25 (0,0)) (pK BK413) hb);have n1_:=Z (below_step pB hb);have BK415:=Z (hbox);have GW415:=Z ((pT hg:w.heap.size≤gb415));have GE415:=Z ((pT hg:w.heap.size≤gb415));have NB413_415:=Z ((pL hg (pK BK413):gb413 ≠ gb415));have NB415_413:=Z ((pM hg (pK BK413):gb415 ≠ gb413));clear BK413 HB;have BK413:=n0_;have HB:=n1_;clear n0_ n1_ hb hbox hg;have hnb16:=NB415_413.out;have hnc16:=NB413_415.out;obtain ⟨hcz17_0,hcz17_1,hcz17_2,hcz17_3,hfz17_0,hfz17_1,hfz17_2,hfz17_3⟩:=p4 BK415))
        go_roundg k1
        case measure=>have:=HK1.out;omega
        case rel=>exact ⟨(x3_1),(wrap64 (x9_1+1)),pE,pE,H',⟨by have:=HK1.out;omega⟩,⟨by refine pQ ?_;refine blk_far ?_ NB413_415.out _;refine pQ ?_;refine blk_far ?_ NB413_415.out _;refine pQ ?_;refine blk_far ?_ NB413_415.out _;refine pQ ?_;refine blk_far ?_ NB413_415.out _;exact pK BK413⟩,⟨pB⟩⟩
      ·rw [if_neg c7] at H
       have c7b0:decide (x9_1 < 10)=false:=decide_eq_false c7
       clear c7
       have H':=Z H
       clear H
       have p414:0≤(x9_1:Int):=of_decide_eq_true pA
       have q414:x9_1 < (l0_0.length:Int):=of_decide_eq_true pA
       obtain ⟨ad414,A414_2,c414_2,A414_3,c414_3,e414,hx414_0,hx414_1,hx414_2,hx414_3,hl414_2,hi414_2,hl414_3,hi414_3⟩:=at_T92 HR0_0.out x9_1 p414 q414
       cases e414
       replace hx414_0:=pX HB hx414_0
       replace hx414_1:=pX HB hx414_1
       replace hx414_2:=pX HB hx414_2
       replace hx414_3:=pX HB hx414_3
       have HR414_2:=Z hi414_2
       have HC414_2:=Z hl414_2
       clear hi414_2 hl414_2
       have HR414_3:=Z hi414_3
       have HC414_3:=Z hl414_3
       clear hi414_3 hl414_3
       replace p414:=eq_true p414
       replace q414:=eq_true q414
       go_wp2_with (first|((with_reducible refine gate_dst (N:=5) rfl ?_);refine box_event ?hg (N:=5) ?hd (cs:=#[.bool false,.int .i64 0,.slice none 0 0,.slice none 0 0]) (t:=92) ?hr ?_;(case hd=>rfl);(case hg=>rfl);(case hr=>first|(go_simp;done)|(go_simp;rfl));intro gb415 hg w18 hbox hb;have n0_:=Z (blk_below (g:=gb413) (o:=.cells #[.slice (some ad414) l0_0.length c0_0] 25 (0,0)) (pK BK413) hb);have n1_:=Z (below_step pB hb);have BK415:=Z (hbox);have GW415:=Z ((pT hg:w.heap.size≤gb415));have GE415:=Z ((pT hg:w.heap.size≤gb415));have NB413_415:=Z ((pL hg (pK BK413):gb413 ≠ gb415));have NB415_413:=Z ((pM hg (pK BK413):gb415 ≠ gb413));clear BK413 HB;have BK413:=n0_;have HB:=n1_;clear n0_ n1_ hb hbox hg;have hnb19:=NB415_413.out;have hnc19:=NB413_415.out;obtain ⟨hcz20_0,hcz20_1,hcz20_2,hcz20_3,hfz20_0,hfz20_1,hfz20_2,hfz20_3⟩:=p4 BK415))
       go_roundg k1
       case measure=>have:=HK1.out;omega
       case rel=>exact ⟨(x3_1),(wrap64 (x9_1+1)),pE,pE,H',⟨by have:=HK1.out;omega⟩,⟨by refine pQ ?_;refine blk_far ?_ NB413_415.out _;refine pQ ?_;refine blk_far ?_ NB413_415.out _;refine pQ ?_;refine blk_far ?_ NB413_415.out _;refine pQ ?_;refine blk_far ?_ NB413_415.out _;exact pK BK413⟩,⟨pB⟩⟩
     ·rw [if_neg c6] at H
      exact absurd H (by simp)
    ·rw [if_neg c5] at H
     exact absurd H (by simp)
   ·rw [if_neg c4] at H
    have c4b0:decide (x9_1 < (l0_0.length:Int))=false:=decide_eq_false c4
    clear c4
    obtain rfl:=Option.some.inj H
    go_wp2
    go_ret
    exact ⟨pF,pB⟩
mutual
def qref02_Satisfied.l0:Nat→Int→Int→List Int→Int→Int→Int→List Int→List (S90)→Option (Bool)
 | 0,_,_,_,_,_,_,_,_=>none
 | k+1,x1,x5,x14,x15,x16,x417000,x417001,x417002=>if x16 < x15 then (if 0≤x16 then (if x16 < (x14.length:Int) then ((qref01_Has.f x1 (rd x14 x16)).bind fun t419=>(if t419=true then (qref02_Satisfied.l0 k x1 (wrap64 (x5+1)) x14 x15 (wrap64 (x16+1)) x417000 x417001 x417002) else (qref02_Satisfied.l0 k x1 x5 x14 x15 (wrap64 (x16+1)) x417000 x417001 x417002))) else (none)) else (none)) else (qref02_Satisfied.l1 k x1 x5 x417002 (x417002.length:Int) 0 x417000 x417001 x417002)
def qref02_Satisfied.l1:Nat→Int→Int→List (S90)→Int→Int→Int→List Int→List (S90)→Option (Bool)
 | 0,_,_,_,_,_,_,_,_=>none
 | k+1,x1,x5,x27,x28,x29,x417000,x417001,x417002=>if x29 < x28 then (if 0≤x29 then (if x29 < (x27.length:Int) then ((qref02_Satisfied.f k ((rd_T90 x27 x29).f0) ((rd_T90 x27 x29).f1) ((rd_T90 x27 x29).f2) x1).bind fun t422=>(if t422=true then (qref02_Satisfied.l1 k x1 (wrap64 (x5+1)) x27 x28 (wrap64 (x29+1)) x417000 x417001 x417002) else (qref02_Satisfied.l1 k x1 x5 x27 x28 (wrap64 (x29+1)) x417000 x417001 x417002))) else (none)) else (none)) else (some (decide (x5 ≥ x417000)))
def qref02_Satisfied.f:Nat→Int→List Int→List (S90)→Int→Option (Bool)
 | 0,_,_,_,_=>none
 | k+1,a0_0,l0_1,l0_2,a1=>(qref01_Valid.f a1).bind fun t417=>(if t417=true then (qref02_Satisfied.l0 k a1 0 l0_1 (l0_1.length:Int) 0 a0_0 l0_1 l0_2) else (some false))
end
set_option maxHeartbeats 8000000 in
set_option maxRecDepth 100000 in
theorem qref02_Satisfied.calls (k:Nat):∀ (a0_0:Int) (A0_1:Option Addr) (c0_1:Nat) (l0_1:List Int) (A0_2:Option Addr) (c0_2:Nat) (l0_2:List (S90)) (a1:Int) (r:Bool) (w:World) (hr0_1:Kd.C (Kd.int .i64) w A0_1 l0_1.length l0_1) (hc0_1:l0_1.length≤c0_1) (hr0_2:Kd.C k90 w A0_2 l0_2.length l0_2) (hc0_2:l0_2.length≤c0_2) (h:qref02_Satisfied.f k a0_0 l0_1 l0_2 a1=some r),
  Calls Tryz.prog 107 #[.agg #[.int .i64 a0_0,.slice A0_1 l0_1.length c0_1,.slice A0_2 l0_2.length c0_2],.int .i64 a1] w fun e w'=>e=.returned (.bool r)∧Below w.heap.size w w':=by
 induction k using Nat.strongRecOn with
 | _ k ih =>
 intro a0_0 A0_1 c0_1 l0_1 A0_2 c0_2 l0_2 a1 r w hr0_1 hc0_1 hr0_2 hc0_2 h
 cases k with
 | zero=>exact absurd h (by simp [qref02_Satisfied.f])
 | succ k =>
 simp only [qref02_Satisfied.f] at h
 have hu90:=Tryz.underlying90
 have HR0_1:=Z hr0_1
 have HC0_1:=Z hc0_1
 clear hr0_1 hc0_1
 have HR0_2:=Z hr0_2
 have HC0_2:=Z hc0_2
 clear hr0_2 hc0_2
 have HB:=Z (Below.refl w.heap.size w)
 have H:((qref01_Valid.f a1).bind fun t417=>(if t417=true then (qref02_Satisfied.l0 k a1 0 l0_1 (l0_1.length:Int) 0 a0_0 l0_1 l0_2) else (some false)))=some r:=h
 clear h
 replace H:=pO H
 obtain ⟨t417,A30,H⟩:=H
 try dsimp only at H
 have A3:=Z A30
 clear A30
 by_cases c4:t417=true
 ·subst c4
  rw [if_pos rfl] at H
  have H':=Z H
  clear H
  go_enter Tryz.func107,Tryz.ntmps107
  go_wp2_with (first|((with_reducible refine gate_dst (N:=2) rfl ?_);refine box_event ?hg (N:=2) ?hd (cs:=#[.int .i64 a0_0,.slice A0_1 l0_1.length c0_1,.slice A0_2 l0_2.length c0_2]) (t:=90) ?hr ?_;(case hd=>rfl);(case hg=>rfl);(case hr=>first|(go_simp;done)|(go_simp;rfl));intro gb416 hg w5 hbox hb;have n0_:=Z (below_step pB hb);have BK416:=Z (hbox);have GW416:=Z ((pT hg:w.heap.size≤gb416));have GE416:=Z ((pT hg:w.heap.size≤gb416));clear HB;have HB:=n0_;clear n0_ hb hbox hg)|((with_reducible refine gate_callee (f:=115) rfl ?_);refine goesL_ (some 11) rfl rfl Tryz.func115 pU rfl #[.int .i64 a1] rfl pG ?_;(with_reducible refine (qref01_Valid.calls a1 true _ A3.out).mono ?_);rintro e w' ⟨rfl,⟨nd,rfl⟩⟩;refine ⟨_,rfl,?_⟩;obtain ⟨hcz6_0,hcz6_1,hcz6_2,hfz6_0,hfz6_1,hfz6_2⟩:=p3 BK416))
  go_loopg [5,16] k (fun kq v5 v16 w'=>∃ (x5_1:Int) (x16_1:Int),v5=.int .i64 x5_1∧v16=.int .i64 x16_1∧Aside0 (qref02_Satisfied.l0 kq a1 x5_1 l0_1 (l0_1.length:Int) x16_1 a0_0 l0_1 l0_2=some r)∧Aside0 (kq≤k)∧Aside0 (w'.heap[gb416]?=some (.cells #[.int .i64 a0_0,(.slice A0_1 l0_1.length c0_1),(.slice A0_2 l0_2.length c0_2)] 90 (0,0)))∧Aside0 (Below w.heap.size w w'))
  case atStart=>exact ⟨(0),(0),pE,pE,H',⟨Nat.le_refl _⟩,⟨pK BK416⟩,⟨pB⟩⟩
  case round =>
   clear H'
   try clear c1
   try clear p2
   try clear c4
   try clear hcz6_0
   try clear hcz6_1
   try clear hcz6_2
   try clear hfz6_0
   try clear hfz6_1
   try clear hfz6_2
   obtain ⟨x5_1,x16_1,rfl,rfl,HA,HK1,BK416,HB⟩:=hrel
   cases gk with
   | zero=>exact absurd HA.out (by simp [qref02_Satisfied.l0])
   | succ k1 =>
    have H:=HA.out
    clear HA
    simp only [qref02_Satisfied.l0] at H
    by_cases c7:x16_1 < (l0_1.length:Int)
    ·rw [if_pos c7] at H
     have c7b0:decide (x16_1 < (l0_1.length:Int))=true:=decide_eq_true c7
     clear c7
     by_cases c8:0≤x16_1
     ·rw [if_pos c8] at H
      have c8b0:decide (0≤x16_1)=true:=decide_eq_true c8
      clear c8
      by_cases c9:x16_1 < (l0_1.length:Int)
      ·rw [if_pos c9] at H
       have c9b0:decide (x16_1 < (l0_1.length:Int))=true:=decide_eq_true c9
       clear c9
       replace H:=pO H
       obtain ⟨t419,A100,H⟩:=H
       try dsimp only at H
       have A10:=Z A100
       clear A100
       by_cases c11:t419=true
       ·subst c11
        rw [if_pos rfl] at H
        have H':=Z H
        clear H
        have p418:0≤(x16_1:Int):=of_decide_eq_true pA
        have q418:x16_1 < (l0_1.length:Int):=of_decide_eq_true pA
        obtain ⟨ad418,e418,hx418_0⟩:=Kd.at_int HR0_1.out x16_1 p418 q418
        cases e418
        replace hx418_0:=pX HB hx418_0
        replace p418:=eq_true p418
        replace q418:=eq_true q418
        go_wp2_with (first|((with_reducible refine gate_callee (f:=78) rfl ?_);refine goesL_ (some 22) rfl rfl Tryz.func78 pU rfl #[.int .i64 a1,.int .i64 (rd l0_1 x16_1)] rfl pG ?_;(with_reducible refine (qref01_Has.calls a1 (rd l0_1 x16_1) true _ A10.out).mono ?_);rintro e w' ⟨rfl,⟨nd,rfl⟩⟩;refine ⟨_,rfl,?_⟩))
        go_roundg k1
        case measure=>have:=HK1.out;omega
        case rel=>exact ⟨(wrap64 (x5_1+1)),(wrap64 (x16_1+1)),pE,pE,H',⟨by have:=HK1.out;omega⟩,⟨pK BK416⟩,⟨pB⟩⟩
       ·replace c11:=Bool.eq_false_iff.mpr c11
        subst c11
        rw [if_neg (show ¬ (false=true) by decide)] at H
        have H':=Z H
        clear H
        have p418:0≤(x16_1:Int):=of_decide_eq_true pA
        have q418:x16_1 < (l0_1.length:Int):=of_decide_eq_true pA
        obtain ⟨ad418,e418,hx418_0⟩:=Kd.at_int HR0_1.out x16_1 p418 q418
        cases e418
        replace hx418_0:=pX HB hx418_0
        replace p418:=eq_true p418
        replace q418:=eq_true q418
        go_wp2_with (first|((with_reducible refine gate_callee (f:=78) rfl ?_);refine goesL_ (some 22) rfl rfl Tryz.func78 pU rfl #[.int .i64 a1,.int .i64 (rd l0_1 x16_1)] rfl pG ?_;(with_reducible refine (qref01_Has.calls a1 (rd l0_1 x16_1) false _ A10.out).mono ?_);rintro e w' ⟨rfl,⟨nd,rfl⟩⟩;refine ⟨_,rfl,?_⟩))
        go_roundg k1
        case measure=>have:=HK1.out;omega
        case rel=>exact ⟨(x5_1),(wrap64 (x16_1+1)),pE,pE,H',⟨by have:=HK1.out;omega⟩,⟨pK BK416⟩,⟨pB⟩⟩
      ·rw [if_neg c9] at H
       exact absurd H (by simp)
     ·rw [if_neg c8] at H
      exact absurd H (by simp)
    ·rw [if_neg c7] at H
     have c7b0:decide (x16_1 < (l0_1.length:Int))=false:=decide_eq_false c7
     clear c7
     have H':=Z H
     clear H
     have hcz12_0:=pV BK416 (.int .i64 a0_0) 0 rfl
     have hcz12_1:=pV BK416 (.slice A0_1 l0_1.length c0_1) 1 rfl
     have hcz12_2:=pV BK416 (.slice A0_2 l0_2.length c0_2) 2 rfl
     have hfz12_0:=kF BK416.out 0
     have hfz12_1:=kF BK416.out 1
     have hfz12_2:=kF BK416.out 2
     go_wp2
     go_loopg [5,29] k1 (fun kq v5 v29 w'=>∃ (x5_2:Int) (x29_2:Int),v5=.int .i64 x5_2∧v29=.int .i64 x29_2∧Aside0 (qref02_Satisfied.l1 kq a1 x5_2 l0_2 (l0_2.length:Int) x29_2 a0_0 l0_1 l0_2=some r)∧Aside0 (kq≤k1)∧Aside0 (w'.heap[gb416]?=some (.cells #[.int .i64 a0_0,(.slice A0_1 l0_1.length c0_1),(.slice A0_2 l0_2.length c0_2)] 90 (0,0)))∧Aside0 (Below w.heap.size w w'))
     case atStart=>exact ⟨(x5_1),(0),pE,pE,H',⟨Nat.le_refl _⟩,⟨pK BK416⟩,⟨pB⟩⟩
     case round =>
      clear H'
      try clear c1
      try clear p2
      try clear c4
      try clear p4
      try clear q4
      try clear hx4
      try clear p6
      try clear c7
      try clear c7b0
      try clear c8
      try clear c8b0
      try clear c9
      try clear c9b0
      try clear c10
      try clear c11
      try clear hcz12_0
      try clear hcz12_1
      try clear hcz12_2
      try clear hcz6_0
      try clear hcz6_1
      try clear hcz6_2
      try clear hfz12_0
      try clear hfz12_1
      try clear hfz12_2
      try clear hfz6_0
      try clear hfz6_1
      try clear hfz6_2
      try clear hx418_0
      try clear p418
      try clear q418
      obtain ⟨x5_2,x29_2,rfl,rfl,HA,HK2,BK416,HB⟩:=hrel
      cases gk with
      | zero=>exact absurd HA.out (by simp [qref02_Satisfied.l1])
      | succ k2 =>
       have H:=HA.out
       clear HA
       simp only [qref02_Satisfied.l1] at H
       by_cases c13:x29_2 < (l0_2.length:Int)
       ·rw [if_pos c13] at H
        have c13b0:decide (x29_2 < (l0_2.length:Int))=true:=decide_eq_true c13
        clear c13
        by_cases c14:0≤x29_2
        ·rw [if_pos c14] at H
         have c14b0:decide (0≤x29_2)=true:=decide_eq_true c14
         clear c14
         by_cases c15:x29_2 < (l0_2.length:Int)
         ·rw [if_pos c15] at H
          have c15b0:decide (x29_2 < (l0_2.length:Int))=true:=decide_eq_true c15
          clear c15
          replace H:=pO H
          obtain ⟨t422,A160,H⟩:=H
          try dsimp only at H
          have A16:=Z A160
          clear A160
          by_cases c17:t422=true
          ·subst c17
           rw [if_pos rfl] at H
           have H':=Z H
           clear H
           have p420:0≤(x29_2:Int):=of_decide_eq_true pA
           have q420:x29_2 < (l0_2.length:Int):=of_decide_eq_true pA
           obtain ⟨ad420,A420_1,c420_1,A420_2,c420_2,e420,hx420_0,hx420_1,hx420_2,hl420_1,hi420_1,hl420_2,hi420_2⟩:=at_T90 HR0_2.out x29_2 p420 q420
           cases e420
           replace hx420_0:=pX HB hx420_0
           replace hx420_1:=pX HB hx420_1
           replace hx420_2:=pX HB hx420_2
           have HR420_1:=Z hi420_1
           have HC420_1:=Z hl420_1
           clear hi420_1 hl420_1
           have HR420_2:=Z hi420_2
           have HC420_2:=Z hl420_2
           clear hi420_2 hl420_2
           replace p420:=eq_true p420
           replace q420:=eq_true q420
           go_wp2_with (first|((with_reducible refine gate_dst (N:=9) rfl ?_);refine box_event ?hg (N:=9) ?hd (cs:=#[.int .i64 0,.slice none 0 0,.slice none 0 0]) (t:=90) ?hr ?_;(case hd=>rfl);(case hg=>rfl);(case hr=>first|(go_simp;done)|(go_simp;rfl));intro gb421 hg w18 hbox hb;have n0_:=Z (blk_below (g:=gb416) (o:=.cells #[.int .i64 a0_0,.slice A0_1 l0_1.length c0_1,.slice (some ad420) l0_2.length c0_2] 90 (0,0)) (pK BK416) hb);have n1_:=Z (below_step pB hb);have BK421:=Z (hbox);have GW421:=Z ((pT hg:w.heap.size≤gb421));have GE421:=Z ((pT hg:w.heap.size≤gb421));have NB416_421:=Z ((pL hg (pK BK416):gb416 ≠ gb421));have NB421_416:=Z ((pM hg (pK BK416):gb421 ≠ gb416));clear BK416 HB;have BK416:=n0_;have HB:=n1_;clear n0_ n1_ hb hbox hg;have hnb19:=NB421_416.out;have hnc19:=NB416_421.out;obtain ⟨hcz20_0,hcz20_1,hcz20_2,hfz20_0,hfz20_1,hfz20_2⟩:=p3 BK421)|((with_reducible refine gate_callee (f:=107) rfl ?_);refine goesL_ (some 35) rfl rfl Tryz.func107 pU rfl #[.agg #[.int .i64 ((rd_T90 l0_2 x29_2).f0),.slice A420_1 ((rd_T90 l0_2 x29_2).f1).length c420_1,.slice A420_2 ((rd_T90 l0_2 x29_2).f2).length c420_2],.int .i64 a1] rfl pG ?_;(with_reducible refine (ih k2 (by have:=HK1.out;have:=HK2.out;omega) ((rd_T90 l0_2 x29_2).f0) _ _ ((rd_T90 l0_2 x29_2).f1) _ _ ((rd_T90 l0_2 x29_2).f2) a1 true _ ?side1 ?side2 ?side3 ?side4 A16.out).mono ?_);(case side1=>exact Kd.C_below HR420_1.out pB);(case side2=>exact HC420_1.out);(case side3=>exact Kd.C_below HR420_2.out pB);(case side4=>exact HC420_2.out);rintro e w21 ⟨rfl,hb⟩;refine ⟨_,rfl,?_⟩;replace BK416:=Z (blk_below (g:=gb416) (o:=.cells #[.int .i64 a0_0,.slice A0_1 l0_1.length c0_1,.slice (some ad420) l0_2.length c0_2] 90 (0,0)) (by refine pQ ?_;refine blk_far ?_ NB416_421.out _;refine pQ ?_;refine blk_far ?_ NB416_421.out _;refine pQ ?_;refine blk_far ?_ NB416_421.out _;exact pK BK416) hb);replace BK421:=Z (blk_below (g:=gb421) (o:=.cells #[.int .i64 ((rd_T90 l0_2 x29_2).f0),.slice A420_1 ((rd_T90 l0_2 x29_2).f1).length c420_1,.slice A420_2 ((rd_T90 l0_2 x29_2).f2).length c420_2] 90 (0,0)) (by refine pQ ?_;refine blk_put (cs:=#[.int .i64 ((rd_T90 l0_2 x29_2).f0),.slice A420_1 ((rd_T90 l0_2 x29_2).f1).length c420_1,.slice none 0 0]) ?_ 2 _ rfl;refine pQ ?_;refine blk_put (cs:=#[.int .i64 ((rd_T90 l0_2 x29_2).f0),.slice none 0 0,.slice none 0 0]) ?_ 1 _ rfl;refine pQ ?_;refine blk_put (cs:=#[.int .i64 0,.slice none 0 0,.slice none 0 0]) ?_ 0 _ rfl;exact pK BK421) hb);have n2_:=Z (below_step pB hb);clear HB;have HB:=n2_;clear n2_;(try clear hb);(try clear hb2);(try clear hk);(try clear hi)))
           go_roundg k2
           case measure=>have:=HK1.out;have:=HK2.out;omega
           case rel=>exact ⟨(wrap64 (x5_2+1)),(wrap64 (x29_2+1)),pE,pE,H',⟨by have:=HK1.out;have:=HK2.out;omega⟩,⟨pK BK416⟩,⟨pB⟩⟩
          ·replace c17:=Bool.eq_false_iff.mpr c17
           subst c17
           rw [if_neg (show ¬ (false=true) by decide)] at H
           have H':=Z H
           clear H
           have p420:0≤(x29_2:Int):=of_decide_eq_true pA
           have q420:x29_2 < (l0_2.length:Int):=of_decide_eq_true pA
           obtain ⟨ad420,A420_1,c420_1,A420_2,c420_2,e420,hx420_0,hx420_1,hx420_2,hl420_1,hi420_1,hl420_2,hi420_2⟩:=at_T90 HR0_2.out x29_2 p420 q420
           cases e420
           replace hx420_0:=pX HB hx420_0
           replace hx420_1:=pX HB hx420_1
           replace hx420_2:=pX HB hx420_2
           have HR420_1:=Z hi420_1
           have HC420_1:=Z hl420_1
           clear hi420_1 hl420_1
           have HR420_2:=Z hi420_2
           have HC420_2:=Z hl420_2
           clear hi420_2 hl420_2
           replace p420:=eq_true p420
           replace q420:=eq_true q420
           go_wp2_with (first|((with_reducible refine gate_dst (N:=9) rfl ?_);refine box_event ?hg (N:=9) ?hd (cs:=#[.int .i64 0,.slice none 0 0,.slice none 0 0]) (t:=90) ?hr ?_;(case hd=>rfl);(case hg=>rfl);(case hr=>first|(go_simp;done)|(go_simp;rfl));intro gb421 hg w22 hbox hb;have n0_:=Z (blk_below (g:=gb416) (o:=.cells #[.int .i64 a0_0,.slice A0_1 l0_1.length c0_1,.slice (some ad420) l0_2.length c0_2] 90 (0,0)) (pK BK416) hb);have n1_:=Z (below_step pB hb);have BK421:=Z (hbox);have GW421:=Z ((pT hg:w.heap.size≤gb421));have GE421:=Z ((pT hg:w.heap.size≤gb421));have NB416_421:=Z ((pL hg (pK BK416):gb416 ≠ gb421));have NB421_416:=Z ((pM hg (pK BK416):gb421 ≠ gb416));clear BK416 HB;have BK416:=n0_;have HB:=n1_;clear n0_ n1_ hb hbox hg;have hnb23:=NB421_416.out;have hnc23:=NB416_421.out;obtain ⟨hcz24_0,hcz24_1,hcz24_2,hfz24_0,hfz24_1,hfz24_2⟩:=p3 BK421)|((with_reducible refine gate_callee (f:=107) rfl ?_);refine goesL_ (some 35) rfl rfl Tryz.func107 pU rfl #[.agg #[.int .i64 ((rd_T90 l0_2 x29_2).f0),.slice A420_1 ((rd_T90 l0_2 x29_2).f1).length c420_1,.slice A420_2 ((rd_T90 l0_2 x29_2).f2).length c420_2],.int .i64 a1] rfl pG ?_;(with_reducible refine (ih k2 (by have:=HK1.out;have:=HK2.out;omega) ((rd_T90 l0_2 x29_2).f0) _ _ ((rd_T90 l0_2 x29_2).f1) _ _ ((rd_T90 l0_2 x29_2).f2) a1 false _ ?side1 ?side2 ?side3 ?side4 A16.out).mono ?_);(case side1=>exact Kd.C_below HR420_1.out pB);(case side2=>exact HC420_1.out);(case side3=>exact Kd.C_below HR420_2.out pB);(case side4=>exact HC420_2.out);rintro e w25 ⟨rfl,hb⟩;refine ⟨_,rfl,?_⟩;replace BK416:=Z (blk_below (g:=gb416) (o:=.cells #[.int .i64 a0_0,.slice A0_1 l0_1.length c0_1,.slice (some ad420) l0_2.length c0_2] 90 (0,0)) (by refine pQ ?_;refine blk_far ?_ NB416_421.out _;refine pQ ?_;refine blk_far ?_ NB416_421.out _;refine pQ ?_;refine blk_far ?_ NB416_421.out _;exact pK BK416) hb);replace BK421:=Z (blk_below (g:=gb421) (o:=.cells #[.int .i64 ((rd_T90 l0_2 x29_2).f0),.slice A420_1 ((rd_T90 l0_2 x29_2).f1).length c420_1,.slice A420_2 ((rd_T90 l0_2 x29_2).f2).length c420_2] 90 (0,0)) (by refine pQ ?_;refine blk_put (cs:=#[.int .i64 ((rd_T90 l0_2 x29_2).f0),.slice A420_1 ((rd_T90 l0_2 x29_2).f1).length c420_1,.slice none 0 0]) ?_ 2 _ rfl;refine pQ ?_;refine blk_put (cs:=#[.int .i64 ((rd_T90 l0_2 x29_2).f0),.slice none 0 0,.slice none 0 0]) ?_ 1 _ rfl;refine pQ ?_;refine blk_put (cs:=#[.int .i64 0,.slice none 0 0,.slice none 0 0]) ?_ 0 _ rfl;exact pK BK421) hb);have n2_:=Z (below_step pB hb);clear HB;have HB:=n2_;clear n2_;(try clear hb);(try clear hb2);(try clear hk);(try clear hi)))
           go_roundg k2
           case measure=>have:=HK1.out;have:=HK2.out;omega
           case rel=>exact ⟨(x5_2),(wrap64 (x29_2+1)),pE,pE,H',⟨by have:=HK1.out;have:=HK2.out;omega⟩,⟨pK BK416⟩,⟨pB⟩⟩
         ·rw [if_neg c15] at H
          exact absurd H (by simp)
        ·rw [if_neg c14] at H
         exact absurd H (by simp)
       ·rw [if_neg c13] at H
        have c13b0:decide (x29_2 < (l0_2.length:Int))=false:=decide_eq_false c13
        clear c13
        obtain rfl:=Option.some.inj H
        have hcz26_0:=pV BK416 (.int .i64 a0_0) 0 rfl
        have hcz26_1:=pV BK416 (.slice A0_1 l0_1.length c0_1) 1 rfl
        have hcz26_2:=pV BK416 (.slice A0_2 l0_2.length c0_2) 2 rfl
        have hfz26_0:=kF BK416.out 0
        have hfz26_1:=kF BK416.out 1
        have hfz26_2:=kF BK416.out 2
        go_wp2
        go_ret
        exact ⟨pF,pB⟩
 ·replace c4:=Bool.eq_false_iff.mpr c4
  subst c4
  rw [if_neg (show ¬ (false=true) by decide)] at H
  obtain rfl:=Option.some.inj H
  go_enter Tryz.func107,Tryz.ntmps107
  go_wp2_with (first|((with_reducible refine gate_dst (N:=2) rfl ?_);refine box_event ?hg (N:=2) ?hd (cs:=#[.int .i64 a0_0,.slice A0_1 l0_1.length c0_1,.slice A0_2 l0_2.length c0_2]) (t:=90) ?hr ?_;(case hd=>rfl);(case hg=>rfl);(case hr=>first|(go_simp;done)|(go_simp;rfl));intro gb416 hg w27 hbox hb;have n0_:=Z (below_step pB hb);have BK416:=Z (hbox);have GW416:=Z ((pT hg:w.heap.size≤gb416));have GE416:=Z ((pT hg:w.heap.size≤gb416));clear HB;have HB:=n0_;clear n0_ hb hbox hg)|((with_reducible refine gate_callee (f:=115) rfl ?_);refine goesL_ (some 11) rfl rfl Tryz.func115 pU rfl #[.int .i64 a1] rfl pG ?_;(with_reducible refine (qref01_Valid.calls a1 false _ A3.out).mono ?_);rintro e w' ⟨rfl,⟨nd,rfl⟩⟩;refine ⟨_,rfl,?_⟩))
  go_ret
  exact ⟨pF,pB⟩
mutual
def qref09_Quorum.j0:Nat→Int→Bool→List (S92)→Option (Bool)
 | 0,_,_,_=>none
 | k+1,x1,x21,x424000=>if x21=true then (some false) else ((qref01_Nodes.f k x1).bind fun t426=>(qref09_Quorum.l0 k x1 t426 (t426.length:Int) 0 x424000))
def qref09_Quorum.l0:Nat→Int→List Int→Int→Int→List (S92)→Option (Bool)
 | 0,_,_,_,_,_=>none
 | k+1,x1,x23,x24,x25,x424000=>if x25 < x24 then (if 0≤x25 then (if x25 < (x23.length:Int) then (if 0≤(rd x23 x25) then (if (rd x23 x25) < (x424000.length:Int) then ((qref02_Satisfied.f k ((rd_T92 x424000 (rd x23 x25)).f1.f0) ((rd_T92 x424000 (rd x23 x25)).f1.f1) ((rd_T92 x424000 (rd x23 x25)).f1.f2) x1).bind fun t431=>(if t431=true then (qref09_Quorum.l0 k x1 x23 x24 (wrap64 (x25+1)) x424000) else (some false))) else (none)) else (none)) else (none)) else (none)) else (some true)
end
def qref09_Quorum.f (k:Nat) (l0_0:List (S92)) (a1:Int):Option (Bool):=(qref01_Valid.f a1).bind fun t424=>(if t424=true then (if a1=0 then (qref09_Quorum.j0 k a1 true l0_0) else ((qref06_Declared.f k l0_0).bind fun t425=>(qref09_Quorum.j0 k a1 ((Go.bits .and .i64 a1 t425) != a1) l0_0))) else (qref09_Quorum.j0 k a1 true l0_0))
set_option maxHeartbeats 8000000 in
set_option maxRecDepth 100000 in
theorem qref09_Quorum.calls (k:Nat) (A0_0:Option Addr) (c0_0:Nat) (l0_0:List (S92)) (a1:Int) (r:Bool) (w:World) (hr0_0:Kd.C k92 w A0_0 l0_0.length l0_0) (hc0_0:l0_0.length≤c0_0) (h:qref09_Quorum.f k l0_0 a1=some r) :
  Calls Tryz.prog 43 #[.agg #[.slice A0_0 l0_0.length c0_0],.int .i64 a1] w fun e w'=>e=.returned (.bool r)∧Below w.heap.size w w':=by
 have hu25:=Tryz.underlying25
 have hu90:=Tryz.underlying90
 have HR0_0:=Z hr0_0
 have HC0_0:=Z hc0_0
 clear hr0_0 hc0_0
 have HB:=Z (Below.refl w.heap.size w)
 have H:((qref01_Valid.f a1).bind fun t424=>(if t424=true then (if a1=0 then (qref09_Quorum.j0 k a1 true l0_0) else ((qref06_Declared.f k l0_0).bind fun t425=>(qref09_Quorum.j0 k a1 ((Go.bits .and .i64 a1 t425) != a1) l0_0))) else (qref09_Quorum.j0 k a1 true l0_0)))=some r:=h
 clear h
 have HC3:=Z H
 clear H
 go_enter Tryz.func43,Tryz.ntmps43
 go_upto_region 1 with (first|((with_reducible refine gate_dst (N:=2) rfl ?_);refine box_event ?hg (N:=2) ?hd (cs:=#[.slice A0_0 l0_0.length c0_0]) (t:=25) ?hr ?_;(case hd=>rfl);(case hg=>rfl);(case hr=>first|(go_simp;done)|(go_simp;rfl));intro gb423 hg w4 hbox hb;have n0_:=Z (below_step pB hb);have BK423:=Z (hbox);have GW423:=Z ((pT hg:w.heap.size≤gb423));have GE423:=Z ((pT hg:w.heap.size≤gb423));clear HB;have HB:=n0_;clear n0_ hb hbox hg))
 (try simp only [Act.put,List.setIfInBounds_toArray,List.set_cons_zero,List.set_cons_succ])
 go_cut [21] (fun v21 wc=>∃ (kq:Nat) (x21_2:Bool),v21=.bool x21_2∧Aside0 (qref09_Quorum.j0 kq a1 x21_2 l0_0=some r)∧Aside0 (kq≤k)∧Aside0 (wc.heap[gb423]?=some (.cells #[(.slice A0_0 l0_0.length c0_0)] 25 (0,0)))∧Aside0 (Below w.heap.size w wc))
 case first =>
  have H:=HC3.out
  clear HC3
  replace H:=pO H
  obtain ⟨t424,A50,H⟩:=H
  try dsimp only at H
  have A5:=Z A50
  clear A50
  by_cases c6:t424=true
  ·subst c6
   rw [if_pos rfl] at H
   by_cases c7:a1=0
   ·rw [if_pos c7] at H
    have c7b0:(a1 == 0)=true:=beq_iff_eq.mpr c7
    have c7b1:(a1 != 0)=false:=bne_eq_false_iff_eq.mpr c7
    clear c7
    (first|rw [c7b0]|(simp only [i64_w,i32_w];rw [c7b0])|skip)
    have H':=Z H
    clear H
    go_wp2_with (first|((with_reducible refine gate_callee (f:=115) rfl ?_);refine goesL_ (some 8) rfl rfl Tryz.func115 pU rfl #[.int .i64 a1] rfl pG ?_;(with_reducible refine (qref01_Valid.calls a1 true _ A5.out).mono ?_);rintro e w' ⟨rfl,⟨nd,rfl⟩⟩;refine ⟨_,rfl,?_⟩))
    go_meet
    case rel=>exact ⟨_,(true),pE,H',⟨by first|omega|exact Nat.le_refl _⟩,⟨pK BK423⟩,⟨pB⟩⟩
   ·rw [if_neg c7] at H
    have c7b0:(a1 == 0)=false:=beq_eq_false_iff_ne.mpr c7
    have c7b1:(a1 != 0)=true:=bne_iff_ne.mpr c7
    (first|rw [c7b0]|(simp only [i64_w,i32_w];rw [c7b0])|skip)
    replace H:=pO H
    obtain ⟨t425,A80,H⟩:=H
    try dsimp only at H
    have A8:=Z A80
    clear A80
    have H':=Z H
    clear H
    go_wp2_with (first|((with_reducible refine gate_callee (f:=115) rfl ?_);refine goesL_ (some 8) rfl rfl Tryz.func115 pU rfl #[.int .i64 a1] rfl pG ?_;(with_reducible refine (qref01_Valid.calls a1 true _ A5.out).mono ?_);rintro e w' ⟨rfl,⟨nd,rfl⟩⟩;refine ⟨_,rfl,?_⟩;obtain ⟨hcz9_0,hfz9_0⟩:=p1 BK423)|(go_at_call 75;(with_reducible refine (qref06_Declared.calls k _ _ l0_0 t425 _ ?side1 ?side2 A8.out).mono ?_);(case side1=>exact pC HR0_0);(case side2=>exact HC0_0.out);rintro e w10 ⟨rfl,hb⟩;replace BK423:=Z (blk_below (g:=gb423) (o:=.cells #[.slice A0_0 l0_0.length c0_0] 25 (0,0)) (pK BK423) hb);have n1_:=Z (below_step pB hb);clear HB;have HB:=n1_;clear n1_;(try clear hb);(try clear hb2);(try clear hk);(try clear hi)))
    go_meet
    case rel=>exact ⟨_,(((Go.bits .and .i64 a1 t425) != a1)),pE,H',⟨by first|omega|exact Nat.le_refl _⟩,⟨pK BK423⟩,⟨pB⟩⟩
  ·replace c6:=Bool.eq_false_iff.mpr c6
   subst c6
   rw [if_neg (show ¬ (false=true) by decide)] at H
   have H':=Z H
   clear H
   go_wp2_with (first|((with_reducible refine gate_callee (f:=115) rfl ?_);refine goesL_ (some 8) rfl rfl Tryz.func115 pU rfl #[.int .i64 a1] rfl pG ?_;(with_reducible refine (qref01_Valid.calls a1 false _ A5.out).mono ?_);rintro e w' ⟨rfl,⟨nd,rfl⟩⟩;refine ⟨_,rfl,?_⟩))
   go_meet
   case rel=>exact ⟨_,(true),pE,H',⟨by first|omega|exact Nat.le_refl _⟩,⟨pK BK423⟩,⟨pB⟩⟩
 case rest =>
  clear HC3
  try clear c1
  try clear p2
  try clear c4
  try clear c6
  try clear c7
  try clear c7b0
  try clear c7b1
  try clear hcz9_0
  try clear hfz9_0
  obtain ⟨kq,x21_2,rfl,HA,HJ2,BK423,HB⟩:=hcut
  cases kq with
  | zero=>exact absurd HA.out (by simp [qref09_Quorum.j0])
  | succ kj2 =>
   have H:=HA.out
   clear HA
   simp only [qref09_Quorum.j0] at H
   by_cases c11:x21_2=true
   ·subst c11
    rw [if_pos rfl] at H
    obtain rfl:=Option.some.inj H
    go_wp2
    go_ret
    exact ⟨pF,pB⟩
   ·replace c11:=Bool.eq_false_iff.mpr c11
    subst c11
    rw [if_neg (show ¬ (false=true) by decide)] at H
    replace H:=pO H
    obtain ⟨t426,A120,H⟩:=H
    try dsimp only at H
    have A12:=Z A120
    clear A120
    have H':=Z H
    clear H
    go_wp2_with (first|((with_reducible refine gate_callee (f:=60) rfl ?_);refine goesL_ (some 23) rfl rfl Tryz.func60 pU rfl #[.int .i64 a1] rfl pG ?_;(with_reducible refine (qref01_Nodes.calls kj2 a1 t426 _ A12.out).mono ?_);rintro e w13 ⟨v427,rfl,ho0,hb⟩;refine ⟨_,rfl,?_⟩;have HO428:=Z (Kd.R_lower ho0 (below_size pB));replace BK423:=Z (blk_below (g:=gb423) (o:=.cells #[.slice A0_0 l0_0.length c0_0] 25 (0,0)) (pK BK423) hb);have n2_:=Z (below_step pB hb);clear HB;have HB:=n2_;clear n2_;(try clear hb);(try clear hb2);(try clear hk);(try clear hi);(try clear ho0);obtain ⟨Ao14,co14,eo14⟩:=Kd.R_slice HO428.out;subst eo14))
    go_loopg [25] kj2 (fun kq v25 w'=>∃ (x25_2:Int),v25=.int .i64 x25_2∧Aside0 (qref09_Quorum.l0 kq a1 t426 (t426.length:Int) x25_2 l0_0=some r)∧Aside0 (kq≤kj2)∧Aside0 (Kd.R (Kd.int .i64) 3 w' w.heap.size (fun _=>True) (.slice Ao14 t426.length co14) t426)∧Aside0 (w'.heap[gb423]?=some (.cells #[(.slice A0_0 l0_0.length c0_0)] 25 (0,0)))∧Aside0 (Below w.heap.size w w'))
    case atStart=>exact ⟨(0),pE,H',⟨Nat.le_refl _⟩,⟨pR HO428⟩,⟨pK BK423⟩,⟨pB⟩⟩
    case round =>
     clear H'
     try clear c1
     try clear p2
     try clear c4
     try clear c6
     try clear c7
     try clear c7b0
     try clear c7b1
     try clear c11
     try clear hcz9_0
     try clear hfz9_0
     obtain ⟨x25_2,rfl,HA,HK2,HO_23,BK423,HB⟩:=hrel
     cases gk with
     | zero=>exact absurd HA.out (by simp [qref09_Quorum.l0])
     | succ k2 =>
      have H:=HA.out
      clear HA
      simp only [qref09_Quorum.l0] at H
      by_cases c15:x25_2 < (t426.length:Int)
      ·rw [if_pos c15] at H
       have c15b0:decide (x25_2 < (t426.length:Int))=true:=decide_eq_true c15
       clear c15
       by_cases c16:0≤x25_2
       ·rw [if_pos c16] at H
        have c16b0:decide (0≤x25_2)=true:=decide_eq_true c16
        clear c16
        by_cases c17:x25_2 < (t426.length:Int)
        ·rw [if_pos c17] at H
         have c17b0:decide (x25_2 < (t426.length:Int))=true:=decide_eq_true c17
         clear c17
         by_cases c18:0≤(rd t426 x25_2)
         ·rw [if_pos c18] at H
          have c18b0:decide (0≤(rd t426 x25_2))=true:=decide_eq_true c18
          clear c18
          by_cases c19:(rd t426 x25_2) < (l0_0.length:Int)
          ·rw [if_pos c19] at H
           have c19b0:decide ((rd t426 x25_2) < (l0_0.length:Int))=true:=decide_eq_true c19
           clear c19
           replace H:=pO H
           obtain ⟨t431,A200,H⟩:=H
           try dsimp only at H
           have A20:=Z A200
           clear A200
           by_cases c21:t431=true
           ·subst c21
            rw [if_pos rfl] at H
            have H':=Z H
            clear H
            have p429:0≤(x25_2:Int):=of_decide_eq_true pA
            have q429:x25_2 < (t426.length:Int):=of_decide_eq_true pA
            obtain ⟨ad429,e429,hx429_0⟩:=Kd.at_int (Kd.R_reads' HO_23.out).2.2 x25_2 p429 q429
            cases e429
            replace p429:=eq_true p429
            replace q429:=eq_true q429
            have hcz22_0:=pV BK423 (.slice A0_0 l0_0.length c0_0) 0 rfl
            have hfz22_0:=kF BK423.out 0
            have p430:0≤((rd t426 x25_2):Int):=of_decide_eq_true pA
            have q430:(rd t426 x25_2) < (l0_0.length:Int):=of_decide_eq_true pA
            obtain ⟨ad430,A430_2,c430_2,A430_3,c430_3,e430,hx430_0,hx430_1,hx430_2,hx430_3,hl430_2,hi430_2,hl430_3,hi430_3⟩:=at_T92 HR0_0.out (rd t426 x25_2) p430 q430
            cases e430
            replace hx430_0:=pX HB hx430_0
            replace hx430_1:=pX HB hx430_1
            replace hx430_2:=pX HB hx430_2
            replace hx430_3:=pX HB hx430_3
            have HR430_2:=Z hi430_2
            have HC430_2:=Z hl430_2
            clear hi430_2 hl430_2
            have HR430_3:=Z hi430_3
            have HC430_3:=Z hl430_3
            clear hi430_3 hl430_3
            replace p430:=eq_true p430
            replace q430:=eq_true q430
            go_wp2_with (first|((with_reducible refine gate_callee (f:=107) rfl ?_);refine goesL_ (some 36) rfl rfl Tryz.func107 pU rfl #[.agg #[.int .i64 ((rd_T92 l0_0 (rd t426 x25_2)).f1.f0),.slice A430_2 ((rd_T92 l0_0 (rd t426 x25_2)).f1.f1).length c430_2,.slice A430_3 ((rd_T92 l0_0 (rd t426 x25_2)).f1.f2).length c430_3],.int .i64 a1] rfl pG ?_;(with_reducible refine (qref02_Satisfied.calls k2 ((rd_T92 l0_0 (rd t426 x25_2)).f1.f0) _ _ ((rd_T92 l0_0 (rd t426 x25_2)).f1.f1) _ _ ((rd_T92 l0_0 (rd t426 x25_2)).f1.f2) a1 true _ ?side1 ?side2 ?side3 ?side4 A20.out).mono ?_);(case side1=>exact pC HR430_2);(case side2=>exact HC430_2.out);(case side3=>exact pC HR430_3);(case side4=>exact HC430_3.out);rintro e w23 ⟨rfl,hb⟩;refine ⟨_,rfl,?_⟩;replace HO_23:=Z (Kd.R_below (pR HO_23) hb);replace BK423:=Z (blk_below (g:=gb423) (o:=.cells #[.slice (some ad430) l0_0.length c0_0] 25 (0,0)) (pK BK423) hb);have n2_:=Z (below_step pB hb);clear HB;have HB:=n2_;clear n2_;(try clear hb);(try clear hb2);(try clear hk);(try clear hi)))
            go_roundg k2
            case measure=>have:=HJ2.out;have:=HK2.out;omega
            case rel=>exact ⟨(wrap64 (x25_2+1)),pE,H',⟨by have:=HJ2.out;have:=HK2.out;omega⟩,⟨pR HO_23⟩,⟨pK BK423⟩,⟨pB⟩⟩
           ·replace c21:=Bool.eq_false_iff.mpr c21
            subst c21
            rw [if_neg (show ¬ (false=true) by decide)] at H
            obtain rfl:=Option.some.inj H
            have p429:0≤(x25_2:Int):=of_decide_eq_true pA
            have q429:x25_2 < (t426.length:Int):=of_decide_eq_true pA
            obtain ⟨ad429,e429,hx429_0⟩:=Kd.at_int (Kd.R_reads' HO_23.out).2.2 x25_2 p429 q429
            cases e429
            replace p429:=eq_true p429
            replace q429:=eq_true q429
            have hcz24_0:=pV BK423 (.slice A0_0 l0_0.length c0_0) 0 rfl
            have hfz24_0:=kF BK423.out 0
            have p430:0≤((rd t426 x25_2):Int):=of_decide_eq_true pA
            have q430:(rd t426 x25_2) < (l0_0.length:Int):=of_decide_eq_true pA
            obtain ⟨ad430,A430_2,c430_2,A430_3,c430_3,e430,hx430_0,hx430_1,hx430_2,hx430_3,hl430_2,hi430_2,hl430_3,hi430_3⟩:=at_T92 HR0_0.out (rd t426 x25_2) p430 q430
            cases e430
            replace hx430_0:=pX HB hx430_0
            replace hx430_1:=pX HB hx430_1
            replace hx430_2:=pX HB hx430_2
            replace hx430_3:=pX HB hx430_3
            have HR430_2:=Z hi430_2
            have HC430_2:=Z hl430_2
            clear hi430_2 hl430_2
            have HR430_3:=Z hi430_3
            have HC430_3:=Z hl430_3
            clear hi430_3 hl430_3
            replace p430:=eq_true p430
            replace q430:=eq_true q430
            go_wp2_with (first|((with_reducible refine gate_callee (f:=107) rfl ?_);refine goesL_ (some 36) rfl rfl Tryz.func107 pU rfl #[.agg #[.int .i64 ((rd_T92 l0_0 (rd t426 x25_2)).f1.f0),.slice A430_2 ((rd_T92 l0_0 (rd t426 x25_2)).f1.f1).length c430_2,.slice A430_3 ((rd_T92 l0_0 (rd t426 x25_2)).f1.f2).length c430_3],.int .i64 a1] rfl pG ?_;(with_reducible refine (qref02_Satisfied.calls k2 ((rd_T92 l0_0 (rd t426 x25_2)).f1.f0) _ _ ((rd_T92 l0_0 (rd t426 x25_2)).f1.f1) _ _ ((rd_T92 l0_0 (rd t426 x25_2)).f1.f2) a1 false _ ?side1 ?side2 ?side3 ?side4 A20.out).mono ?_);(case side1=>exact pC HR430_2);(case side2=>exact HC430_2.out);(case side3=>exact pC HR430_3);(case side4=>exact HC430_3.out);rintro e w25 ⟨rfl,hb⟩;refine ⟨_,rfl,?_⟩;replace HO_23:=Z (Kd.R_below (pR HO_23) hb);replace BK423:=Z (blk_below (g:=gb423) (o:=.cells #[.slice (some ad430) l0_0.length c0_0] 25 (0,0)) (pK BK423) hb);have n2_:=Z (below_step pB hb);clear HB;have HB:=n2_;clear n2_;(try clear hb);(try clear hb2);(try clear hk);(try clear hi)))
            go_ret
            exact ⟨pF,pB⟩
          ·rw [if_neg c19] at H
           exact absurd H (by simp)
         ·rw [if_neg c18] at H
          exact absurd H (by simp)
        ·rw [if_neg c17] at H
         exact absurd H (by simp)
       ·rw [if_neg c16] at H
        exact absurd H (by simp)
      ·rw [if_neg c15] at H
       have c15b0:decide (x25_2 < (t426.length:Int))=false:=decide_eq_false c15
       clear c15
       obtain rfl:=Option.some.inj H
       go_wp2
       go_ret
       exact ⟨pF,pB⟩
def qmake_Ints.l0:Nat→List Int→List Int→Int→Int→Option (Bool)
 | 0,_,_,_,_=>none
 | k+1,x0,x1,x12,x13=>if x13 < x12 then (if 0≤x13 then (if x13 < (x0.length:Int) then (if x13 < (x1.length:Int) then (if (rd x0 x13)=(rd x1 x13) then (qmake_Ints.l0 k x0 x1 x12 (wrap64 (x13+1))) else (some false)) else (none)) else (none)) else (none)) else (some true)
def qmake_Ints.f (k:Nat) (l0:List Int) (l1:List Int):Option (Bool):=if (l0.length:Int)=(l1.length:Int) then (qmake_Ints.l0 k l0 l1 (l0.length:Int) 0) else (some false)
set_option maxHeartbeats 8000000 in
set_option maxRecDepth 100000 in
theorem qmake_Ints.calls (k:Nat) (A0:Option Addr) (c0:Nat) (l0:List Int) (A1:Option Addr) (c1:Nat) (l1:List Int) (r:Bool) (w:World) (hr0:Kd.C (Kd.int .i64) w A0 l0.length l0) (hc0:l0.length≤c0) (hr1:Kd.C (Kd.int .i64) w A1 l1.length l1) (hc1:l1.length≤c1) (h:qmake_Ints.f k l0 l1=some r) :
  Calls Tryz.prog 33 #[.slice A0 l0.length c0,.slice A1 l1.length c1] w fun e w'=>e=.returned (.bool r)∧Drawn0 w w':=by
 have HR0:=Z hr0
 have HC0:=Z hc0
 clear hr0 hc0
 have HR1:=Z hr1
 have HC1:=Z hc1
 clear hr1 hc1
 have H:(if (l0.length:Int)=(l1.length:Int) then (qmake_Ints.l0 k l0 l1 (l0.length:Int) 0) else (some false))=some r:=h
 clear h
 by_cases c3:(l0.length:Int)=(l1.length:Int)
 ·rw [if_pos c3] at H
  have c3b0:((l0.length:Int) == (l1.length:Int))=true:=beq_iff_eq.mpr c3
  have c3b1:((l0.length:Int) != (l1.length:Int))=false:=bne_eq_false_iff_eq.mpr c3
  have c3b2:(l0.length == l1.length)=true:=by first|simpa using c3|(simp at c3 ⊢;omega)
  clear c3
  have H':=Z H
  clear H
  go_enter Tryz.func33,Tryz.ntmps33
  go_wp2
  repeat (go_quiet (fail);try go_wp2)
  go_loopg [13] k (fun kq v13 w'=>∃ (x13_1:Int),v13=.int .i64 x13_1∧Aside0 (qmake_Ints.l0 kq l0 l1 (l0.length:Int) x13_1=some r)∧Aside0 (kq≤k)∧Drawn0 w w')
  case atStart=>exact ⟨(0),pE,H',⟨Nat.le_refl _⟩,by repeat (first|exact Drawn0.refl _|apply Drawn0.step)⟩
  case round =>
   clear H'
   try clear c1
   try clear p2
   try clear c3
   try clear c3b0
   try clear c3b1
   try clear c3b2
   obtain ⟨x13_1,rfl,HA,HK1,⟨m1,rfl⟩⟩:=hrel
   cases gk with
   | zero=>exact absurd HA.out (by simp [qmake_Ints.l0])
   | succ k1 =>
    have H:=HA.out
    clear HA
    simp only [qmake_Ints.l0] at H
    by_cases c4:x13_1 < (l0.length:Int)
    ·rw [if_pos c4] at H
     have c4b0:decide (x13_1 < (l0.length:Int))=true:=decide_eq_true c4
     clear c4
     by_cases c5:0≤x13_1
     ·rw [if_pos c5] at H
      have c5b0:decide (0≤x13_1)=true:=decide_eq_true c5
      clear c5
      by_cases c6:x13_1 < (l0.length:Int)
      ·rw [if_pos c6] at H
       have c6b0:decide (x13_1 < (l0.length:Int))=true:=decide_eq_true c6
       clear c6
       by_cases c7:x13_1 < (l1.length:Int)
       ·rw [if_pos c7] at H
        have c7b0:decide (x13_1 < (l1.length:Int))=true:=decide_eq_true c7
        clear c7
        by_cases c8:(rd l0 x13_1)=(rd l1 x13_1)
        ·rw [if_pos c8] at H
         have c8b0:((rd l0 x13_1) == (rd l1 x13_1))=true:=beq_iff_eq.mpr c8
         have c8b1:((rd l0 x13_1) != (rd l1 x13_1))=false:=bne_eq_false_iff_eq.mpr c8
         clear c8
         have H':=Z H
         clear H
         have p231:0≤(x13_1:Int):=of_decide_eq_true pA
         have q231:x13_1 < (l0.length:Int):=of_decide_eq_true pA
         obtain ⟨ad231,e231,hx231_0⟩:=Kd.at_int HR0.out x13_1 p231 q231
         cases e231
         replace p231:=eq_true p231
         replace q231:=eq_true q231
         have p232:0≤(x13_1:Int):=of_decide_eq_true pA
         have q232:x13_1 < (l1.length:Int):=of_decide_eq_true pA
         obtain ⟨ad232,e232,hx232_0⟩:=Kd.at_int HR1.out x13_1 p232 q232
         cases e232
         replace p232:=eq_true p232
         replace q232:=eq_true q232
         go_wp2
         repeat (go_quiet (fail);try go_wp2)
         go_roundg k1
         case measure=>have:=HK1.out;omega
         case rel=>exact ⟨(wrap64 (x13_1+1)),pE,H',⟨by have:=HK1.out;omega⟩,by repeat (first|exact Drawn0.refl _|apply Drawn0.step)⟩
        ·rw [if_neg c8] at H
         have c8b0:((rd l0 x13_1) == (rd l1 x13_1))=false:=beq_eq_false_iff_ne.mpr c8
         have c8b1:((rd l0 x13_1) != (rd l1 x13_1))=true:=bne_iff_ne.mpr c8
         obtain rfl:=Option.some.inj H
         have p231:0≤(x13_1:Int):=of_decide_eq_true pA
         have q231:x13_1 < (l0.length:Int):=of_decide_eq_true pA
         obtain ⟨ad231,e231,hx231_0⟩:=Kd.at_int HR0.out x13_1 p231 q231
         cases e231
         replace p231:=eq_true p231
         replace q231:=eq_true q231
         have p232:0≤(x13_1:Int):=of_decide_eq_true pA
         have q232:x13_1 < (l1.length:Int):=of_decide_eq_true pA
         obtain ⟨ad232,e232,hx232_0⟩:=Kd.at_int HR1.out x13_1 p232 q232
         cases e232
         replace p232:=eq_true p232
         replace q232:=eq_true q232
         go_wp2
         repeat (go_quiet (fail);try go_wp2)
         go_ret
         exact ⟨pE,pD⟩
       ·rw [if_neg c7] at H
        exact absurd H (by simp)
      ·rw [if_neg c6] at H
       exact absurd H (by simp)
     ·rw [if_neg c5] at H
      exact absurd H (by simp)
    ·rw [if_neg c4] at H
     have c4b0:decide (x13_1 < (l0.length:Int))=false:=decide_eq_false c4
     clear c4
     obtain rfl:=Option.some.inj H
     go_wp2
     repeat (go_quiet (fail);try go_wp2)
     go_ret
     exact ⟨pE,pD⟩
 ·rw [if_neg c3] at H
  have c3b0:((l0.length:Int) == (l1.length:Int))=false:=beq_eq_false_iff_ne.mpr c3
  have c3b1:((l0.length:Int) != (l1.length:Int))=true:=bne_iff_ne.mpr c3
  have c3b2:(l0.length == l1.length)=false:=by first|simpa using c3|(simp at c3 ⊢;omega)
  obtain rfl:=Option.some.inj H
  go_enter Tryz.func33,Tryz.ntmps33
  go_wp2
  repeat (go_quiet (fail);try go_wp2)
  go_ret
  exact ⟨pE,pD⟩
def threshold_node.f (a0:Int):Option (Bool):=if a0 ≥ 0 then (some (decide (a0 < 10))) else (some false)
set_option maxHeartbeats 8000000 in
set_option maxRecDepth 100000 in
theorem threshold_node.calls (a0:Int) (r:Bool) (w:World) (h:threshold_node.f a0=some r) :
  Calls Tryz.prog 198 #[.int .i64 a0] w fun e w'=>e=.returned (.bool r)∧Drawn0 w w':=by
 have H:(if a0 ≥ 0 then (some (decide (a0 < 10))) else (some false))=some r:=h
 clear h
 by_cases c2:a0 ≥ 0
 ·rw [if_pos c2] at H
  have c2b0:decide (0≤a0)=true:=decide_eq_true c2
  clear c2
  obtain rfl:=Option.some.inj H
  go_enter Tryz.func198,Tryz.ntmps198
  go_wp2
  go_ret
  exact ⟨pE,pD⟩
 ·rw [if_neg c2] at H
  have c2b0:decide (0≤a0)=false:=decide_eq_false c2
  clear c2
  obtain rfl:=Option.some.inj H
  go_enter Tryz.func198,Tryz.ntmps198
  go_wp2
  go_ret
  exact ⟨pE,pD⟩
mutual
def threshold_Uses.l0:Nat→Int→List Int→Int→Int→Int→List Int→List (S90)→Option (Int)
 | 0,_,_,_,_,_,_,_=>none
 | k+1,x3,x9,x10,x11,x108000,x108001,x108002=>if x11 < x10 then (if 0≤x11 then (if x11 < (x9.length:Int) then ((threshold_node.f (rd x9 x11)).bind fun t109=>(if t109=true then (if 0≤(rd x9 x11) then (threshold_Uses.l0 k (Go.bits .or .i64 x3 (shl .i64 1 (rd x9 x11))) x9 x10 (wrap64 (x11+1)) x108000 x108001 x108002) else (none)) else (threshold_Uses.l0 k x3 x9 x10 (wrap64 (x11+1)) x108000 x108001 x108002))) else (none)) else (none)) else (threshold_Uses.l1 k x3 x108002 (x108002.length:Int) 0)
def threshold_Uses.l1:Nat→Int→List (S90)→Int→Int→Option (Int)
 | 0,_,_,_,_=>none
 | k+1,x3,x23,x24,x25=>if x25 < x24 then (if 0≤x25 then (if x25 < (x23.length:Int) then ((threshold_Uses.f k ((rd_T90 x23 x25).f0) ((rd_T90 x23 x25).f1) ((rd_T90 x23 x25).f2)).bind fun t112=>(threshold_Uses.l1 k (Go.bits .or .i64 x3 t112) x23 x24 (wrap64 (x25+1)))) else (none)) else (none)) else (some x3)
def threshold_Uses.f:Nat→Int→List Int→List (S90)→Option (Int)
 | 0,_,_,_=>none
 | k+1,a0_0,l0_1,l0_2=>threshold_Uses.l0 k 0 l0_1 (l0_1.length:Int) 0 a0_0 l0_1 l0_2
end
set_option maxHeartbeats 8000000 in
set_option maxRecDepth 100000 in
theorem threshold_Uses.calls (k:Nat):∀ (a0_0:Int) (A0_1:Option Addr) (c0_1:Nat) (l0_1:List Int) (A0_2:Option Addr) (c0_2:Nat) (l0_2:List (S90)) (r:Int) (w:World) (hr0_1:Kd.C (Kd.int .i64) w A0_1 l0_1.length l0_1) (hc0_1:l0_1.length≤c0_1) (hr0_2:Kd.C k90 w A0_2 l0_2.length l0_2) (hc0_2:l0_2.length≤c0_2) (h:threshold_Uses.f k a0_0 l0_1 l0_2=some r),
  Calls Tryz.prog 168 #[.agg #[.int .i64 a0_0,.slice A0_1 l0_1.length c0_1,.slice A0_2 l0_2.length c0_2]] w fun e w'=>e=.returned (.int .i64 r)∧Below w.heap.size w w':=by
 induction k using Nat.strongRecOn with
 | _ k ih =>
 intro a0_0 A0_1 c0_1 l0_1 A0_2 c0_2 l0_2 r w hr0_1 hc0_1 hr0_2 hc0_2 h
 cases k with
 | zero=>exact absurd h (by simp [threshold_Uses.f])
 | succ k =>
 simp only [threshold_Uses.f] at h
 have hu90:=Tryz.underlying90
 have HR0_1:=Z hr0_1
 have HC0_1:=Z hc0_1
 clear hr0_1 hc0_1
 have HR0_2:=Z hr0_2
 have HC0_2:=Z hc0_2
 clear hr0_2 hc0_2
 have HB:=Z (Below.refl w.heap.size w)
 have H:(threshold_Uses.l0 k 0 l0_1 (l0_1.length:Int) 0 a0_0 l0_1 l0_2)=some r:=h
 clear h
 have H':=Z H
 clear H
 go_enter Tryz.func168,Tryz.ntmps168
 go_wp2_with (first|((with_reducible refine gate_dst (N:=1) rfl ?_);refine box_event ?hg (N:=1) ?hd (cs:=#[.int .i64 a0_0,.slice A0_1 l0_1.length c0_1,.slice A0_2 l0_2.length c0_2]) (t:=90) ?hr ?_;(case hd=>rfl);(case hg=>rfl);(case hr=>first|(go_simp;done)|(go_simp;rfl));intro gb107 hg w2 hbox hb;have n0_:=Z (below_step pB hb);have BK107:=Z (hbox);have GW107:=Z ((pT hg:w.heap.size≤gb107));have GE107:=Z ((pT hg:w.heap.size≤gb107));clear HB;have HB:=n0_;clear n0_ hb hbox hg;obtain ⟨hcz3_0,hcz3_1,hcz3_2,hfz3_0,hfz3_1,hfz3_2⟩:=p3 BK107))
 go_loopg [3,11] k (fun kq v3 v11 w'=>∃ (x3_1:Int) (x11_1:Int),v3=.int .i64 x3_1∧v11=.int .i64 x11_1∧Aside0 (threshold_Uses.l0 kq x3_1 l0_1 (l0_1.length:Int) x11_1 a0_0 l0_1 l0_2=some r)∧Aside0 (kq≤k)∧Aside0 (w'.heap[gb107]?=some (.cells #[.int .i64 a0_0,(.slice A0_1 l0_1.length c0_1),(.slice A0_2 l0_2.length c0_2)] 90 (0,0)))∧Aside0 (Below w.heap.size w w'))
 case atStart=>exact ⟨(0),(0),pE,pE,H',⟨Nat.le_refl _⟩,⟨pK BK107⟩,⟨pB⟩⟩
 case round =>
  clear H'
  try clear c1
  try clear p2
  try clear hcz3_0
  try clear hcz3_1
  try clear hcz3_2
  try clear hfz3_0
  try clear hfz3_1
  try clear hfz3_2
  obtain ⟨x3_1,x11_1,rfl,rfl,HA,HK1,BK107,HB⟩:=hrel
  cases gk with
  | zero=>exact absurd HA.out (by simp [threshold_Uses.l0])
  | succ k1 =>
   have H:=HA.out
   clear HA
   simp only [threshold_Uses.l0] at H
   by_cases c4:x11_1 < (l0_1.length:Int)
   ·rw [if_pos c4] at H
    have c4b0:decide (x11_1 < (l0_1.length:Int))=true:=decide_eq_true c4
    clear c4
    by_cases c5:0≤x11_1
    ·rw [if_pos c5] at H
     have c5b0:decide (0≤x11_1)=true:=decide_eq_true c5
     clear c5
     by_cases c6:x11_1 < (l0_1.length:Int)
     ·rw [if_pos c6] at H
      have c6b0:decide (x11_1 < (l0_1.length:Int))=true:=decide_eq_true c6
      clear c6
      replace H:=pO H
      obtain ⟨t109,A70,H⟩:=H
      try dsimp only at H
      have A7:=Z A70
      clear A70
      by_cases c8:t109=true
      ·subst c8
       rw [if_pos rfl] at H
       by_cases c9:0≤(rd l0_1 x11_1)
       ·rw [if_pos c9] at H
        have c9b0:=eq_true c9
        have c9b1:decide (0≤(rd l0_1 x11_1))=true:=decide_eq_true c9
        clear c9
        obtain ⟨ji10,hji10⟩:∃ j_:Int,(shl .i64 1 (rd l0_1 x11_1))=j_:=⟨_,rfl⟩
        replace H:(threshold_Uses.l0 k1 (Go.bits .or .i64 x3_1 (ji10)) l0_1 (l0_1.length:Int) (wrap64 (x11_1+1)) a0_0 l0_1 l0_2)=some r:=by first|(rw [hji10] at H;exact H)|(simp only [hji10] at H ⊢;exact H)
        (try rw [hji10] at A7)
        have hji10_:(IntKind.i64.wrap (1 * 2 ^ min (rd l0_1 x11_1).toNat 64))=ji10:=hji10
        have hji10z:(rd l0_1 x11_1)≤64→(IntKind.i64.wrap (1 * 2 ^ (rd l0_1 x11_1).toNat))=ji10:=shl_small hji10
        have hji10u:(IntKind.i64.wrap (2 ^ min (rd l0_1 x11_1).toNat 64))=ji10:=by have h_:=hji10_;rw [Int.one_mul] at h_;exact h_
        have hji10v:(rd l0_1 x11_1)≤64→(IntKind.i64.wrap (2 ^ (rd l0_1 x11_1).toNat))=ji10:=fun hle_=>by have h_:=hji10z hle_;rw [Int.one_mul] at h_;exact h_
        have hji10y:(wrap64 (1 * 2 ^ min (rd l0_1 x11_1).toNat 64))=ji10:=(i64_w _).symm.trans hji10_
        have hji10x:(rd l0_1 x11_1)≤64→(wrap64 (1 * 2 ^ (rd l0_1 x11_1).toNat))=ji10:=fun h_=>(i64_w _).symm.trans (hji10z h_)
        have H':=Z H
        clear H
        have p108:0≤(x11_1:Int):=of_decide_eq_true pA
        have q108:x11_1 < (l0_1.length:Int):=of_decide_eq_true pA
        obtain ⟨ad108,e108,hx108_0⟩:=Kd.at_int HR0_1.out x11_1 p108 q108
        cases e108
        replace hx108_0:=pX HB hx108_0
        replace p108:=eq_true p108
        replace q108:=eq_true q108
        go_wp2_with (first|((with_reducible refine gate_callee (f:=198) rfl ?_);refine goesL_ (some 16) rfl rfl Tryz.func198 pU rfl #[.int .i64 (rd l0_1 x11_1)] rfl pG ?_;(with_reducible refine (threshold_node.calls (rd l0_1 x11_1) true _ A7.out).mono ?_);rintro e w' ⟨rfl,⟨nd,rfl⟩⟩;refine ⟨_,rfl,?_⟩))
        go_roundg k1
        case measure=>have:=HK1.out;omega
        case rel=>exact ⟨(Go.bits .or .i64 x3_1 (ji10)),(wrap64 (x11_1+1)),(by first|exact pE|(simp only [← hji10] <;> (first|rfl|simp))),pE,H',⟨by have:=HK1.out;omega⟩,⟨pK BK107⟩,⟨pB⟩⟩
       ·rw [if_neg c9] at H
        exact absurd H (by simp)
      ·replace c8:=Bool.eq_false_iff.mpr c8
       subst c8
       rw [if_neg (show ¬ (false=true) by decide)] at H
       have H':=Z H
       clear H
       have p108:0≤(x11_1:Int):=of_decide_eq_true pA
       have q108:x11_1 < (l0_1.length:Int):=of_decide_eq_true pA
       obtain ⟨ad108,e108,hx108_0⟩:=Kd.at_int HR0_1.out x11_1 p108 q108
       cases e108
       replace hx108_0:=pX HB hx108_0
       replace p108:=eq_true p108
       replace q108:=eq_true q108
       go_wp2_with (first|((with_reducible refine gate_callee (f:=198) rfl ?_);refine goesL_ (some 16) rfl rfl Tryz.func198 pU rfl #[.int .i64 (rd l0_1 x11_1)] rfl pG ?_;(with_reducible refine (threshold_node.calls (rd l0_1 x11_1) false _ A7.out).mono ?_);rintro e w' ⟨rfl,⟨nd,rfl⟩⟩;refine ⟨_,rfl,?_⟩))
       go_roundg k1
       case measure=>have:=HK1.out;omega
       case rel=>exact ⟨(x3_1),(wrap64 (x11_1+1)),pE,pE,H',⟨by have:=HK1.out;omega⟩,⟨pK BK107⟩,⟨pB⟩⟩
     ·rw [if_neg c6] at H
      exact absurd H (by simp)
    ·rw [if_neg c5] at H
     exact absurd H (by simp)
   ·rw [if_neg c4] at H
    have c4b0:decide (x11_1 < (l0_1.length:Int))=false:=decide_eq_false c4
    clear c4
    have H':=Z H
    clear H
    have hcz11_0:=pV BK107 (.int .i64 a0_0) 0 rfl
    have hcz11_1:=pV BK107 (.slice A0_1 l0_1.length c0_1) 1 rfl
    have hcz11_2:=pV BK107 (.slice A0_2 l0_2.length c0_2) 2 rfl
    have hfz11_0:=kF BK107.out 0
    have hfz11_1:=kF BK107.out 1
    have hfz11_2:=kF BK107.out 2
    go_wp2
    go_loopg [3,25] k1 (fun kq v3 v25 w'=>∃ (x3_2:Int) (x25_2:Int),v3=.int .i64 x3_2∧v25=.int .i64 x25_2∧Aside0 (threshold_Uses.l1 kq x3_2 l0_2 (l0_2.length:Int) x25_2=some r)∧Aside0 (kq≤k1)∧Aside0 (w'.heap[gb107]?=some (.cells #[.int .i64 a0_0,(.slice A0_1 l0_1.length c0_1),(.slice A0_2 l0_2.length c0_2)] 90 (0,0)))∧Aside0 (Below w.heap.size w w'))
    case atStart=>exact ⟨(x3_1),(0),pE,pE,H',⟨Nat.le_refl _⟩,⟨pK BK107⟩,⟨pB⟩⟩
    case round =>
     clear H'
     try clear c1
     try clear p1
     try clear q1
     try clear hx1
     try clear p2
     try clear c4
     try clear c4b0
     try clear c5
     try clear c5b0
     try clear c6
     try clear c6b0
     try clear p6
     try clear c8
     try clear c9
     try clear c9b0
     try clear c9b1
     try clear p10
     try clear q10
     try clear hx10
     try clear hcz11_0
     try clear hcz11_1
     try clear hcz11_2
     try clear hcz3_0
     try clear hcz3_1
     try clear hcz3_2
     try clear hfz11_0
     try clear hfz11_1
     try clear hfz11_2
     try clear hfz3_0
     try clear hfz3_1
     try clear hfz3_2
     try clear hx108_0
     try clear p108
     try clear q108
     obtain ⟨x3_2,x25_2,rfl,rfl,HA,HK2,BK107,HB⟩:=hrel
     cases gk with
     | zero=>exact absurd HA.out (by simp [threshold_Uses.l1])
     | succ k2 =>
      have H:=HA.out
      clear HA
      simp only [threshold_Uses.l1] at H
      by_cases c12:x25_2 < (l0_2.length:Int)
      ·rw [if_pos c12] at H
       have c12b0:decide (x25_2 < (l0_2.length:Int))=true:=decide_eq_true c12
       clear c12
       by_cases c13:0≤x25_2
       ·rw [if_pos c13] at H
        have c13b0:decide (0≤x25_2)=true:=decide_eq_true c13
        clear c13
        by_cases c14:x25_2 < (l0_2.length:Int)
        ·rw [if_pos c14] at H
         have c14b0:decide (x25_2 < (l0_2.length:Int))=true:=decide_eq_true c14
         clear c14
         replace H:=pO H
         obtain ⟨t112,A150,H⟩:=H
         try dsimp only at H
         have A15:=Z A150
         clear A150
         have H':=Z H
         clear H
         have p110:0≤(x25_2:Int):=of_decide_eq_true pA
         have q110:x25_2 < (l0_2.length:Int):=of_decide_eq_true pA
         obtain ⟨ad110,A110_1,c110_1,A110_2,c110_2,e110,hx110_0,hx110_1,hx110_2,hl110_1,hi110_1,hl110_2,hi110_2⟩:=at_T90 HR0_2.out x25_2 p110 q110
         cases e110
         replace hx110_0:=pX HB hx110_0
         replace hx110_1:=pX HB hx110_1
         replace hx110_2:=pX HB hx110_2
         have HR110_1:=Z hi110_1
         have HC110_1:=Z hl110_1
         clear hi110_1 hl110_1
         have HR110_2:=Z hi110_2
         have HC110_2:=Z hl110_2
         clear hi110_2 hl110_2
         replace p110:=eq_true p110
         replace q110:=eq_true q110
         go_wp2_with (first|((with_reducible refine gate_dst (N:=7) rfl ?_);refine box_event ?hg (N:=7) ?hd (cs:=#[.int .i64 0,.slice none 0 0,.slice none 0 0]) (t:=90) ?hr ?_;(case hd=>rfl);(case hg=>rfl);(case hr=>first|(go_simp;done)|(go_simp;rfl));intro gb111 hg w16 hbox hb;have n0_:=Z (blk_below (g:=gb107) (o:=.cells #[.int .i64 a0_0,.slice A0_1 l0_1.length c0_1,.slice (some ad110) l0_2.length c0_2] 90 (0,0)) (pK BK107) hb);have n1_:=Z (below_step pB hb);have BK111:=Z (hbox);have GW111:=Z ((pT hg:w.heap.size≤gb111));have GE111:=Z ((pT hg:w.heap.size≤gb111));have NB107_111:=Z ((pL hg (pK BK107):gb107 ≠ gb111));have NB111_107:=Z ((pM hg (pK BK107):gb111 ≠ gb107));clear BK107 HB;have BK107:=n0_;have HB:=n1_;clear n0_ n1_ hb hbox hg;have hnb17:=NB111_107.out;have hnc17:=NB107_111.out;obtain ⟨hcz18_0,hcz18_1,hcz18_2,hfz18_0,hfz18_1,hfz18_2⟩:=p3 BK111)|((with_reducible refine gate_callee (f:=168) rfl ?_);refine goesL_ (some 31) rfl rfl Tryz.func168 pU rfl #[.agg #[.int .i64 ((rd_T90 l0_2 x25_2).f0),.slice A110_1 ((rd_T90 l0_2 x25_2).f1).length c110_1,.slice A110_2 ((rd_T90 l0_2 x25_2).f2).length c110_2]] rfl pG ?_;(with_reducible refine (ih k2 (by have:=HK1.out;have:=HK2.out;omega) ((rd_T90 l0_2 x25_2).f0) _ _ ((rd_T90 l0_2 x25_2).f1) _ _ ((rd_T90 l0_2 x25_2).f2) t112 _ ?side1 ?side2 ?side3 ?side4 A15.out).mono ?_);(case side1=>exact Kd.C_below HR110_1.out pB);(case side2=>exact HC110_1.out);(case side3=>exact Kd.C_below HR110_2.out pB);(case side4=>exact HC110_2.out);rintro e w19 ⟨rfl,hb⟩;refine ⟨_,rfl,?_⟩;replace BK107:=Z (blk_below (g:=gb107) (o:=.cells #[.int .i64 a0_0,.slice A0_1 l0_1.length c0_1,.slice (some ad110) l0_2.length c0_2] 90 (0,0)) (by refine pQ ?_;refine blk_far ?_ NB107_111.out _;refine pQ ?_;refine blk_far ?_ NB107_111.out _;refine pQ ?_;refine blk_far ?_ NB107_111.out _;exact pK BK107) hb);replace BK111:=Z (blk_below (g:=gb111) (o:=.cells #[.int .i64 ((rd_T90 l0_2 x25_2).f0),.slice A110_1 ((rd_T90 l0_2 x25_2).f1).length c110_1,.slice A110_2 ((rd_T90 l0_2 x25_2).f2).length c110_2] 90 (0,0)) (by refine pQ ?_;refine blk_put (cs:=#[.int .i64 ((rd_T90 l0_2 x25_2).f0),.slice A110_1 ((rd_T90 l0_2 x25_2).f1).length c110_1,.slice none 0 0]) ?_ 2 _ rfl;refine pQ ?_;refine blk_put (cs:=#[.int .i64 ((rd_T90 l0_2 x25_2).f0),.slice none 0 0,.slice none 0 0]) ?_ 1 _ rfl;refine pQ ?_;refine blk_put (cs:=#[.int .i64 0,.slice none 0 0,.slice none 0 0]) ?_ 0 _ rfl;exact pK BK111) hb);have n2_:=Z (below_step pB hb);clear HB;have HB:=n2_;clear n2_;(try clear hb);(try clear hb2);(try clear hk);(try clear hi)))
         go_roundg k2
         case measure=>have:=HK1.out;have:=HK2.out;omega
         case rel=>exact ⟨(Go.bits .or .i64 x3_2 t112),(wrap64 (x25_2+1)),pE,pE,H',⟨by have:=HK1.out;have:=HK2.out;omega⟩,⟨pK BK107⟩,⟨pB⟩⟩
        ·rw [if_neg c14] at H
         exact absurd H (by simp)
       ·rw [if_neg c13] at H
        exact absurd H (by simp)
      ·rw [if_neg c12] at H
       have c12b0:decide (x25_2 < (l0_2.length:Int))=false:=decide_eq_false c12
       clear c12
       obtain rfl:=Option.some.inj H
       go_wp2
       go_ret
       exact ⟨pF,pB⟩
def configuration_blank.f (a0_0:Int) (l0_1:List Int) (l0_2:List (S90)):Option (Bool):=if a0_0=0 then (if (l0_1.length:Int)=0 then (some ((l0_2.length:Int) == 0)) else (some false)) else (some false)
set_option maxHeartbeats 8000000 in
set_option maxRecDepth 100000 in
theorem configuration_blank.calls (a0_0:Int) (A0_1:Option Addr) (c0_1:Nat) (l0_1:List Int) (A0_2:Option Addr) (c0_2:Nat) (l0_2:List (S90)) (r:Bool) (w:World) (hr0_1:Kd.C (Kd.int .i64) w A0_1 l0_1.length l0_1) (hc0_1:l0_1.length≤c0_1) (hr0_2:Kd.C k90 w A0_2 l0_2.length l0_2) (hc0_2:l0_2.length≤c0_2) (h:configuration_blank.f a0_0 l0_1 l0_2=some r) :
  Calls Tryz.prog 188 #[.agg #[.int .i64 a0_0,.slice A0_1 l0_1.length c0_1,.slice A0_2 l0_2.length c0_2]] w fun e w'=>e=.returned (.bool r)∧Below w.heap.size w w':=by
 have hu90:=Tryz.underlying90
 have HR0_1:=Z hr0_1
 have HC0_1:=Z hc0_1
 clear hr0_1 hc0_1
 have HR0_2:=Z hr0_2
 have HC0_2:=Z hc0_2
 clear hr0_2 hc0_2
 have HB:=Z (Below.refl w.heap.size w)
 have H:(if a0_0=0 then (if (l0_1.length:Int)=0 then (some ((l0_2.length:Int) == 0)) else (some false)) else (some false))=some r:=h
 clear h
 by_cases c2:a0_0=0
 ·rw [if_pos c2] at H
  have c2b0:(a0_0 == 0)=true:=beq_iff_eq.mpr c2
  have c2b1:(a0_0 != 0)=false:=bne_eq_false_iff_eq.mpr c2
  clear c2
  by_cases c3:(l0_1.length:Int)=0
  ·rw [if_pos c3] at H
   have c3b0:((l0_1.length:Int) == 0)=true:=beq_iff_eq.mpr c3
   have c3b1:((l0_1.length:Int) != 0)=false:=bne_eq_false_iff_eq.mpr c3
   clear c3
   obtain rfl:=Option.some.inj H
   go_enter Tryz.func188,Tryz.ntmps188
   go_wp2_with (first|((with_reducible refine gate_dst (N:=1) rfl ?_);(try (refine gate_guard (by rfl) ?_;dsimp only));refine box_event ?hg (N:=1) ?hd (cs:=#[.int .i64 a0_0,.slice A0_1 l0_1.length c0_1,.slice A0_2 l0_2.length c0_2]) (t:=90) ?hr ?_;(case hd=>rfl);(case hg=>rfl);(case hr=>first|(go_simp;done)|(go_simp;rfl));intro gb113 hg w4 hbox hb;have n0_:=Z (below_step pB hb);have BK113:=Z (hbox);have GW113:=Z ((pT hg:w.heap.size≤gb113));have GE113:=Z ((pT hg:w.heap.size≤gb113));clear HB;have HB:=n0_;clear n0_ hb hbox hg;obtain ⟨hcz5_0,hcz5_1,hcz5_2,hfz5_0,hfz5_1,hfz5_2⟩:=p3 BK113))
   go_ret
   exact ⟨pF,pB⟩
  ·rw [if_neg c3] at H
   have c3b0:((l0_1.length:Int) == 0)=false:=beq_eq_false_iff_ne.mpr c3
   have c3b1:((l0_1.length:Int) != 0)=true:=bne_iff_ne.mpr c3
   have c3b2:¬ (l0_1=[]):=fun h_=>c3 (by rw [h_];rfl)
   obtain rfl:=Option.some.inj H
   go_enter Tryz.func188,Tryz.ntmps188
   go_wp2_with (first|((with_reducible refine gate_dst (N:=1) rfl ?_);(try (refine gate_guard (by rfl) ?_;dsimp only));refine box_event ?hg (N:=1) ?hd (cs:=#[.int .i64 a0_0,.slice A0_1 l0_1.length c0_1,.slice A0_2 l0_2.length c0_2]) (t:=90) ?hr ?_;(case hd=>rfl);(case hg=>rfl);(case hr=>first|(go_simp;done)|(go_simp;rfl));intro gb113 hg w6 hbox hb;have n0_:=Z (below_step pB hb);have BK113:=Z (hbox);have GW113:=Z ((pT hg:w.heap.size≤gb113));have GE113:=Z ((pT hg:w.heap.size≤gb113));clear HB;have HB:=n0_;clear n0_ hb hbox hg;obtain ⟨hcz7_0,hcz7_1,hcz7_2,hfz7_0,hfz7_1,hfz7_2⟩:=p3 BK113))
   go_ret
   exact ⟨pF,pB⟩
 ·rw [if_neg c2] at H
  have c2b0:(a0_0 == 0)=false:=beq_eq_false_iff_ne.mpr c2
  have c2b1:(a0_0 != 0)=true:=bne_iff_ne.mpr c2
  obtain rfl:=Option.some.inj H
  go_enter Tryz.func188,Tryz.ntmps188
  go_wp2_with (first|((with_reducible refine gate_dst (N:=1) rfl ?_);(try (refine gate_guard (by rfl) ?_;dsimp only));refine box_event ?hg (N:=1) ?hd (cs:=#[.int .i64 a0_0,.slice A0_1 l0_1.length c0_1,.slice A0_2 l0_2.length c0_2]) (t:=90) ?hr ?_;(case hd=>rfl);(case hg=>rfl);(case hr=>first|(go_simp;done)|(go_simp;rfl));intro gb113 hg w8 hbox hb;have n0_:=Z (below_step pB hb);have BK113:=Z (hbox);have GW113:=Z ((pT hg:w.heap.size≤gb113));have GE113:=Z ((pT hg:w.heap.size≤gb113));clear HB;have HB:=n0_;clear n0_ hb hbox hg;obtain ⟨hcz9_0,hcz9_1,hcz9_2,hfz9_0,hfz9_1,hfz9_2⟩:=p3 BK113))
  go_ret
  exact ⟨pF,pB⟩
mutual
def threshold_Depth.l0:Nat→Int→List (S90)→Int→Int→Option (Int)
 | 0,_,_,_,_=>none
 | k+1,x3,x7,x8,x9=>if x9 < x8 then (if 0≤x9 then (if x9 < (x7.length:Int) then ((threshold_Depth.f k ((rd_T90 x7 x9).f0) ((rd_T90 x7 x9).f1) ((rd_T90 x7 x9).f2)).bind fun t117=>(threshold_Depth.l0 k (mx x3 t117) x7 x8 (wrap64 (x9+1)))) else (none)) else (none)) else (some (wrap64 (x3+1)))
def threshold_Depth.f:Nat→Int→List Int→List (S90)→Option (Int)
 | 0,_,_,_=>none
 | k+1,a0_0,l0_1,l0_2=>threshold_Depth.l0 k 0 l0_2 (l0_2.length:Int) 0
end
set_option maxHeartbeats 8000000 in
set_option maxRecDepth 100000 in
theorem threshold_Depth.calls (k:Nat):∀ (a0_0:Int) (A0_1:Option Addr) (c0_1:Nat) (l0_1:List Int) (A0_2:Option Addr) (c0_2:Nat) (l0_2:List (S90)) (r:Int) (w:World) (hr0_1:Kd.C (Kd.int .i64) w A0_1 l0_1.length l0_1) (hc0_1:l0_1.length≤c0_1) (hr0_2:Kd.C k90 w A0_2 l0_2.length l0_2) (hc0_2:l0_2.length≤c0_2) (h:threshold_Depth.f k a0_0 l0_1 l0_2=some r),
  Calls Tryz.prog 209 #[.agg #[.int .i64 a0_0,.slice A0_1 l0_1.length c0_1,.slice A0_2 l0_2.length c0_2]] w fun e w'=>e=.returned (.int .i64 r)∧Below w.heap.size w w':=by
 induction k using Nat.strongRecOn with
 | _ k ih =>
 intro a0_0 A0_1 c0_1 l0_1 A0_2 c0_2 l0_2 r w hr0_1 hc0_1 hr0_2 hc0_2 h
 cases k with
 | zero=>exact absurd h (by simp [threshold_Depth.f])
 | succ k =>
 simp only [threshold_Depth.f] at h
 have hu90:=Tryz.underlying90
 have HR0_1:=Z hr0_1
 have HC0_1:=Z hc0_1
 clear hr0_1 hc0_1
 have HR0_2:=Z hr0_2
 have HC0_2:=Z hc0_2
 clear hr0_2 hc0_2
 have HB:=Z (Below.refl w.heap.size w)
 have H:(threshold_Depth.l0 k 0 l0_2 (l0_2.length:Int) 0)=some r:=h
 clear h
 have H':=Z H
 clear H
 go_enter Tryz.func209,Tryz.ntmps209
 go_wp2_with (first|((with_reducible refine gate_dst (N:=1) rfl ?_);refine box_event ?hg (N:=1) ?hd (cs:=#[.int .i64 a0_0,.slice A0_1 l0_1.length c0_1,.slice A0_2 l0_2.length c0_2]) (t:=90) ?hr ?_;(case hd=>rfl);(case hg=>rfl);(case hr=>first|(go_simp;done)|(go_simp;rfl));intro gb114 hg w2 hbox hb;have n0_:=Z (below_step pB hb);have BK114:=Z (hbox);have GW114:=Z ((pT hg:w.heap.size≤gb114));have GE114:=Z ((pT hg:w.heap.size≤gb114));clear HB;have HB:=n0_;clear n0_ hb hbox hg;obtain ⟨hcz3_0,hcz3_1,hcz3_2,hfz3_0,hfz3_1,hfz3_2⟩:=p3 BK114))
 go_loopg [3,9] k (fun kq v3 v9 w'=>∃ (x3_1:Int) (x9_1:Int),v3=.int .i64 x3_1∧v9=.int .i64 x9_1∧Aside0 (threshold_Depth.l0 kq x3_1 l0_2 (l0_2.length:Int) x9_1=some r)∧Aside0 (kq≤k)∧Aside0 (w'.heap[gb114]?=some (.cells #[.int .i64 a0_0,(.slice A0_1 l0_1.length c0_1),(.slice A0_2 l0_2.length c0_2)] 90 (0,0)))∧Aside0 (Below w.heap.size w w'))
 case atStart=>exact ⟨(0),(0),pE,pE,H',⟨Nat.le_refl _⟩,⟨pK BK114⟩,⟨pB⟩⟩
 case round =>
  clear H'
  try clear c2
  try clear p2
  try clear hcz3_0
  try clear hcz3_1
  try clear hcz3_2
  try clear hfz3_0
  try clear hfz3_1
  try clear hfz3_2
  obtain ⟨x3_1,x9_1,rfl,rfl,HA,HK1,BK114,HB⟩:=hrel
  cases gk with
  | zero=>exact absurd HA.out (by simp [threshold_Depth.l0])
  | succ k1 =>
   have H:=HA.out
   clear HA
   simp only [threshold_Depth.l0] at H
   by_cases c4:x9_1 < (l0_2.length:Int)
   ·rw [if_pos c4] at H
    have c4b0:decide (x9_1 < (l0_2.length:Int))=true:=decide_eq_true c4
    clear c4
    by_cases c5:0≤x9_1
    ·rw [if_pos c5] at H
     have c5b0:decide (0≤x9_1)=true:=decide_eq_true c5
     clear c5
     by_cases c6:x9_1 < (l0_2.length:Int)
     ·rw [if_pos c6] at H
      have c6b0:decide (x9_1 < (l0_2.length:Int))=true:=decide_eq_true c6
      clear c6
      replace H:=pO H
      obtain ⟨t117,A70,H⟩:=H
      try dsimp only at H
      have A7:=Z A70
      clear A70
      obtain ⟨ji8,hji8⟩:∃ j_:Int,(mx x3_1 t117)=j_:=⟨_,rfl⟩
      replace H:(threshold_Depth.l0 k1 ji8 l0_2 (l0_2.length:Int) (wrap64 (x9_1+1)))=some r:=by first|(rw [hji8] at H;exact H)|(simp only [hji8] at H ⊢;exact H)
      (try rw [hji8] at A7)
      have hji8_:(if x3_1 < t117 then t117 else x3_1)=ji8:=hji8
      have H':=Z H
      clear H
      have p115:0≤(x9_1:Int):=of_decide_eq_true pA
      have q115:x9_1 < (l0_2.length:Int):=of_decide_eq_true pA
      obtain ⟨ad115,A115_1,c115_1,A115_2,c115_2,e115,hx115_0,hx115_1,hx115_2,hl115_1,hi115_1,hl115_2,hi115_2⟩:=at_T90 HR0_2.out x9_1 p115 q115
      cases e115
      replace hx115_0:=pX HB hx115_0
      replace hx115_1:=pX HB hx115_1
      replace hx115_2:=pX HB hx115_2
      have HR115_1:=Z hi115_1
      have HC115_1:=Z hl115_1
      clear hi115_1 hl115_1
      have HR115_2:=Z hi115_2
      have HC115_2:=Z hl115_2
      clear hi115_2 hl115_2
      replace p115:=eq_true p115
      replace q115:=eq_true q115
      go_wp2_with (first|((with_reducible refine gate_dst (N:=5) rfl ?_);refine box_event ?hg (N:=5) ?hd (cs:=#[.int .i64 0,.slice none 0 0,.slice none 0 0]) (t:=90) ?hr ?_;(case hd=>rfl);(case hg=>rfl);(case hr=>first|(go_simp;done)|(go_simp;rfl));intro gb116 hg w9 hbox hb;have n0_:=Z (blk_below (g:=gb114) (o:=.cells #[.int .i64 a0_0,.slice A0_1 l0_1.length c0_1,.slice (some ad115) l0_2.length c0_2] 90 (0,0)) (pK BK114) hb);have n1_:=Z (below_step pB hb);have BK116:=Z (hbox);have GW116:=Z ((pT hg:w.heap.size≤gb116));have GE116:=Z ((pT hg:w.heap.size≤gb116));have NB114_116:=Z ((pL hg (pK BK114):gb114 ≠ gb116));have NB116_114:=Z ((pM hg (pK BK114):gb116 ≠ gb114));clear BK114 HB;have BK114:=n0_;have HB:=n1_;clear n0_ n1_ hb hbox hg;have hnb10:=NB116_114.out;have hnc10:=NB114_116.out;obtain ⟨hcz11_0,hcz11_1,hcz11_2,hfz11_0,hfz11_1,hfz11_2⟩:=p3 BK116)|((with_reducible refine gate_callee (f:=209) rfl ?_);refine goesL_ (some 15) rfl rfl Tryz.func209 pU rfl #[.agg #[.int .i64 ((rd_T90 l0_2 x9_1).f0),.slice A115_1 ((rd_T90 l0_2 x9_1).f1).length c115_1,.slice A115_2 ((rd_T90 l0_2 x9_1).f2).length c115_2]] rfl pG ?_;(with_reducible refine (ih k1 (by have:=HK1.out;omega) ((rd_T90 l0_2 x9_1).f0) _ _ ((rd_T90 l0_2 x9_1).f1) _ _ ((rd_T90 l0_2 x9_1).f2) t117 _ ?side1 ?side2 ?side3 ?side4 A7.out).mono ?_);(case side1=>exact Kd.C_below HR115_1.out pB);(case side2=>exact HC115_1.out);(case side3=>exact Kd.C_below HR115_2.out pB);(case side4=>exact HC115_2.out);rintro e w12 ⟨rfl,hb⟩;refine ⟨_,rfl,?_⟩;replace BK114:=Z (blk_below (g:=gb114) (o:=.cells #[.int .i64 a0_0,.slice A0_1 l0_1.length c0_1,.slice (some ad115) l0_2.length c0_2] 90 (0,0)) (by refine pQ ?_;refine blk_far ?_ NB114_116.out _;refine pQ ?_;refine blk_far ?_ NB114_116.out _;refine pQ ?_;refine blk_far ?_ NB114_116.out _;exact pK BK114) hb);replace BK116:=Z (blk_below (g:=gb116) (o:=.cells #[.int .i64 ((rd_T90 l0_2 x9_1).f0),.slice A115_1 ((rd_T90 l0_2 x9_1).f1).length c115_1,.slice A115_2 ((rd_T90 l0_2 x9_1).f2).length c115_2] 90 (0,0)) (by refine pQ ?_;refine blk_put (cs:=#[.int .i64 ((rd_T90 l0_2 x9_1).f0),.slice A115_1 ((rd_T90 l0_2 x9_1).f1).length c115_1,.slice none 0 0]) ?_ 2 _ rfl;refine pQ ?_;refine blk_put (cs:=#[.int .i64 ((rd_T90 l0_2 x9_1).f0),.slice none 0 0,.slice none 0 0]) ?_ 1 _ rfl;refine pQ ?_;refine blk_put (cs:=#[.int .i64 0,.slice none 0 0,.slice none 0 0]) ?_ 0 _ rfl;exact pK BK116) hb);have n2_:=Z (below_step pB hb);clear HB;have HB:=n2_;clear n2_;(try clear hb);(try clear hb2);(try clear hk);(try clear hi)))
      go_roundg k1
      case measure=>have:=HK1.out;omega
      case rel=>exact ⟨(ji8),(wrap64 (x9_1+1)),(by first|exact pE|(simp only [← hji8] <;> (first|rfl|simp))),pE,H',⟨by have:=HK1.out;omega⟩,⟨pK BK114⟩,⟨pB⟩⟩
     ·rw [if_neg c6] at H
      exact absurd H (by simp)
    ·rw [if_neg c5] at H
     exact absurd H (by simp)
   ·rw [if_neg c4] at H
    have c4b0:decide (x9_1 < (l0_2.length:Int))=false:=decide_eq_false c4
    clear c4
    obtain rfl:=Option.some.inj H
    go_wp2
    go_ret
    exact ⟨pF,pB⟩
mutual
def threshold_Size.l0:Nat→Int→List (S90)→Int→Int→Option (Int)
 | 0,_,_,_,_=>none
 | k+1,x3,x14,x15,x16=>if x16 < x15 then (if 0≤x16 then (if x16 < (x14.length:Int) then ((threshold_Size.f k ((rd_T90 x14 x16).f0) ((rd_T90 x14 x16).f1) ((rd_T90 x14 x16).f2)).bind fun t121=>(threshold_Size.l0 k (wrap64 (x3+t121)) x14 x15 (wrap64 (x16+1)))) else (none)) else (none)) else (some x3)
def threshold_Size.f:Nat→Int→List Int→List (S90)→Option (Int)
 | 0,_,_,_=>none
 | k+1,a0_0,l0_1,l0_2=>threshold_Size.l0 k (wrap64 ((l0_1.length:Int)+(l0_2.length:Int))) l0_2 (l0_2.length:Int) 0
end
set_option maxHeartbeats 8000000 in
set_option maxRecDepth 100000 in
theorem threshold_Size.calls (k:Nat):∀ (a0_0:Int) (A0_1:Option Addr) (c0_1:Nat) (l0_1:List Int) (A0_2:Option Addr) (c0_2:Nat) (l0_2:List (S90)) (r:Int) (w:World) (hr0_1:Kd.C (Kd.int .i64) w A0_1 l0_1.length l0_1) (hc0_1:l0_1.length≤c0_1) (hr0_2:Kd.C k90 w A0_2 l0_2.length l0_2) (hc0_2:l0_2.length≤c0_2) (h:threshold_Size.f k a0_0 l0_1 l0_2=some r),
  Calls Tryz.prog 210 #[.agg #[.int .i64 a0_0,.slice A0_1 l0_1.length c0_1,.slice A0_2 l0_2.length c0_2]] w fun e w'=>e=.returned (.int .i64 r)∧Below w.heap.size w w':=by
 induction k using Nat.strongRecOn with
 | _ k ih =>
 intro a0_0 A0_1 c0_1 l0_1 A0_2 c0_2 l0_2 r w hr0_1 hc0_1 hr0_2 hc0_2 h
 cases k with
 | zero=>exact absurd h (by simp [threshold_Size.f])
 | succ k =>
 simp only [threshold_Size.f] at h
 have hu90:=Tryz.underlying90
 have HR0_1:=Z hr0_1
 have HC0_1:=Z hc0_1
 clear hr0_1 hc0_1
 have HR0_2:=Z hr0_2
 have HC0_2:=Z hc0_2
 clear hr0_2 hc0_2
 have HB:=Z (Below.refl w.heap.size w)
 have H:(threshold_Size.l0 k (wrap64 ((l0_1.length:Int)+(l0_2.length:Int))) l0_2 (l0_2.length:Int) 0)=some r:=h
 clear h
 have H':=Z H
 clear H
 go_enter Tryz.func210,Tryz.ntmps210
 go_wp2_with (first|((with_reducible refine gate_dst (N:=1) rfl ?_);refine box_event ?hg (N:=1) ?hd (cs:=#[.int .i64 a0_0,.slice A0_1 l0_1.length c0_1,.slice A0_2 l0_2.length c0_2]) (t:=90) ?hr ?_;(case hd=>rfl);(case hg=>rfl);(case hr=>first|(go_simp;done)|(go_simp;rfl));intro gb118 hg w2 hbox hb;have n0_:=Z (below_step pB hb);have BK118:=Z (hbox);have GW118:=Z ((pT hg:w.heap.size≤gb118));have GE118:=Z ((pT hg:w.heap.size≤gb118));clear HB;have HB:=n0_;clear n0_ hb hbox hg;obtain ⟨hcz3_0,hcz3_1,hcz3_2,hfz3_0,hfz3_1,hfz3_2⟩:=p3 BK118))
 go_loopg [3,16] k (fun kq v3 v16 w'=>∃ (x3_1:Int) (x16_1:Int),v3=.int .i64 x3_1∧v16=.int .i64 x16_1∧Aside0 (threshold_Size.l0 kq x3_1 l0_2 (l0_2.length:Int) x16_1=some r)∧Aside0 (kq≤k)∧Aside0 (w'.heap[gb118]?=some (.cells #[.int .i64 a0_0,(.slice A0_1 l0_1.length c0_1),(.slice A0_2 l0_2.length c0_2)] 90 (0,0)))∧Aside0 (Below w.heap.size w w'))
 case atStart=>exact ⟨(wrap64 ((l0_1.length:Int)+(l0_2.length:Int))),(0),pE,pE,H',⟨Nat.le_refl _⟩,⟨pK BK118⟩,⟨pB⟩⟩
 case round =>
  clear H'
  try clear c2
  try clear p2
  try clear hcz3_0
  try clear hcz3_1
  try clear hcz3_2
  try clear hfz3_0
  try clear hfz3_1
  try clear hfz3_2
  obtain ⟨x3_1,x16_1,rfl,rfl,HA,HK1,BK118,HB⟩:=hrel
  cases gk with
  | zero=>exact absurd HA.out (by simp [threshold_Size.l0])
  | succ k1 =>
   have H:=HA.out
   clear HA
   simp only [threshold_Size.l0] at H
   by_cases c4:x16_1 < (l0_2.length:Int)
   ·rw [if_pos c4] at H
    have c4b0:decide (x16_1 < (l0_2.length:Int))=true:=decide_eq_true c4
    clear c4
    by_cases c5:0≤x16_1
    ·rw [if_pos c5] at H
     have c5b0:decide (0≤x16_1)=true:=decide_eq_true c5
     clear c5
     by_cases c6:x16_1 < (l0_2.length:Int)
     ·rw [if_pos c6] at H
      have c6b0:decide (x16_1 < (l0_2.length:Int))=true:=decide_eq_true c6
      clear c6
      replace H:=pO H
      obtain ⟨t121,A70,H⟩:=H
      try dsimp only at H
      have A7:=Z A70
      clear A70
      have H':=Z H
      clear H
      have p119:0≤(x16_1:Int):=of_decide_eq_true pA
      have q119:x16_1 < (l0_2.length:Int):=of_decide_eq_true pA
      obtain ⟨ad119,A119_1,c119_1,A119_2,c119_2,e119,hx119_0,hx119_1,hx119_2,hl119_1,hi119_1,hl119_2,hi119_2⟩:=at_T90 HR0_2.out x16_1 p119 q119
      cases e119
      replace hx119_0:=pX HB hx119_0
      replace hx119_1:=pX HB hx119_1
      replace hx119_2:=pX HB hx119_2
      have HR119_1:=Z hi119_1
      have HC119_1:=Z hl119_1
      clear hi119_1 hl119_1
      have HR119_2:=Z hi119_2
      have HC119_2:=Z hl119_2
      clear hi119_2 hl119_2
      replace p119:=eq_true p119
      replace q119:=eq_true q119
      go_wp2_with (first|((with_reducible refine gate_dst (N:=5) rfl ?_);refine box_event ?hg (N:=5) ?hd (cs:=#[.int .i64 0,.slice none 0 0,.slice none 0 0]) (t:=90) ?hr ?_;(case hd=>rfl);(case hg=>rfl);(case hr=>first|(go_simp;done)|(go_simp;rfl));intro gb120 hg w8 hbox hb;have n0_:=Z (blk_below (g:=gb118) (o:=.cells #[.int .i64 a0_0,.slice A0_1 l0_1.length c0_1,.slice (some ad119) l0_2.length c0_2] 90 (0,0)) (pK BK118) hb);have n1_:=Z (below_step pB hb);have BK120:=Z (hbox);have GW120:=Z ((pT hg:w.heap.size≤gb120));have GE120:=Z ((pT hg:w.heap.size≤gb120));have NB118_120:=Z ((pL hg (pK BK118):gb118 ≠ gb120));have NB120_118:=Z ((pM hg (pK BK118):gb120 ≠ gb118));clear BK118 HB;have BK118:=n0_;have HB:=n1_;clear n0_ n1_ hb hbox hg;have hnb9:=NB120_118.out;have hnc9:=NB118_120.out;obtain ⟨hcz10_0,hcz10_1,hcz10_2,hfz10_0,hfz10_1,hfz10_2⟩:=p3 BK120)|((with_reducible refine gate_callee (f:=210) rfl ?_);refine goesL_ (some 22) rfl rfl Tryz.func210 pU rfl #[.agg #[.int .i64 ((rd_T90 l0_2 x16_1).f0),.slice A119_1 ((rd_T90 l0_2 x16_1).f1).length c119_1,.slice A119_2 ((rd_T90 l0_2 x16_1).f2).length c119_2]] rfl pG ?_;(with_reducible refine (ih k1 (by have:=HK1.out;omega) ((rd_T90 l0_2 x16_1).f0) _ _ ((rd_T90 l0_2 x16_1).f1) _ _ ((rd_T90 l0_2 x16_1).f2) t121 _ ?side1 ?side2 ?side3 ?side4 A7.out).mono ?_);(case side1=>exact Kd.C_below HR119_1.out pB);(case side2=>exact HC119_1.out);(case side3=>exact Kd.C_below HR119_2.out pB);(case side4=>exact HC119_2.out);rintro e w11 ⟨rfl,hb⟩;refine ⟨_,rfl,?_⟩;replace BK118:=Z (blk_below (g:=gb118) (o:=.cells #[.int .i64 a0_0,.slice A0_1 l0_1.length c0_1,.slice (some ad119) l0_2.length c0_2] 90 (0,0)) (by refine pQ ?_;refine blk_far ?_ NB118_120.out _;refine pQ ?_;refine blk_far ?_ NB118_120.out _;refine pQ ?_;refine blk_far ?_ NB118_120.out _;exact pK BK118) hb);replace BK120:=Z (blk_below (g:=gb120) (o:=.cells #[.int .i64 ((rd_T90 l0_2 x16_1).f0),.slice A119_1 ((rd_T90 l0_2 x16_1).f1).length c119_1,.slice A119_2 ((rd_T90 l0_2 x16_1).f2).length c119_2] 90 (0,0)) (by refine pQ ?_;refine blk_put (cs:=#[.int .i64 ((rd_T90 l0_2 x16_1).f0),.slice A119_1 ((rd_T90 l0_2 x16_1).f1).length c119_1,.slice none 0 0]) ?_ 2 _ rfl;refine pQ ?_;refine blk_put (cs:=#[.int .i64 ((rd_T90 l0_2 x16_1).f0),.slice none 0 0,.slice none 0 0]) ?_ 1 _ rfl;refine pQ ?_;refine blk_put (cs:=#[.int .i64 0,.slice none 0 0,.slice none 0 0]) ?_ 0 _ rfl;exact pK BK120) hb);have n2_:=Z (below_step pB hb);clear HB;have HB:=n2_;clear n2_;(try clear hb);(try clear hb2);(try clear hk);(try clear hi)))
      go_roundg k1
      case measure=>have:=HK1.out;omega
      case rel=>exact ⟨(wrap64 (x3_1+t121)),(wrap64 (x16_1+1)),pE,pE,H',⟨by have:=HK1.out;omega⟩,⟨pK BK118⟩,⟨pB⟩⟩
     ·rw [if_neg c6] at H
      exact absurd H (by simp)
    ·rw [if_neg c5] at H
     exact absurd H (by simp)
   ·rw [if_neg c4] at H
    have c4b0:decide (x16_1 < (l0_2.length:Int))=false:=decide_eq_false c4
    clear c4
    obtain rfl:=Option.some.inj H
    go_wp2
    go_ret
    exact ⟨pF,pB⟩
def nodeset_below.f (a0:Int) (a1:Int):Option (Bool):=if a0 ≥ 0 then (if 0≤a1 then (some (decide (a0 < (shl .i64 1 a1)))) else (none)) else (some false)
set_option maxHeartbeats 8000000 in
set_option maxRecDepth 100000 in
theorem nodeset_below.calls (a0:Int) (a1:Int) (r:Bool) (w:World) (h:nodeset_below.f a0 a1=some r) :
  Calls Tryz.prog 191 #[.int .i64 a0,.int .i64 a1] w fun e w'=>e=.returned (.bool r)∧Drawn0 w w':=by
 have H:(if a0 ≥ 0 then (if 0≤a1 then (some (decide (a0 < (shl .i64 1 a1)))) else (none)) else (some false))=some r:=h
 clear h
 by_cases c3:a0 ≥ 0
 ·rw [if_pos c3] at H
  have c3b0:decide (0≤a0)=true:=decide_eq_true c3
  clear c3
  by_cases c4:0≤a1
  ·rw [if_pos c4] at H
   have c4b0:=eq_true c4
   have c4b1:decide (0≤a1)=true:=decide_eq_true c4
   clear c4
   obtain ⟨ji5,hji5⟩:∃ j_:Int,(shl .i64 1 a1)=j_:=⟨_,rfl⟩
   replace H:(some (decide (a0 < (ji5))))=some r:=by first|(rw [hji5] at H;exact H)|(simp only [hji5] at H ⊢;exact H)
   have hji5_:(IntKind.i64.wrap (1 * 2 ^ min a1.toNat 64))=ji5:=hji5
   have hji5z:a1≤64→(IntKind.i64.wrap (1 * 2 ^ a1.toNat))=ji5:=shl_small hji5
   have hji5u:(IntKind.i64.wrap (2 ^ min a1.toNat 64))=ji5:=by have h_:=hji5_;rw [Int.one_mul] at h_;exact h_
   have hji5v:a1≤64→(IntKind.i64.wrap (2 ^ a1.toNat))=ji5:=fun hle_=>by have h_:=hji5z hle_;rw [Int.one_mul] at h_;exact h_
   have hji5y:(wrap64 (1 * 2 ^ min a1.toNat 64))=ji5:=(i64_w _).symm.trans hji5_
   have hji5x:a1≤64→(wrap64 (1 * 2 ^ a1.toNat))=ji5:=fun h_=>(i64_w _).symm.trans (hji5z h_)
   obtain rfl:=Option.some.inj H
   go_enter Tryz.func191,Tryz.ntmps191
   go_wp2
   go_ret
   exact ⟨by first|rfl|(simp;done)|(simp only [← hji5] <;> (first|rfl|simp))|(simp [*];done),by repeat (first|exact Drawn0.refl _|apply Drawn0.step)⟩
  ·rw [if_neg c4] at H
   exact absurd H (by simp)
 ·rw [if_neg c3] at H
  have c3b0:decide (0≤a0)=false:=decide_eq_false c3
  clear c3
  obtain rfl:=Option.some.inj H
  go_enter Tryz.func191,Tryz.ntmps191
  go_wp2
  go_ret
  exact ⟨pE,pD⟩
def nodeset_Valid.f (a0:Int):Option (Bool):=(nodeset_below.f a0 10).bind fun t122=>(some t122)
set_option maxHeartbeats 8000000 in
set_option maxRecDepth 100000 in
theorem nodeset_Valid.calls (a0:Int) (r:Bool) (w:World) (h:nodeset_Valid.f a0=some r) :
  Calls Tryz.prog 160 #[.int .i64 a0] w fun e w'=>e=.returned (.bool r)∧Drawn0 w w':=by
 have H:((nodeset_below.f a0 10).bind fun t122=>(some t122))=some r:=h
 clear h
 replace H:=pO H
 obtain ⟨t122,A20,H⟩:=H
 try dsimp only at H
 have A2:=Z A20
 clear A20
 obtain rfl:=Option.some.inj H
 go_enter Tryz.func160,Tryz.ntmps160
 go_wp2_with (first|((with_reducible refine gate_callee (f:=191) rfl ?_);refine goesL_ (some 4) rfl rfl Tryz.func191 pU rfl #[.int .i64 a0,.int .i64 10] rfl pG ?_;(with_reducible refine (nodeset_below.calls a0 10 t122 _ A2.out).mono ?_);rintro e w' ⟨rfl,⟨nd,rfl⟩⟩;refine ⟨_,rfl,?_⟩))
 go_ret
 exact ⟨pE,pD⟩
def nodeset_Has.f (a0:Int) (a1:Int):Option (Bool):=(nodeset_Valid.f a0).bind fun t123=>(if t123=true then (if a1 ≥ 0 then (if a1 < 10 then (if 0≤a1 then (some ((Go.bits .and .i64 a0 (shl .i64 1 a1)) != 0)) else (none)) else (some false)) else (some false)) else (some false))
set_option maxHeartbeats 8000000 in
set_option maxRecDepth 100000 in
theorem nodeset_Has.calls (a0:Int) (a1:Int) (r:Bool) (w:World) (h:nodeset_Has.f a0 a1=some r) :
  Calls Tryz.prog 104 #[.int .i64 a0,.int .i64 a1] w fun e w'=>e=.returned (.bool r)∧Drawn0 w w':=by
 have H:((nodeset_Valid.f a0).bind fun t123=>(if t123=true then (if a1 ≥ 0 then (if a1 < 10 then (if 0≤a1 then (some ((Go.bits .and .i64 a0 (shl .i64 1 a1)) != 0)) else (none)) else (some false)) else (some false)) else (some false)))=some r:=h
 clear h
 replace H:=pO H
 obtain ⟨t123,A30,H⟩:=H
 try dsimp only at H
 have A3:=Z A30
 clear A30
 by_cases c4:t123=true
 ·subst c4
  rw [if_pos rfl] at H
  by_cases c5:a1 ≥ 0
  ·rw [if_pos c5] at H
   have c5b0:decide (0≤a1)=true:=decide_eq_true c5
   clear c5
   by_cases c6:a1 < 10
   ·rw [if_pos c6] at H
    have c6b0:decide (a1 < 10)=true:=decide_eq_true c6
    clear c6
    by_cases c7:0≤a1
    ·rw [if_pos c7] at H
     have c7b0:=eq_true c7
     have c7b1:decide (0≤a1)=true:=decide_eq_true c7
     clear c7
     obtain ⟨ji8,hji8⟩:∃ j_:Int,(shl .i64 1 a1)=j_:=⟨_,rfl⟩
     replace H:(some ((Go.bits .and .i64 a0 (ji8)) != 0))=some r:=by first|(rw [hji8] at H;exact H)|(simp only [hji8] at H ⊢;exact H)
     (try rw [hji8] at A3)
     have hji8_:(IntKind.i64.wrap (1 * 2 ^ min a1.toNat 64))=ji8:=hji8
     have hji8z:a1≤64→(IntKind.i64.wrap (1 * 2 ^ a1.toNat))=ji8:=shl_small hji8
     have hji8u:(IntKind.i64.wrap (2 ^ min a1.toNat 64))=ji8:=by have h_:=hji8_;rw [Int.one_mul] at h_;exact h_
     have hji8v:a1≤64→(IntKind.i64.wrap (2 ^ a1.toNat))=ji8:=fun hle_=>by have h_:=hji8z hle_;rw [Int.one_mul] at h_;exact h_
     have hji8y:(wrap64 (1 * 2 ^ min a1.toNat 64))=ji8:=(i64_w _).symm.trans hji8_
     have hji8x:a1≤64→(wrap64 (1 * 2 ^ a1.toNat))=ji8:=fun h_=>(i64_w _).symm.trans (hji8z h_)
     obtain rfl:=Option.some.inj H
     go_enter Tryz.func104,Tryz.ntmps104
     go_wp2_with (first|((with_reducible refine gate_callee (f:=160) rfl ?_);refine goesL_ (some 6) rfl rfl Tryz.func160 pU rfl #[.int .i64 a0] rfl pG ?_;(with_reducible refine (nodeset_Valid.calls a0 true _ A3.out).mono ?_);rintro e w' ⟨rfl,⟨nd,rfl⟩⟩;refine ⟨_,rfl,?_⟩))
     go_ret
     exact ⟨by first|rfl|(simp;done)|(simp only [← hji8] <;> (first|rfl|simp))|(simp [*];done),by repeat (first|exact Drawn0.refl _|apply Drawn0.step)⟩
    ·rw [if_neg c7] at H
     exact absurd H (by simp)
   ·rw [if_neg c6] at H
    have c6b0:decide (a1 < 10)=false:=decide_eq_false c6
    clear c6
    obtain rfl:=Option.some.inj H
    go_enter Tryz.func104,Tryz.ntmps104
    go_wp2_with (first|((with_reducible refine gate_callee (f:=160) rfl ?_);refine goesL_ (some 6) rfl rfl Tryz.func160 pU rfl #[.int .i64 a0] rfl pG ?_;(with_reducible refine (nodeset_Valid.calls a0 true _ A3.out).mono ?_);rintro e w' ⟨rfl,⟨nd,rfl⟩⟩;refine ⟨_,rfl,?_⟩))
    go_ret
    exact ⟨pE,pD⟩
  ·rw [if_neg c5] at H
   have c5b0:decide (0≤a1)=false:=decide_eq_false c5
   clear c5
   obtain rfl:=Option.some.inj H
   go_enter Tryz.func104,Tryz.ntmps104
   go_wp2_with (first|((with_reducible refine gate_callee (f:=160) rfl ?_);refine goesL_ (some 6) rfl rfl Tryz.func160 pU rfl #[.int .i64 a0] rfl pG ?_;(with_reducible refine (nodeset_Valid.calls a0 true _ A3.out).mono ?_);rintro e w' ⟨rfl,⟨nd,rfl⟩⟩;refine ⟨_,rfl,?_⟩))
   go_ret
   exact ⟨pE,pD⟩
 ·replace c4:=Bool.eq_false_iff.mpr c4
  subst c4
  rw [if_neg (show ¬ (false=true) by decide)] at H
  obtain rfl:=Option.some.inj H
  go_enter Tryz.func104,Tryz.ntmps104
  go_wp2_with (first|((with_reducible refine gate_callee (f:=160) rfl ?_);refine goesL_ (some 6) rfl rfl Tryz.func160 pU rfl #[.int .i64 a0] rfl pG ?_;(with_reducible refine (nodeset_Valid.calls a0 false _ A3.out).mono ?_);rintro e w' ⟨rfl,⟨nd,rfl⟩⟩;refine ⟨_,rfl,?_⟩))
  go_ret
  exact ⟨pE,pD⟩
mutual
def nodeset_Of.l0:Nat→Int→List Int→Int→Int→Option (Int × Int)
 | 0,_,_,_,_=>none
 | k+1,x4,x7,x8,x9=>if x9 < x8 then (if 0≤x9 then (if x9 < (x7.length:Int) then (if (rd x7 x9) < 0 then (nodeset_Of.j1 k x4 (rd x7 x9) x7 x8 x9 true) else (nodeset_Of.j1 k x4 (rd x7 x9) x7 x8 x9 (decide ((rd x7 x9) ≥ 10)))) else (none)) else (none)) else (some (x4,0))
def nodeset_Of.j1:Nat→Int→Int→List Int→Int→Int→Bool→Option (Int × Int)
 | 0,_,_,_,_,_,_=>none
 | k+1,x4,x6,x7,x8,x9,x18=>if x18=true then (some (0,5)) else ((nodeset_Has.f x4 x6).bind fun t125=>(if t125=true then (some (0,6)) else (if 0≤x6 then (nodeset_Of.l0 k (Go.bits .or .i64 x4 (shl .i64 1 x6)) x7 x8 (wrap64 (x9+1))) else (none))))
end
def nodeset_Of.f (k:Nat) (l0:List Int):Option (Int × Int):=nodeset_Of.l0 k 0 l0 (l0.length:Int) 0
set_option maxHeartbeats 8000000 in
set_option maxRecDepth 100000 in
theorem nodeset_Of.calls (k:Nat) (A0:Option Addr) (c0:Nat) (l0:List Int) (r1:Int) (r2:Int) (w:World) (hr0:Kd.C (Kd.int .i64) w A0 l0.length l0) (hc0:l0.length≤c0) (h:nodeset_Of.f k l0=some (r1,r2)) :
  Calls Tryz.prog 228 #[.slice A0 l0.length c0] w fun e w'=>e=.returned (.tuple #[.int .i64 r1,.int .i64 r2])∧Drawn0 w w':=by
 have HR0:=Z hr0
 have HC0:=Z hc0
 clear hr0 hc0
 have H:(nodeset_Of.l0 k 0 l0 (l0.length:Int) 0)=some (r1,r2):=h
 clear h
 have H':=Z H
 clear H
 go_enter Tryz.func228,Tryz.ntmps228
 go_wp2
 go_loopg [4,9] k (fun kq v4 v9 w'=>∃ (x4_1:Int) (x9_1:Int),v4=.int .i64 x4_1∧v9=.int .i64 x9_1∧Aside0 (nodeset_Of.l0 kq x4_1 l0 (l0.length:Int) x9_1=some (r1,r2))∧Aside0 (kq≤k)∧Drawn0 w w')
 case atStart=>exact ⟨(0),(0),pE,pE,H',⟨Nat.le_refl _⟩,by repeat (first|exact Drawn0.refl _|apply Drawn0.step)⟩
 case round =>
  clear H'
  obtain ⟨x4_1,x9_1,rfl,rfl,HA,HK1,⟨m1,rfl⟩⟩:=hrel
  cases gk with
  | zero=>exact absurd HA.out (by simp [nodeset_Of.l0])
  | succ k1 =>
   have H:=HA.out
   clear HA
   simp only [nodeset_Of.l0] at H
   by_cases c2:x9_1 < (l0.length:Int)
   ·rw [if_pos c2] at H
    have c2b0:decide (x9_1 < (l0.length:Int))=true:=decide_eq_true c2
    clear c2
    by_cases c3:0≤x9_1
    ·rw [if_pos c3] at H
     have c3b0:decide (0≤x9_1)=true:=decide_eq_true c3
     clear c3
     by_cases c4:x9_1 < (l0.length:Int)
     ·rw [if_pos c4] at H
      have c4b0:decide (x9_1 < (l0.length:Int))=true:=decide_eq_true c4
      clear c4
      have HC5:=Z H
      clear H
      have p124:0≤(x9_1:Int):=of_decide_eq_true pA
      have q124:x9_1 < (l0.length:Int):=of_decide_eq_true pA
      obtain ⟨ad124,e124,hx124_0⟩:=Kd.at_int HR0.out x9_1 p124 q124
      cases e124
      replace p124:=eq_true p124
      replace q124:=eq_true q124
      go_upto_region 5 with (fail)
      go_cut [18] (fun v18 wc=>∃ (kq:Nat) (x18_4:Bool),v18=.bool x18_4∧Aside0 (nodeset_Of.j1 kq x4_1 (rd l0 x9_1) l0 (l0.length:Int) x9_1 x18_4=some (r1,r2))∧Aside0 (kq≤k1)∧Drawn0 w wc)
      case first =>
       have H:=HC5.out
       clear HC5
       by_cases c6:(rd l0 x9_1) < 0
       ·rw [if_pos c6] at H
        have c6b0:decide ((rd l0 x9_1) < 0)=true:=decide_eq_true c6
        clear c6
        (first|rw [c6b0]|(simp only [i64_w,i32_w];rw [c6b0])|skip)
        have H':=Z H
        clear H
        go_wp2
        go_meet
        case rel=>exact ⟨_,(true),pE,H',⟨by have:=HK1.out;first|omega|exact Nat.le_refl _⟩,by repeat (first|exact Drawn0.refl _|apply Drawn0.step)⟩
       ·rw [if_neg c6] at H
        have c6b0:decide ((rd l0 x9_1) < 0)=false:=decide_eq_false c6
        clear c6
        (first|rw [c6b0]|(simp only [i64_w,i32_w];rw [c6b0])|skip)
        have H':=Z H
        clear H
        go_wp2
        go_meet
        case rel=>exact ⟨_,(decide ((rd l0 x9_1) ≥ 10)),pE,H',⟨by have:=HK1.out;first|omega|exact Nat.le_refl _⟩,by repeat (first|exact Drawn0.refl _|apply Drawn0.step)⟩
      case rest =>
       clear HC5
       try clear p1
       try clear q1
       try clear hx1
       try clear c2
       try clear c2b0
       try clear p2
       try clear c3
       try clear c3b0
       try clear c4
       try clear c4b0
       try clear c6
       try clear c6b0
       try clear hx124_0
       try clear p124
       try clear q124
       obtain ⟨kq,x18_4,rfl,HA,HJ4,⟨mc4,rfl⟩⟩:=hcut
       cases kq with
       | zero=>exact absurd HA.out (by simp [nodeset_Of.j1])
       | succ kj4 =>
        have H:=HA.out
        clear HA
        simp only [nodeset_Of.j1] at H
        by_cases c7:x18_4=true
        ·subst c7
         rw [if_pos rfl] at H
         simp only [Option.some.injEq,Prod.mk.injEq] at H
         obtain ⟨rfl,rfl⟩:=H
         go_wp2
         go_ret2
         exact ⟨pE,pD⟩
        ·replace c7:=Bool.eq_false_iff.mpr c7
         subst c7
         rw [if_neg (show ¬ (false=true) by decide)] at H
         replace H:=pO H
         obtain ⟨t125,A80,H⟩:=H
         try dsimp only at H
         have A8:=Z A80
         clear A80
         by_cases c9:t125=true
         ·subst c9
          rw [if_pos rfl] at H
          simp only [Option.some.injEq,Prod.mk.injEq] at H
          obtain ⟨rfl,rfl⟩:=H
          go_wp2_with (first|((with_reducible refine gate_callee (f:=104) rfl ?_);refine goesL_ (some 21) rfl rfl Tryz.func104 pU rfl #[.int .i64 x4_1,.int .i64 (rd l0 x9_1)] rfl pG ?_;(with_reducible refine (nodeset_Has.calls x4_1 (rd l0 x9_1) true _ A8.out).mono ?_);rintro e w' ⟨rfl,⟨nd,rfl⟩⟩;refine ⟨_,rfl,?_⟩))
          go_ret2
          exact ⟨pE,pD⟩
         ·replace c9:=Bool.eq_false_iff.mpr c9
          subst c9
          rw [if_neg (show ¬ (false=true) by decide)] at H
          by_cases c10:0≤(rd l0 x9_1)
          ·rw [if_pos c10] at H
           have c10b0:=eq_true c10
           have c10b1:decide (0≤(rd l0 x9_1))=true:=decide_eq_true c10
           clear c10
           obtain ⟨ji11,hji11⟩:∃ j_:Int,(shl .i64 1 (rd l0 x9_1))=j_:=⟨_,rfl⟩
           replace H:(nodeset_Of.l0 kj4 (Go.bits .or .i64 x4_1 (ji11)) l0 (l0.length:Int) (wrap64 (x9_1+1)))=some (r1,r2):=by first|(rw [hji11] at H;exact H)|(simp only [hji11] at H ⊢;exact H)
           (try rw [hji11] at A8)
           have hji11_:(IntKind.i64.wrap (1 * 2 ^ min (rd l0 x9_1).toNat 64))=ji11:=hji11
           have hji11z:(rd l0 x9_1)≤64→(IntKind.i64.wrap (1 * 2 ^ (rd l0 x9_1).toNat))=ji11:=shl_small hji11
           have hji11u:(IntKind.i64.wrap (2 ^ min (rd l0 x9_1).toNat 64))=ji11:=by have h_:=hji11_;rw [Int.one_mul] at h_;exact h_
           have hji11v:(rd l0 x9_1)≤64→(IntKind.i64.wrap (2 ^ (rd l0 x9_1).toNat))=ji11:=fun hle_=>by have h_:=hji11z hle_;rw [Int.one_mul] at h_;exact h_
           have hji11y:(wrap64 (1 * 2 ^ min (rd l0 x9_1).toNat 64))=ji11:=(i64_w _).symm.trans hji11_
           have hji11x:(rd l0 x9_1)≤64→(wrap64 (1 * 2 ^ (rd l0 x9_1).toNat))=ji11:=fun h_=>(i64_w _).symm.trans (hji11z h_)
           have H':=Z H
           clear H
           go_wp2_with (first|((with_reducible refine gate_callee (f:=104) rfl ?_);refine goesL_ (some 21) rfl rfl Tryz.func104 pU rfl #[.int .i64 x4_1,.int .i64 (rd l0 x9_1)] rfl pG ?_;(with_reducible refine (nodeset_Has.calls x4_1 (rd l0 x9_1) false _ A8.out).mono ?_);rintro e w' ⟨rfl,⟨nd,rfl⟩⟩;refine ⟨_,rfl,?_⟩))
           go_roundg kj4
           case measure=>have:=HK1.out;have:=HJ4.out;omega
           case rel=>exact ⟨(Go.bits .or .i64 x4_1 (ji11)),(wrap64 (x9_1+1)),(by first|exact pE|(simp only [← hji11] <;> (first|rfl|simp))),pE,H',⟨by have:=HK1.out;have:=HJ4.out;omega⟩,by repeat (first|exact Drawn0.refl _|apply Drawn0.step)⟩
          ·rw [if_neg c10] at H
           exact absurd H (by simp)
     ·rw [if_neg c4] at H
      exact absurd H (by simp)
    ·rw [if_neg c3] at H
     exact absurd H (by simp)
   ·rw [if_neg c2] at H
    have c2b0:decide (x9_1 < (l0.length:Int))=false:=decide_eq_false c2
    clear c2
    simp only [Option.some.injEq,Prod.mk.injEq] at H
    obtain ⟨rfl,rfl⟩:=H
    go_wp2
    go_ret2
    exact ⟨pE,pD⟩
def danger_members.f (l0_0:List (S92)):Option (Int):=some (wrap64 ((shl .i64 1 (l0_0.length:Int)) - 1))
set_option maxHeartbeats 8000000 in
set_option maxRecDepth 100000 in
theorem danger_members.calls (A0_0:Option Addr) (c0_0:Nat) (l0_0:List (S92)) (r:Int) (w:World) (hr0_0:Kd.C k92 w A0_0 l0_0.length l0_0) (hc0_0:l0_0.length≤c0_0) (h:danger_members.f l0_0=some r) :
  Calls Tryz.prog 169 #[.agg #[.slice A0_0 l0_0.length c0_0]] w fun e w'=>e=.returned (.int .i64 r)∧Below w.heap.size w w':=by
 have hu25:=Tryz.underlying25
 have HR0_0:=Z hr0_0
 have HC0_0:=Z hc0_0
 clear hr0_0 hc0_0
 have HB:=Z (Below.refl w.heap.size w)
 have H:(some (wrap64 ((shl .i64 1 (l0_0.length:Int)) - 1)))=some r:=h
 clear h
 obtain ⟨ji2,hji2⟩:∃ j_:Int,(shl .i64 1 (l0_0.length:Int))=j_:=⟨_,rfl⟩
 replace H:(some (wrap64 ((ji2) - 1)))=some r:=by first|(rw [hji2] at H;exact H)|(simp only [hji2] at H ⊢;exact H)
 have hji2_:(IntKind.i64.wrap (1 * 2 ^ min (l0_0.length:Int).toNat 64))=ji2:=hji2
 have hji2z:(l0_0.length:Int)≤64→(IntKind.i64.wrap (1 * 2 ^ (l0_0.length:Int).toNat))=ji2:=shl_small hji2
 have hji2p:(IntKind.i64.wrap (1 * 2 ^ min l0_0.length 64))=ji2:=hji2_
 have hji2q:(l0_0.length:Int)≤64→(IntKind.i64.wrap (1 * 2 ^ l0_0.length))=ji2:=hji2z
 have hji2r:(IntKind.i64.wrap (2 ^ min l0_0.length 64))=ji2:=by have h_:=hji2p;rw [Int.one_mul] at h_;exact h_
 have hji2s:(l0_0.length:Int)≤64→(IntKind.i64.wrap (2 ^ l0_0.length))=ji2:=fun hle_=>by have h_:=hji2q hle_;rw [Int.one_mul] at h_;exact h_
 have hji2u:(IntKind.i64.wrap (2 ^ min (l0_0.length:Int).toNat 64))=ji2:=by have h_:=hji2_;rw [Int.one_mul] at h_;exact h_
 have hji2v:(l0_0.length:Int)≤64→(IntKind.i64.wrap (2 ^ (l0_0.length:Int).toNat))=ji2:=fun hle_=>by have h_:=hji2z hle_;rw [Int.one_mul] at h_;exact h_
 have hji2y:(wrap64 (1 * 2 ^ min (l0_0.length:Int).toNat 64))=ji2:=(i64_w _).symm.trans hji2_
 have hji2x:(l0_0.length:Int)≤64→(wrap64 (1 * 2 ^ (l0_0.length:Int).toNat))=ji2:=fun h_=>(i64_w _).symm.trans (hji2z h_)
 obtain rfl:=Option.some.inj H
 go_enter Tryz.func169,Tryz.ntmps169
 go_wp2_with (first|((with_reducible refine gate_dst (N:=1) rfl ?_);refine box_event ?hg (N:=1) ?hd (cs:=#[.slice A0_0 l0_0.length c0_0]) (t:=25) ?hr ?_;(case hd=>rfl);(case hg=>rfl);(case hr=>first|(go_simp;done)|(go_simp;rfl));intro gb527 hg w3 hbox hb;have n0_:=Z (below_step pB hb);have BK527:=Z (hbox);have GW527:=Z ((pT hg:w.heap.size≤gb527));have GE527:=Z ((pT hg:w.heap.size≤gb527));clear HB;have HB:=n0_;clear n0_ hb hbox hg;obtain ⟨hcz4_0,hfz4_0⟩:=p1 BK527))
 go_ret
 exact ⟨by first|rfl|(simp [errW_none,errW_some] <;> rfl)|(simp only [← hji2];first|rfl|(simp [errW_none,errW_some] <;> rfl))|(simp [*,errW_none,errW_some] <;> rfl),pB⟩
end Go.Proofs.YtkjlcbfjllpcnaaGreat.X
