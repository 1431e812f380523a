/- Proof of the statement DangerLeast: part 2 of 8, what it computes and why that answers true. -/
import Derived.Test.YtkjlcbfjllpcnaaKDL1
import Derived.Test.YtkjlcbfjllpcnaaProg
import Derived.Below
import Derived.Deep.Draws
import Derived.Deep.AppendLies
import Derived.Maps.AppendAt
import Derived.OwnWalk
import Derived.Laws.BytesArg
import Derived.Laws.MakeOwn
import Derived.Laws.OwnMore
import Derived.Deep.OwnRows
import Derived.Tactics
import Derived.Lib.ConvBytes
import Derived.Laws.Slices
import Derived.WalkKit
import Derived.KernelRfl
import Derived.RowKit3
import Derived.Deep.LoopGhost
import Derived.Deep.QuietTactic
import Derived.BigQuiet
import Derived.WideLaws
import Derived.Deep.DeepCutAuto
import Derived.Deep.CutBlock
import Derived.Deep.RegionHeld3
import Derived.Laws.Rows
import Derived.Lib.AppendStr
import Derived.ArgAppend
import Derived.Laws.IdiomCopy
import Derived.OrdersHeld
import Derived.Laws.BitsLemmas
import Derived.RowKit
set_option linter.unusedVariables false
set_option linter.unusedSimpArgs false
namespace Go.Proofs.Ytkjlcbfjllpcnaa.X
open Go.RowKit Go.Proofs.YtkjlcbfjllpcnaaW.PrintWords Go.Proofs.YtkjlcbfjllpcnaaW.PrintLast Go.Proofs.YtkjlcbfjllpcnaaW.PrintMore
attribute [local go_sem] max2_int min2_int max_two min_two max_three min_three max_four min_four
set_option linter.unusedVariables false
set_option linter.unusedSimpArgs false
def errW:Option Int→Value
 | none=>.nilIface
 | some c=>.iface 0 (.int .i64 c)
theorem errW_none:errW none=.nilIface:=rfl
theorem errW_some (c:Int):errW (some c)=.iface 0 (.int .i64 c):=rfl
theorem info3:(Try.prog.info? 3).map (fun i=>(i.zero,i.size,i.bytes))=some (some (.int .i64 0),1,8):=by kernel_rfl
theorem info32:(Try.prog.info? 32).map (fun i=>(i.zero,i.size,i.bytes))=some (some (.agg #[(.int .i64 0),(.slice none 0 0),(.slice none 0 0)]),3,56):=by kernel_rfl
theorem info34:(Try.prog.info? 34).map (fun i=>(i.zero,i.size,i.bytes))=some (some (.agg #[(.bool false),(.int .i64 0),(.slice none 0 0),(.slice none 0 0)]),4,64):=by kernel_rfl
structure S32 where
 f0:Int
 f1:(List Int)
 f2:(List S32)
def z32:S32:=⟨(0:Int),([]:List Int),([]:List S32)⟩
def F32 (d:Kd S32):Kd S32:=Kd.iso (Kd.pair (Kd.int .i64) (Kd.pair (Kd.slice 3 (Kd.int .i64)) (Kd.slice 32 d))) (fun x:S32=>(x.f0,x.f1,x.f2))
theorem mono32:Kd.Mono F32:=Kd.mono_iso _ (Kd.mono_pair (Kd.mono_const _) (Kd.mono_pair (Kd.mono_const _) (Kd.mono_slice 32 Kd.mono_id)))
theorem sub32:Kd.Sub F32 [3,32]:=Kd.sub_iso _ (Kd.sub_pair (Kd.sub_const _ (by decide)) (Kd.sub_pair (Kd.sub_const _ (by decide)) (Kd.sub_slice 32 (by decide) Kd.sub_id)))
theorem sz32:∀ n,(Kd.upto F32 3 [3,32] n).sz=3:=Kd.upto_sz (fun _=>rfl)
def k32:Kd S32:=Kd.fix F32 3 [3,32] sz32 (Kd.upto_E sub32)
theorem k32_open {w:World} {x:S32} {cs:List Value} (h:k32.K w x cs):∃ A1 c1 A2 c2,cs=[.int .i64 x.f0,.slice A1 x.f1.length c1,.slice A2 x.f2.length c2]∧x.f1.length≤c1∧(Kd.int .i64).C w A1 x.f1.length x.f1∧x.f2.length≤c2∧k32.C w A2 x.f2.length x.f2:=by
 obtain ⟨n,h⟩:=h
 cases n with
 | zero=>exact h.elim
 | succ n =>
  obtain ⟨_,_,rfl,rfl,⟨_,_,rfl,⟨A1,c1,rfl,l1,g1⟩,⟨A2,c2,rfl,l2,g2⟩⟩⟩:=h
  exact ⟨A1,c1,A2,c2,rfl,l1,g1,l2,Kd.fix_C g2⟩
theorem k32_openM {w:World} {base:Nat} {ok:Nat→Prop} {x:S32} {cs:List Value} (h:k32.M w base ok x cs):∃ v1 v2,cs=[.int .i64 x.f0,v1,v2]∧(Kd.int .i64).R 3 w base ok v1 x.f1∧k32.R 32 w base ok v2 x.f2:=by
 obtain ⟨n,h⟩:=h
 cases n with
 | zero=>exact h.elim
 | succ n =>
  obtain ⟨_,_,rfl,rfl,⟨_,_,rfl,⟨v1,rfl,g1⟩,⟨v2,rfl,g2⟩⟩⟩:=h
  exact ⟨v1,v2,rfl,g1,Kd.fix_R g2⟩
theorem k32_mkM (w:World) (base:Nat) (ok:Nat→Prop) (x:S32) {v1:Value} (g1:(Kd.int .i64).R 3 w base ok v1 x.f1) {v2:Value} (g2:k32.R 32 w base ok v2 x.f2):k32.M w base ok x [.int .i64 x.f0,v1,v2]:=by
 obtain ⟨n2,q2⟩:=Kd.fix_R_back mono32 g2
 have r2:=Kd.upto_R_le mono32 sz32 (show n2≤n2 by omega) q2
 exact ⟨n2+1,⟨[.int .i64 x.f0],[v1,v2],rfl,rfl,⟨[v1],[v2],rfl,⟨v1,rfl,g1⟩,⟨v2,rfl,r2⟩⟩⟩⟩
def rd_T32 (xs:List S32) (i:Int):S32:=xs.getD i.toNat z32
theorem at_T32 {w:World} {A:Option Addr} {n:Nat} {xs:List S32} (h:Kd.C k32 w A n xs) (i:Int) (h0:0≤i) (h1:i < n):∃ ad A1 c1 A2 c2,A=some ad∧w.cell? (ad.add (i.toNat * 3))=some (.int .i64 (rd_T32 xs i).f0)∧w.cell? ⟨(ad.add (i.toNat * 3)).block,(ad.add (i.toNat * 3)).off+1,none⟩=some (.slice A1 (rd_T32 xs i).f1.length c1)∧w.cell? ⟨(ad.add (i.toNat * 3)).block,(ad.add (i.toNat * 3)).off+2,none⟩=some (.slice A2 (rd_T32 xs i).f2.length c2)∧(rd_T32 xs i).f1.length≤c1∧(Kd.int .i64).C w A1 (rd_T32 xs i).f1.length (rd_T32 xs i).f1∧(rd_T32 xs i).f2.length≤c2∧k32.C w A2 (rd_T32 xs i).f2.length (rd_T32 xs i).f2:=by
 obtain ⟨ad,c,e,_,hK,hc0⟩:=Kd.C_get h z32 i h0 h1
 have hc:∀ j u,c[j]?=some u→w.cell? (ad.add (i.toNat * 3+j))=some u:=hc0
 obtain ⟨A1,c1,A2,c2,rfl,l1,g1,l2,g2⟩:=k32_open hK
 exact ⟨ad,A1,c1,A2,c2,e,hc 0 _ rfl,by rw [← add_field _ _ 1 (by omega)];exact hc 1 _ rfl,by rw [← add_field _ _ 2 (by omega)];exact hc 2 _ rfl,l1,g1,l2,g2⟩
structure S34 where
 f0:Bool
 f1:S32
def z34:S34:=⟨false,z32⟩
def k34:Kd S34:=Kd.iso (Kd.pair Kd.bool k32) (fun x:S34=>(x.f0,x.f1))
theorem k34_open {w:World} {x:S34} {cs:List Value} (h:k34.K w x cs):∃ A2 c2 A3 c3,cs=[.bool x.f0,.int .i64 x.f1.f0,.slice A2 x.f1.f1.length c2,.slice A3 x.f1.f2.length c3]∧x.f1.f1.length≤c2∧(Kd.int .i64).C w A2 x.f1.f1.length x.f1.f1∧x.f1.f2.length≤c3∧k32.C w A3 x.f1.f2.length x.f1.f2:=by
 obtain ⟨_,_,rfl,rfl,s1⟩:=h
 obtain ⟨A2,c2,A3,c3,rfl,l2,g2,l3,g3⟩:=k32_open s1
 exact ⟨A2,c2,A3,c3,rfl,l2,g2,l3,g3⟩
theorem k34_mkM (w:World) (base:Nat) (ok:Nat→Prop) (x:S34) {v2:Value} (g2:(Kd.int .i64).R 3 w base ok v2 x.f1.f1) {v3:Value} (g3:k32.R 32 w base ok v3 x.f1.f2):k34.M w base ok x [.bool x.f0,.int .i64 x.f1.f0,v2,v3]:=⟨[.bool x.f0],[.int .i64 x.f1.f0,v2,v3],rfl,rfl,(k32_mkM w base ok x.f1 g2 g3)⟩
def rd_T34 (xs:List S34) (i:Int):S34:=xs.getD i.toNat z34
theorem at_T34 {w:World} {A:Option Addr} {n:Nat} {xs:List S34} (h:Kd.C k34 w A n xs) (i:Int) (h0:0≤i) (h1:i < n):∃ ad A2 c2 A3 c3,A=some ad∧w.cell? (ad.add (i.toNat * 4))=some (.bool (rd_T34 xs i).f0)∧w.cell? ⟨(ad.add (i.toNat * 4)).block,(ad.add (i.toNat * 4)).off+1,none⟩=some (.int .i64 (rd_T34 xs i).f1.f0)∧w.cell? ⟨(ad.add (i.toNat * 4)).block,(ad.add (i.toNat * 4)).off+2,none⟩=some (.slice A2 (rd_T34 xs i).f1.f1.length c2)∧w.cell? ⟨(ad.add (i.toNat * 4)).block,(ad.add (i.toNat * 4)).off+3,none⟩=some (.slice A3 (rd_T34 xs i).f1.f2.length c3)∧(rd_T34 xs i).f1.f1.length≤c2∧(Kd.int .i64).C w A2 (rd_T34 xs i).f1.f1.length (rd_T34 xs i).f1.f1∧(rd_T34 xs i).f1.f2.length≤c3∧k32.C w A3 (rd_T34 xs i).f1.f2.length (rd_T34 xs i).f1.f2:=by
 obtain ⟨ad,c,e,_,hK,hc0⟩:=Kd.C_get h z34 i h0 h1
 have hc:∀ j u,c[j]?=some u→w.cell? (ad.add (i.toNat * 4+j))=some u:=hc0
 obtain ⟨A2,c2,A3,c3,rfl,l2,g2,l3,g3⟩:=k34_open hK
 exact ⟨ad,A2,c2,A3,c3,e,hc 0 _ rfl,by rw [← add_field _ _ 1 (by omega)];exact hc 1 _ rfl,by rw [← add_field _ _ 2 (by omega)];exact hc 2 _ rfl,by rw [← add_field _ _ 3 (by omega)];exact hc 3 _ rfl,l2,g2,l3,g3⟩
structure S27 where
 f0:(List S34)
def IsS71 (w0 W:World) (g:Nat) (f0:List Int) (f1:Int):Prop:=∃ A0 c0,W.heap[g]?=some (.cells #[.slice A0 f0.length c0,.int .i64 f1] 71 (0,0))∧w0.heap.size≤g∧Kd.C (Kd.int .i64) w0 A0 f0.length f0
theorem IsS71.grown {w0 W:World} {g:Nat} {f0:List Int} {f1:Int} {W1:World} {row:Option Nat} (h:IsS71 w0 W g f0 f1) (hw:W.grownBy W1 row) (hne:some g ≠ row):IsS71 w0 W1 g f0 f1:=by
 obtain ⟨A0,c0,hb,hg,hr0⟩:=h
 exact ⟨A0,c0,blk_grown hb hw hne,hg,hr0⟩
theorem IsS71.kept {w0 W:World} {g:Nat} {f0:List Int} {f1:Int} {W1:World} {S:Nat→Prop} (h:IsS71 w0 W g f0 f1) (hk:Kept W W1 S) (hne:¬ S g):IsS71 w0 W1 g f0 f1:=by
 obtain ⟨A0,c0,hb,hg,hr0⟩:=h
 exact ⟨A0,c0,blk_kept hb hk hne,hg,hr0⟩
theorem IsS71.below {w0 W:World} {g:Nat} {f0:List Int} {f1:Int} {W1:World} (h:IsS71 w0 W g f0 f1) (hw:Below W.heap.size W W1):IsS71 w0 W1 g f0 f1:=h.grown (grown_of_below hw none) (by simp)
theorem IsS71.alloc {w0 W:World} {g:Nat} {f0:List Int} {f1:Int} (h:IsS71 w0 W g f0 f1) (o:Obj):IsS71 w0 (W.alloc o) g f0 f1:=h.below (wA (Below.refl _ _) o)
theorem IsS71.drewN {w0 W:World} {g:Nat} {f0:List Int} {f1:Int} (h:IsS71 w0 W g f0 f1) (m:Nat):IsS71 w0 (W.drewN m) g f0 f1:=h
theorem IsS71.drew {w0 W:World} {g:Nat} {f0:List Int} {f1:Int} (h:IsS71 w0 W g f0 f1):IsS71 w0 W.drew g f0 f1:=h
theorem IsS71.at_ {w0 W:World} {g:Nat} {f0:List Int} {f1:Int} {w':World} {m:Nat} (hq:W.drewN m=w') (h:IsS71 w0 W g f0 f1):IsS71 w0 w' g f0 f1:=by subst hq;exact IsS71.drewN h m
theorem IsS71.apart {w0 W:World} {g:Nat} {f0:List Int} {f1:Int} {α:Type} {d:Kd α} {e:Nat} {base:Nat} {ok:Nat→Prop} {v:Value} {xs:List α} (h:IsS71 w0 W g f0 f1) (ho:d.R e W base ok v xs) (ht:∀ q,q∈e :: d.E→q ≠ 71):d.R e W base (fun k=>ok k∧k ≠ g) v xs:=by
 obtain ⟨A0,c0,hb,hg,hr0⟩:=h
 exact Kd.R_types ho hb ht
theorem IsS71.own_ne {w0 W:World} {g:Nat} {f0:List Int} {f1:Int} {α:Type} {d:Kd α} {e:Nat} {base:Nat} {ok:Nat→Prop} {v:Value} {xs:List α} (h:IsS71 w0 W g f0 f1) (ho:d.R e W base ok v xs) (ht:e ≠ 71):some g ≠ v.ownBlock:=by
 obtain ⟨A0,c0,hb,hg,hr0⟩:=h
 exact Kd.R_ne ho hb ht
theorem IsS71.lt {w0 W:World} {g:Nat} {f0:List Int} {f1:Int} (h:IsS71 w0 W g f0 f1):g < W.heap.size:=by
 obtain ⟨A0,c0,hb,hg,hr0⟩:=h
 exact blk_lt hb
theorem IsS71.ge {w0 W:World} {g:Nat} {f0:List Int} {f1:Int} (h:IsS71 w0 W g f0 f1):w0.heap.size≤g:=by
 obtain ⟨A0,c0,hb,hg,hr0⟩:=h
 exact hg
theorem IsS71.far {w0 W:World} {g:Nat} {f0:List Int} {f1:Int} {p:Addr} (h:IsS71 w0 W g f0 f1) (hne:g ≠ p.block) (u:Value):IsS71 w0 (W.setCell p u) g f0 f1:=by
 obtain ⟨A0,c0,hb,hg,hr0⟩:=h
 exact ⟨A0,c0,blk_far hb hne u,hg,hr0⟩
theorem cellS71_0 {W:World} {g:Nat} {A0:Option Addr} {c0:Nat} {f0:List Int} {f1:Int} (h:W.heap[g]?=some (.cells #[.slice A0 f0.length c0,.int .i64 f1] 71 (0,0))):W.cell? ⟨g,0,none⟩=some (.slice A0 f0.length c0):=(kC h 0).trans rfl
theorem cellS71_1 {W:World} {g:Nat} {A0:Option Addr} {c0:Nat} {f0:List Int} {f1:Int} (h:W.heap[g]?=some (.cells #[.slice A0 f0.length c0,.int .i64 f1] 71 (0,0))):W.cell? ⟨g,1,none⟩=some (.int .i64 f1):=(kC h 1).trans rfl
theorem IsS71.set_1 {w0 W:World} {g:Nat} {f0:List Int} {f1:Int} (h:IsS71 w0 W g f0 f1) (x:Int):IsS71 w0 (W.setCell ⟨g,1,none⟩ (.int .i64 x)) g f0 x:=by
 obtain ⟨A0,c0,hb,hg,hr0⟩:=h
 exact ⟨A0,c0,by simpa using blk_set hb 1 (.int .i64 x),hg,hr0⟩
def trustquorummake_New.f (l0:List Int):Option (List Int × Int):=if 0≤(mn (l0.length:Int) 400) then (if (mn (l0.length:Int) 400)≤(l0.length:Int) then (some (l0.take ((mn (l0.length:Int) 400):Int).toNat,0)) else (none)) else (none)
set_option maxHeartbeats 8000000 in
set_option maxRecDepth 100000 in
theorem trustquorummake_New.calls (A0:Option Addr) (c0:Nat) (l0:List Int) (r1:List Int) (r2:Int) (w0 w:World) (hB:Below w0.heap.size w0 w) (hr0:Kd.C (Kd.int .i64) w0 A0 l0.length l0) (hc0:l0.length≤c0) (h:trustquorummake_New.f l0=some (r1,r2)) :
  Calls Try.prog 14 #[.slice A0 l0.length c0] w fun e w'=>∃ g_:Nat,e=.returned (.pointer (some ⟨g_,0,none⟩))∧IsS71 w0 w' g_ r1 r2∧Below w0.heap.size w0 w'∧Below w.heap.size w w':=by
 have hu71:=Try.underlying71
 have HR0:=Aside0.mk hr0
 have HC0:=Aside0.mk hc0
 clear hr0 hc0
 have HBW:=Aside0.mk (Below.refl w.heap.size w)
 have HW0:=Aside0.mk hB.size
 have HB:=Aside0.mk hB
 clear hB
 have H:(if 0≤(mn (l0.length:Int) 400) then (if (mn (l0.length:Int) 400)≤(l0.length:Int) then (some (l0.take ((mn (l0.length:Int) 400):Int).toNat,0)) else (none)) else (none))=some (r1,r2):=h
 clear h
 obtain ⟨ji2,hji2⟩:∃ j_:Int,(mn (l0.length:Int) 400)=j_:=⟨_,rfl⟩
 replace H:(if 0≤(ji2) then (if (ji2)≤(l0.length:Int) then (some (l0.take ((ji2):Int).toNat,0)) else (none)) else (none))=some (r1,r2):=by first|(rw [hji2] at H;exact H)|(simp only [hji2] at H ⊢;exact H)
 (try (have hji2h:ji2≤400:=by (rw [← hji2];unfold mn;(repeat' split) <;> omega)))
 (try (have hji2g:ji2≤64:=by omega))
 (try (have hji2l:0≤ji2:=by (rw [← hji2];unfold mn;(repeat' split) <;> omega)))
 (try (have hji2m:0≤ji2:=by omega))
 have hji2_:(if 400 < (l0.length:Int) then 400 else (l0.length:Int))=ji2:=hji2
 by_cases c3:0≤(ji2)
 ·rw [if_pos c3] at H
  have c3b0:=eq_true c3
  have c3b1:decide (0≤(ji2))=true:=decide_eq_true c3
  clear c3
  by_cases c4:(ji2)≤(l0.length:Int)
  ·rw [if_pos c4] at H
   have c4b0:=eq_true c4
   have c4b1:decide ((ji2)≤(l0.length:Int))=true:=decide_eq_true c4
   clear c4
   simp only [Option.some.injEq,Prod.mk.injEq] at H
   obtain ⟨rfl,rfl⟩:=H
   obtain ⟨i05,hi05,_,hsz5,_⟩:=info_parts info3
   obtain ⟨hcut5,hA5,hC5⟩:=print_take_of (P:=Try.prog) (Value.int .i64) 0 22 3 .i64 Try.underlying22 hi05 hsz5 A0 c0 l0 (ji2) (of_decide_eq_true (by first|(with_reducible assumption)|assumption)) (of_decide_eq_true (by first|(with_reducible assumption)|assumption)) HC0.out
   have HR101:=Aside0.mk (Kd.C_of_reads (h1:=fun _=>rfl) (hA5 _ (Kd.reads_of_C HR0.out)))
   have HC101:=Aside0.mk hC5
   clear hA5 hC5 hi05 hsz5
   go_enter Try.func14,Try.ntmps14
   go_wp2_with (first|((with_reducible refine gate_dst (N:=9) rfl ?_);refine box_event ?hg (N:=9) ?hd (cs:=#[.slice A0 (l0.take ((ji2):Int).toNat).length c0,.int .i64 0]) (t:=71) ?hr ?_;(case hd=>rfl);(case hg=>rfl);(case hr=>first|(go_simp;done)|(go_simp;rfl));intro gb102 hg w6 hbox hb;have n0_:=Aside0.mk (below_step HBW.out hb);have n1_:=Aside0.mk (below_step (by repeat (first|(with_reducible first|exact HB.out|apply wA|apply wN|apply wD)|exact HB.out)) hb);have n2_:=Aside0.mk (hbox);have n3_:=Aside0.mk ((by rw [hg];exact (below_size (by repeat (first|(with_reducible first|exact HBW.out|apply wA|apply wN|apply wD)|exact HBW.out))):w.heap.size≤gb102));have n4_:=Aside0.mk ((Nat.le_trans HW0.out (by rw [hg];exact (below_size (by repeat (first|(with_reducible first|exact HBW.out|apply wA|apply wN|apply wD)|exact HBW.out))):w.heap.size≤gb102):w0.heap.size≤gb102));clear HBW;clear HB;have HBW:=n0_;have HB:=n1_;have BK102:=n2_;have GW102:=n3_;have GE102:=n4_;clear n0_ n1_ n2_ n3_ n4_;clear hb hbox hg))
   go_ret
   exact ⟨_,rfl,(show IsS71 w0 _ gb102 (l0.take ((ji2):Int).toNat) 0 from ⟨_,_,by (with_reducible repeat (first|refine kN ?_ _|refine kD ?_|refine kA ?_ _));exact BK102.out,GE102.out,HR101.out⟩),by repeat (first|(with_reducible first|exact HB.out|apply wA|apply wN|apply wD|refine wS ?_ GE102.out)|exact HB.out),by repeat (first|(with_reducible first|exact HBW.out|apply wA|apply wN|apply wD|refine wS ?_ GW102.out)|exact HBW.out)⟩
  ·rw [if_neg c4] at H
   exact absurd H (by simp)
 ·rw [if_neg c3] at H
  exact absurd H (by simp)
end Go.Proofs.Ytkjlcbfjllpcnaa.X
namespace Go.Proofs.Ytkjlcbfjllpcnaa.X
open Go.RowKit Go.Proofs.YtkjlcbfjllpcnaaW.PrintWords Go.Proofs.YtkjlcbfjllpcnaaW.PrintLast Go.Proofs.YtkjlcbfjllpcnaaW.PrintMore
set_option linter.unusedVariables false
theorem Z {p:Prop} (h:p):Aside0 p:=⟨h⟩
theorem pB {P:Prop} (h:P:=by repeat (first|(with_reducible first|exact HB.out|apply wA|apply wN|apply wD|refine wS (w:=w0) ?_ (Aside0.out (by assumption))|refine wS (w:=w) ?_ (Aside0.out (by assumption))|refine wS ?_ (IsS71.ge HI0.out))|exact HB.out)):P:=h
theorem pI {P:Prop} (h:P:=by repeat (first|(with_reducible first|exact HI0.out|apply IsS71.alloc|apply IsS71.drewN|apply IsS71.drew|apply IsS71.set_1|refine IsS71.far ?_ (Aside0.out (by assumption)) _)|exact HI0.out)):P:=h
theorem pH {P:Prop} (h:P:=by repeat (first|(with_reducible first|exact HK.out|apply KeepBut.set_|apply keep_drewN|apply keep_drew|apply keep_alloc|refine eF (w:=w) ?_ (Aside0.out (by assumption)) _)|exact HK.out)):P:=h
theorem pR {P Q:Prop} (q:Aside0 Q) (h:Q→P:=by (intro h_;(with_reducible repeat (first|apply Kd.R_alloc|apply Kd.R_drewN|apply Kd.R_drew));exact h_)):P:=h q.out
theorem pK {P Q:Prop} (q:Aside0 Q) (h:Q→P:=by (intro h_;(with_reducible repeat (first|refine kN ?_ _|refine kD ?_|refine kA ?_ _));exact h_)):P:=h q.out
theorem pE {P:Prop} (h:P:=by first|rfl|(simp;done)|(simp [*];done)):P:=h
theorem pN {P:Prop} (h:P:=by first|exact Kd.R_nil _ _ _ _ _|exact Kd.N_nil _ _ _ _ _|exact Kd.V_nil _ _ _ _ _|exact Kd.Q_nil _ _ _ _ _|exact Kd.S_nil _ _ _ _ _):P:=h
theorem pF {P:Prop} (h:P:=by first|rfl|(simp [errW_none,errW_some] <;> rfl)|(simp [*,errW_none,errW_some] <;> rfl)):P:=h
theorem pG {P:Prop} (h:P:=by (try simp only [List.map_toArray,List.map_cons,List.map_nil]);first|done|rfl|(simp only [List.length_drop,List.length_take];rfl)):P:=h
theorem pC {α:Type} {d:Kd α} {w w1:World} {A:Option Addr} {n:Nat} {xs:List α} (q:Aside0 (d.C w A n xs)) (h:Below w.heap.size w w1:=by repeat (first|(with_reducible first|exact HB.out|apply wA|apply wN|apply wD|refine wS (w:=w0) ?_ (Aside0.out (by assumption))|refine wS (w:=w) ?_ (Aside0.out (by assumption))|refine wS ?_ (IsS71.ge HI0.out))|exact HB.out)):d.C w1 A n xs:=Kd.C_below q.out h
theorem pS {w W:World} {g gb:Nat} (hg:gb=W.heap.size) (h:KeepBut w W g none:=by repeat (first|(with_reducible first|exact HK.out|apply KeepBut.set_|apply keep_drewN|apply keep_drew|apply keep_alloc|refine eF (w:=w) ?_ (Aside0.out (by assumption)) _)|exact HK.out)):w.heap.size≤gb:=by rw [hg];exact keep_size h
theorem pT {w W:World} {gb:Nat} (hg:gb=W.heap.size) (h:Below w.heap.size w W:=by repeat (first|(with_reducible first|exact HB.out|apply wA|apply wN|apply wD|refine wS (w:=w0) ?_ (Aside0.out (by assumption))|refine wS (w:=w) ?_ (Aside0.out (by assumption))|refine wS ?_ (IsS71.ge HI0.out))|exact HB.out)):w.heap.size≤gb:=by rw [hg];exact below_size h
theorem pL {W:World} {g gb:Nat} {o:Obj} (hg:gb=W.heap.size) (h:W.heap[g]?=some o):g ≠ gb:=by rw [hg];exact Nat.ne_of_lt (blk_lt h)
theorem pM {W:World} {g gb:Nat} {o:Obj} (hg:gb=W.heap.size) (h:W.heap[g]?=some o):gb ≠ g:=by rw [hg];exact Nat.ne_of_gt (blk_lt h)
theorem pL71 {w0 W:World} {g gb:Nat} {f0:List Int} {f1:Int} (hg:gb=W.heap.size) (h:IsS71 w0 W g f0 f1):g ≠ gb:=by rw [hg];exact Nat.ne_of_lt (IsS71.lt h)
theorem pM71 {w0 W:World} {g gb:Nat} {f0:List Int} {f1:Int} (hg:gb=W.heap.size) (h:IsS71 w0 W g f0 f1):gb ≠ g:=by rw [hg];exact Nat.ne_of_gt (IsS71.lt h)
end Go.Proofs.Ytkjlcbfjllpcnaa.X
namespace Go.Proofs.Ytkjlcbfjllpcnaa.X
open Go.RowKit Go.Proofs.YtkjlcbfjllpcnaaW.PrintWords Go.Proofs.YtkjlcbfjllpcnaaW.PrintLast Go.Proofs.YtkjlcbfjllpcnaaW.PrintMore
attribute [local go_sem] max2_int min2_int max_two min_two max_three min_three max_four min_four
set_option linter.unusedVariables false
set_option linter.unusedSimpArgs false
def trustquorummake_Tape_N.f (s0_0:List Int) (s0_1:Int) (a1:Int):Option (Int × Int):=if s0_1 ≥ (s0_0.length:Int) then (some (0,s0_1)) else (if 0≤s0_1 then (if s0_1 < (s0_0.length:Int) then (if a1=0 then (none) else (if (Int.tmod (rd s0_0 s0_1) a1) < 0 then (some (wrap64 ((Int.tmod (rd s0_0 s0_1) a1)+a1),wrap64 (s0_1+1))) else (some (Int.tmod (rd s0_0 s0_1) a1,wrap64 (s0_1+1))))) else (none)) else (none))
set_option maxHeartbeats 8000000 in
set_option maxRecDepth 100000 in
theorem trustquorummake_Tape_N.calls (g:Nat) (s0_0:List Int) (s0_1:Int) (a1:Int) (r1:Int) (r2:Int) (w0 w:World) (hI:IsS71 w0 w g s0_0 s0_1) (hB:Below w0.heap.size w0 w) (h:trustquorummake_Tape_N.f s0_0 s0_1 a1=some (r1,r2)) :
  Calls Try.prog 16 #[.pointer (some ⟨g,0,none⟩),.int .i64 a1] w fun e w'=>e=.returned (.int .i64 r1)∧IsS71 w0 w' g s0_0 r2∧Below w0.heap.size w0 w'∧KeepBut w w' g none:=by
 have HI0:=Z hI
 have HK:=Z (KeepBut.refl w g none)
 have HL:=Z hB.size
 clear hI
 have HW0:=Z hB.size
 have HB:=Z hB
 clear hB
 have H:(if s0_1 ≥ (s0_0.length:Int) then (some (0,s0_1)) else (if 0≤s0_1 then (if s0_1 < (s0_0.length:Int) then (if a1=0 then (none) else (if (Int.tmod (rd s0_0 s0_1) a1) < 0 then (some (wrap64 ((Int.tmod (rd s0_0 s0_1) a1)+a1),wrap64 (s0_1+1))) else (some (Int.tmod (rd s0_0 s0_1) a1,wrap64 (s0_1+1))))) else (none)) else (none)))=some (r1,r2):=h
 clear h
 by_cases c3:s0_1 ≥ (s0_0.length:Int)
 ·rw [if_pos c3] at H
  have c3b0:decide ((s0_0.length:Int)≤s0_1)=true:=decide_eq_true c3
  clear c3
  simp only [Option.some.injEq,Prod.mk.injEq] at H
  obtain ⟨rfl,rfl⟩:=H
  obtain ⟨ASz4_0,cSz4_0,HGz4,hgz4,HSz4_0⟩:=HI0.out
  have hcz4_0:=cellS71_0 HGz4
  have hcz4_1:=cellS71_1 HGz4
  have hfz4_1:=kF HGz4 1
  clear HGz4 hgz4
  go_enter Try.func16,Try.ntmps16
  go_wp2
  repeat (go_quiet (fail);try go_wp2)
  go_ret
  exact ⟨pF,pI,pB,pH⟩
 ·rw [if_neg c3] at H
  have c3b0:decide ((s0_0.length:Int)≤s0_1)=false:=decide_eq_false c3
  clear c3
  by_cases c5:0≤s0_1
  ·rw [if_pos c5] at H
   have c5b0:decide (0≤s0_1)=true:=decide_eq_true c5
   clear c5
   by_cases c6:s0_1 < (s0_0.length:Int)
   ·rw [if_pos c6] at H
    have c6b0:decide (s0_1 < (s0_0.length:Int))=true:=decide_eq_true c6
    clear c6
    by_cases c7:a1=0
    ·rw [if_pos c7] at H
     exact absurd H (by simp)
    ·rw [if_neg c7] at H
     have c7b0:(a1 == 0)=false:=beq_eq_false_iff_ne.mpr c7
     have c7b1:(a1 != 0)=true:=bne_iff_ne.mpr c7
     by_cases c8:(Int.tmod (rd s0_0 s0_1) a1) < 0
     ·rw [if_pos c8] at H
      have c8b0:decide ((Int.tmod (rd s0_0 s0_1) a1) < 0)=true:=decide_eq_true c8
      clear c8
      simp only [Option.some.injEq,Prod.mk.injEq] at H
      obtain ⟨rfl,rfl⟩:=H
      obtain ⟨ASz9_0,cSz9_0,HGz9,hgz9,HSz9_0⟩:=HI0.out
      have hcz9_0:=cellS71_0 HGz9
      have hcz9_1:=cellS71_1 HGz9
      have hfz9_1:=kF HGz9 1
      clear HGz9 hgz9
      have p103:0≤(s0_1:Int):=of_decide_eq_true (by first|(with_reducible assumption)|assumption)
      have q103:s0_1 < (s0_0.length:Int):=of_decide_eq_true (by first|(with_reducible assumption)|assumption)
      obtain ⟨ad103,e103,hx103_0⟩:=Kd.at_int HSz9_0 s0_1 p103 q103
      cases e103
      replace hx103_0:=pw_cell_below HB.out hx103_0
      replace p103:=eq_true p103
      replace q103:=eq_true q103
      go_enter Try.func16,Try.ntmps16
      go_wp2
      repeat (go_quiet (fail);try go_wp2)
      go_ret
      exact ⟨pF,pI,pB,pH⟩
     ·rw [if_neg c8] at H
      have c8b0:decide ((Int.tmod (rd s0_0 s0_1) a1) < 0)=false:=decide_eq_false c8
      clear c8
      simp only [Option.some.injEq,Prod.mk.injEq] at H
      obtain ⟨rfl,rfl⟩:=H
      obtain ⟨ASz10_0,cSz10_0,HGz10,hgz10,HSz10_0⟩:=HI0.out
      have hcz10_0:=cellS71_0 HGz10
      have hcz10_1:=cellS71_1 HGz10
      have hfz10_1:=kF HGz10 1
      clear HGz10 hgz10
      have p103:0≤(s0_1:Int):=of_decide_eq_true (by first|(with_reducible assumption)|assumption)
      have q103:s0_1 < (s0_0.length:Int):=of_decide_eq_true (by first|(with_reducible assumption)|assumption)
      obtain ⟨ad103,e103,hx103_0⟩:=Kd.at_int HSz10_0 s0_1 p103 q103
      cases e103
      replace hx103_0:=pw_cell_below HB.out hx103_0
      replace p103:=eq_true p103
      replace q103:=eq_true q103
      go_enter Try.func16,Try.ntmps16
      go_wp2
      repeat (go_quiet (fail);try go_wp2)
      go_ret
      exact ⟨pF,pI,pB,pH⟩
   ·rw [if_neg c6] at H
    exact absurd H (by simp)
  ·rw [if_neg c5] at H
   exact absurd H (by simp)
def trustquorummake_Tape_Range.f (s0_0:List Int) (s0_1:Int) (a1:Int) (a2:Int):Option (Int × Int):=(trustquorummake_Tape_N.f s0_0 s0_1 (wrap64 ((wrap64 (a2 - a1))+1))).bind fun bt104=>(some (wrap64 (a1+bt104.1),bt104.2))
set_option maxHeartbeats 8000000 in
set_option maxRecDepth 100000 in
theorem trustquorummake_Tape_Range.calls (g:Nat) (s0_0:List Int) (s0_1:Int) (a1:Int) (a2:Int) (r1:Int) (r2:Int) (w0 w:World) (hI:IsS71 w0 w g s0_0 s0_1) (hB:Below w0.heap.size w0 w) (h:trustquorummake_Tape_Range.f s0_0 s0_1 a1 a2=some (r1,r2)) :
  Calls Try.prog 44 #[.pointer (some ⟨g,0,none⟩),.int .i64 a1,.int .i64 a2] w fun e w'=>e=.returned (.int .i64 r1)∧IsS71 w0 w' g s0_0 r2∧Below w0.heap.size w0 w'∧KeepBut w w' g none:=by
 have HI0:=Z hI
 have HK:=Z (KeepBut.refl w g none)
 have HL:=Z hB.size
 clear hI
 have HW0:=Z hB.size
 have HB:=Z hB
 clear hB
 have H:((trustquorummake_Tape_N.f s0_0 s0_1 (wrap64 ((wrap64 (a2 - a1))+1))).bind fun bt104=>(some (wrap64 (a1+bt104.1),bt104.2)))=some (r1,r2):=h
 clear h
 replace H:=Option.bind_eq_some_iff.mp H
 obtain ⟨⟨t104,t105⟩,A40,H⟩:=H
 try dsimp only at H
 have A4:=Z A40
 clear A40
 simp only [Option.some.injEq,Prod.mk.injEq] at H
 obtain ⟨rfl,rfl⟩:=H
 go_enter Try.func44,Try.ntmps44
 go_wp2_with (first|((with_reducible refine gate_callee (f:=16) rfl ?_);refine goesL_ (some 13) rfl rfl Try.func16 (by kernel_rfl) rfl #[.pointer (some ⟨g,0,none⟩),.int .i64 (wrap64 ((wrap64 (a2 - a1))+1))] rfl pG ?_;(with_reducible refine (trustquorummake_Tape_N.calls g s0_0 s0_1 (wrap64 ((wrap64 (a2 - a1))+1)) t104 t105 w0 _ ?side1 ?side2 A4.out).mono ?_);(case side1=>exact pI);(case side2=>exact pB);rintro e w5 ⟨rfl,hi,hb,hk⟩;refine ⟨_,rfl,?_⟩;have n0_:=Z (KeepBut.trans pH hk (.inl rfl));have n1_:=Z (hb);have n2_:=Z (hi);clear HK;clear HB;clear HI0;have HK:=n0_;have HB:=n1_;have HI0:=n2_;clear n0_ n1_ n2_;(try clear hb);(try clear hb2);(try clear hk);(try clear hi)))
 go_ret
 exact ⟨pF,pI,pB,pH⟩
mutual
def trustquorumref02_Depth.l0:Nat→Int→List (S32)→Int→Int→Option (Int)
 | 0,_,_,_,_=>none
 | k+1,x3,x7,x8,x9=>if x9 < x8 then (if 0≤x9 then (if x9 < (x7.length:Int) then ((trustquorumref02_Depth.f k ((rd_T32 x7 x9).f0) ((rd_T32 x7 x9).f1) ((rd_T32 x7 x9).f2)).bind fun t109=>(trustquorumref02_Depth.l0 k (mx x3 t109) x7 x8 (wrap64 (x9+1)))) else (none)) else (none)) else (some (wrap64 (x3+1)))
def trustquorumref02_Depth.f:Nat→Int→List Int→List (S32)→Option (Int)
 | 0,_,_,_=>none
 | k+1,a0_0,l0_1,l0_2=>trustquorumref02_Depth.l0 k 0 l0_2 (l0_2.length:Int) 0
end
set_option maxHeartbeats 8000000 in
set_option maxRecDepth 100000 in
theorem trustquorumref02_Depth.calls (k:Nat):∀ (a0_0:Int) (A0_1:Option Addr) (c0_1:Nat) (l0_1:List Int) (A0_2:Option Addr) (c0_2:Nat) (l0_2:List (S32)) (r:Int) (w:World) (hr0_1:Kd.C (Kd.int .i64) w A0_1 l0_1.length l0_1) (hc0_1:l0_1.length≤c0_1) (hr0_2:Kd.C k32 w A0_2 l0_2.length l0_2) (hc0_2:l0_2.length≤c0_2) (h:trustquorumref02_Depth.f k a0_0 l0_1 l0_2=some r),
  Calls Try.prog 86 #[.agg #[.int .i64 a0_0,.slice A0_1 l0_1.length c0_1,.slice A0_2 l0_2.length c0_2]] w fun e w'=>e=.returned (.int .i64 r)∧Below w.heap.size w w':=by
 induction k using Nat.strongRecOn with
 | _ k ih =>
 intro a0_0 A0_1 c0_1 l0_1 A0_2 c0_2 l0_2 r w hr0_1 hc0_1 hr0_2 hc0_2 h
 cases k with
 | zero=>exact absurd h (by simp [trustquorumref02_Depth.f])
 | succ k =>
 simp only [trustquorumref02_Depth.f] at h
 have hu32:=Try.underlying32
 have HR0_1:=Z hr0_1
 have HC0_1:=Z hc0_1
 clear hr0_1 hc0_1
 have HR0_2:=Z hr0_2
 have HC0_2:=Z hc0_2
 clear hr0_2 hc0_2
 have HB:=Z (Below.refl w.heap.size w)
 have H:(trustquorumref02_Depth.l0 k 0 l0_2 (l0_2.length:Int) 0)=some r:=h
 clear h
 have H':=Z H
 clear H
 go_enter Try.func86,Try.ntmps86
 go_wp2_with (first|((with_reducible refine gate_dst (N:=1) rfl ?_);refine box_event ?hg (N:=1) ?hd (cs:=#[.int .i64 a0_0,.slice A0_1 l0_1.length c0_1,.slice A0_2 l0_2.length c0_2]) (t:=32) ?hr ?_;(case hd=>rfl);(case hg=>rfl);(case hr=>first|(go_simp;done)|(go_simp;rfl));intro gb106 hg w2 hbox hb;have n0_:=Z (below_step pB hb);have n1_:=Z (hbox);have n2_:=Z ((pT hg:w.heap.size≤gb106));have n3_:=Z ((pT hg:w.heap.size≤gb106));clear HB;have HB:=n0_;have BK106:=n1_;have GW106:=n2_;have GE106:=n3_;clear n0_ n1_ n2_ n3_;clear hb hbox hg;have hcz3_0:w2.cell? ⟨gb106,0,none⟩=some (.int .i64 a0_0):=(kC BK106.out 0).trans rfl;have hcz3_1:w2.cell? ⟨gb106,1,none⟩=some (.slice A0_1 l0_1.length c0_1):=(kC BK106.out 1).trans rfl;have hcz3_2:w2.cell? ⟨gb106,2,none⟩=some (.slice A0_2 l0_2.length c0_2):=(kC BK106.out 2).trans rfl;have hfz3_0:=kF BK106.out 0;have hfz3_1:=kF BK106.out 1;have hfz3_2:=kF BK106.out 2))
 go_loopg [3,9] k (fun kq v3 v9 w'=>∃ (x3_1:Int) (x9_1:Int),v3=.int .i64 x3_1∧v9=.int .i64 x9_1∧Aside0 (trustquorumref02_Depth.l0 kq x3_1 l0_2 (l0_2.length:Int) x9_1=some r)∧Aside0 (kq≤k)∧Aside0 (w'.heap[gb106]?=some (.cells #[.int .i64 a0_0,(.slice A0_1 l0_1.length c0_1),(.slice A0_2 l0_2.length c0_2)] 32 (0,0)))∧Aside0 (Below w.heap.size w w'))
 case atStart=>exact ⟨(0),(0),pE,pE,H',⟨Nat.le_refl _⟩,⟨pK BK106⟩,⟨pB⟩⟩
 case round =>
  clear H'
  try clear p2
  try clear hcz3_0
  try clear hcz3_1
  try clear hcz3_2
  try clear hfz3_0
  try clear hfz3_1
  try clear hfz3_2
  obtain ⟨x3_1,x9_1,rfl,rfl,HA,HK1,BK106,HB⟩:=hrel
  cases gk with
  | zero=>exact absurd HA.out (by simp [trustquorumref02_Depth.l0])
  | succ k1 =>
   have H:=HA.out
   clear HA
   simp only [trustquorumref02_Depth.l0] at H
   by_cases c4:x9_1 < (l0_2.length:Int)
   ·rw [if_pos c4] at H
    have c4b0:decide (x9_1 < (l0_2.length:Int))=true:=decide_eq_true c4
    clear c4
    by_cases c5:0≤x9_1
    ·rw [if_pos c5] at H
     have c5b0:decide (0≤x9_1)=true:=decide_eq_true c5
     clear c5
     by_cases c6:x9_1 < (l0_2.length:Int)
     ·rw [if_pos c6] at H
      have c6b0:decide (x9_1 < (l0_2.length:Int))=true:=decide_eq_true c6
      clear c6
      replace H:=Option.bind_eq_some_iff.mp H
      obtain ⟨t109,A70,H⟩:=H
      try dsimp only at H
      have A7:=Z A70
      clear A70
      obtain ⟨ji8,hji8⟩:∃ j_:Int,(mx x3_1 t109)=j_:=⟨_,rfl⟩
      replace H:(trustquorumref02_Depth.l0 k1 ji8 l0_2 (l0_2.length:Int) (wrap64 (x9_1+1)))=some r:=by first|(rw [hji8] at H;exact H)|(simp only [hji8] at H ⊢;exact H)
      (try rw [hji8] at A7)
      have hji8_:(if x3_1 < t109 then t109 else x3_1)=ji8:=hji8
      have H':=Z H
      clear H
      have p107:0≤(x9_1:Int):=of_decide_eq_true (by first|(with_reducible assumption)|assumption)
      have q107:x9_1 < (l0_2.length:Int):=of_decide_eq_true (by first|(with_reducible assumption)|assumption)
      obtain ⟨ad107,A107_1,c107_1,A107_2,c107_2,e107,hx107_0,hx107_1,hx107_2,hl107_1,hi107_1,hl107_2,hi107_2⟩:=at_T32 HR0_2.out x9_1 p107 q107
      cases e107
      replace hx107_0:=(HB.out.cell (World.block_lt_of_cell? w _ hx107_0)).trans hx107_0
      replace hx107_1:=(HB.out.cell (World.block_lt_of_cell? w _ hx107_1)).trans hx107_1
      replace hx107_2:=(HB.out.cell (World.block_lt_of_cell? w _ hx107_2)).trans hx107_2
      have HR107_1:=Z hi107_1
      have HC107_1:=Z hl107_1
      clear hi107_1 hl107_1
      have HR107_2:=Z hi107_2
      have HC107_2:=Z hl107_2
      clear hi107_2 hl107_2
      replace p107:=eq_true p107
      replace q107:=eq_true q107
      go_wp2_with (first|((with_reducible refine gate_dst (N:=5) rfl ?_);refine box_event ?hg (N:=5) ?hd (cs:=#[.int .i64 0,.slice none 0 0,.slice none 0 0]) (t:=32) ?hr ?_;(case hd=>rfl);(case hg=>rfl);(case hr=>first|(go_simp;done)|(go_simp;rfl));intro gb108 hg w9 hbox hb;have n0_:=Z (blk_below (g:=gb106) (o:=.cells #[.int .i64 a0_0,.slice A0_1 l0_1.length c0_1,.slice (some ad107) l0_2.length c0_2] 32 (0,0)) (pK BK106) hb);have n1_:=Z (below_step pB hb);have n2_:=Z (hbox);have n3_:=Z ((pT hg:w.heap.size≤gb108));have n4_:=Z ((pT hg:w.heap.size≤gb108));have n5_:=Z ((pL hg (pK BK106):gb106 ≠ gb108));have n6_:=Z ((pM hg (pK BK106):gb108 ≠ gb106));clear BK106;clear HB;have BK106:=n0_;have HB:=n1_;have BK108:=n2_;have GW108:=n3_;have GE108:=n4_;have NB106_108:=n5_;have NB108_106:=n6_;clear n0_ n1_ n2_ n3_ n4_ n5_ n6_;clear hb hbox hg;have hnb10:=NB108_106.out;have hnc10:=NB106_108.out;have hcz11_0:w9.cell? ⟨gb108,0,none⟩=some (.int .i64 0):=(kC BK108.out 0).trans rfl;have hcz11_1:w9.cell? ⟨gb108,1,none⟩=some (.slice none 0 0):=(kC BK108.out 1).trans rfl;have hcz11_2:w9.cell? ⟨gb108,2,none⟩=some (.slice none 0 0):=(kC BK108.out 2).trans rfl;have hfz11_0:=kF BK108.out 0;have hfz11_1:=kF BK108.out 1;have hfz11_2:=kF BK108.out 2)|((with_reducible refine gate_callee (f:=86) rfl ?_);refine goesL_ (some 15) rfl rfl Try.func86 (by kernel_rfl) rfl #[.agg #[.int .i64 ((rd_T32 l0_2 x9_1).f0),.slice A107_1 ((rd_T32 l0_2 x9_1).f1).length c107_1,.slice A107_2 ((rd_T32 l0_2 x9_1).f2).length c107_2]] rfl pG ?_;(with_reducible refine (ih k1 (by have:=HK1.out;omega) ((rd_T32 l0_2 x9_1).f0) _ _ ((rd_T32 l0_2 x9_1).f1) _ _ ((rd_T32 l0_2 x9_1).f2) t109 _ ?side1 ?side2 ?side3 ?side4 A7.out).mono ?_);(case side1=>exact Kd.C_below HR107_1.out pB);(case side2=>exact HC107_1.out);(case side3=>exact Kd.C_below HR107_2.out pB);(case side4=>exact HC107_2.out);rintro e w12 ⟨rfl,hb⟩;refine ⟨_,rfl,?_⟩;have n0_:=Z (blk_below (g:=gb106) (o:=.cells #[.int .i64 a0_0,.slice A0_1 l0_1.length c0_1,.slice (some ad107) l0_2.length c0_2] 32 (0,0)) (by (with_reducible repeat (first|refine kN ?_ _|refine kD ?_|refine kA ?_ _));refine blk_far ?_ NB106_108.out _;(with_reducible repeat (first|refine kN ?_ _|refine kD ?_|refine kA ?_ _));refine blk_far ?_ NB106_108.out _;(with_reducible repeat (first|refine kN ?_ _|refine kD ?_|refine kA ?_ _));refine blk_far ?_ NB106_108.out _;(with_reducible repeat (first|refine kN ?_ _|refine kD ?_|refine kA ?_ _));exact BK106.out) hb);have n1_:=Z (blk_below (g:=gb108) (o:=.cells #[.int .i64 ((rd_T32 l0_2 x9_1).f0),.slice A107_1 ((rd_T32 l0_2 x9_1).f1).length c107_1,.slice A107_2 ((rd_T32 l0_2 x9_1).f2).length c107_2] 32 (0,0)) (by (with_reducible repeat (first|refine kN ?_ _|refine kD ?_|refine kA ?_ _));refine blk_put (cs:=#[.int .i64 ((rd_T32 l0_2 x9_1).f0),.slice A107_1 ((rd_T32 l0_2 x9_1).f1).length c107_1,.slice none 0 0]) ?_ 2 _ rfl;(with_reducible repeat (first|refine kN ?_ _|refine kD ?_|refine kA ?_ _));refine blk_put (cs:=#[.int .i64 ((rd_T32 l0_2 x9_1).f0),.slice none 0 0,.slice none 0 0]) ?_ 1 _ rfl;(with_reducible repeat (first|refine kN ?_ _|refine kD ?_|refine kA ?_ _));refine blk_put (cs:=#[.int .i64 0,.slice none 0 0,.slice none 0 0]) ?_ 0 _ rfl;(with_reducible repeat (first|refine kN ?_ _|refine kD ?_|refine kA ?_ _));exact BK108.out) hb);have n2_:=Z (below_step pB hb);clear BK106;clear BK108;clear HB;have BK106:=n0_;have BK108:=n1_;have HB:=n2_;clear n0_ n1_ n2_;(try clear hb);(try clear hb2);(try clear hk);(try clear hi)))
      go_roundg k1
      case measure=>have:=HK1.out;omega
      case rel=>exact ⟨(ji8),(wrap64 (x9_1+1)),(by first|exact pE|(simp only [← hji8] <;> (first|rfl|simp))),pE,H',⟨by have:=HK1.out;omega⟩,⟨pK BK106⟩,⟨pB⟩⟩
     ·rw [if_neg c6] at H
      exact absurd H (by simp)
    ·rw [if_neg c5] at H
     exact absurd H (by simp)
   ·rw [if_neg c4] at H
    have c4b0:decide (x9_1 < (l0_2.length:Int))=false:=decide_eq_false c4
    clear c4
    obtain rfl:=Option.some.inj H
    go_wp2
    go_ret
    exact ⟨pF,pB⟩
mutual
def trustquorumref02_Size.l0:Nat→Int→List (S32)→Int→Int→Option (Int)
 | 0,_,_,_,_=>none
 | k+1,x3,x14,x15,x16=>if x16 < x15 then (if 0≤x16 then (if x16 < (x14.length:Int) then ((trustquorumref02_Size.f k ((rd_T32 x14 x16).f0) ((rd_T32 x14 x16).f1) ((rd_T32 x14 x16).f2)).bind fun t113=>(trustquorumref02_Size.l0 k (wrap64 (x3+t113)) x14 x15 (wrap64 (x16+1)))) else (none)) else (none)) else (some x3)
def trustquorumref02_Size.f:Nat→Int→List Int→List (S32)→Option (Int)
 | 0,_,_,_=>none
 | k+1,a0_0,l0_1,l0_2=>trustquorumref02_Size.l0 k (wrap64 ((l0_1.length:Int)+(l0_2.length:Int))) l0_2 (l0_2.length:Int) 0
end
set_option maxHeartbeats 8000000 in
set_option maxRecDepth 100000 in
theorem trustquorumref02_Size.calls (k:Nat):∀ (a0_0:Int) (A0_1:Option Addr) (c0_1:Nat) (l0_1:List Int) (A0_2:Option Addr) (c0_2:Nat) (l0_2:List (S32)) (r:Int) (w:World) (hr0_1:Kd.C (Kd.int .i64) w A0_1 l0_1.length l0_1) (hc0_1:l0_1.length≤c0_1) (hr0_2:Kd.C k32 w A0_2 l0_2.length l0_2) (hc0_2:l0_2.length≤c0_2) (h:trustquorumref02_Size.f k a0_0 l0_1 l0_2=some r),
  Calls Try.prog 87 #[.agg #[.int .i64 a0_0,.slice A0_1 l0_1.length c0_1,.slice A0_2 l0_2.length c0_2]] w fun e w'=>e=.returned (.int .i64 r)∧Below w.heap.size w w':=by
 induction k using Nat.strongRecOn with
 | _ k ih =>
 intro a0_0 A0_1 c0_1 l0_1 A0_2 c0_2 l0_2 r w hr0_1 hc0_1 hr0_2 hc0_2 h
 cases k with
 | zero=>exact absurd h (by simp [trustquorumref02_Size.f])
 | succ k =>
 simp only [trustquorumref02_Size.f] at h
 have hu32:=Try.underlying32
 have HR0_1:=Z hr0_1
 have HC0_1:=Z hc0_1
 clear hr0_1 hc0_1
 have HR0_2:=Z hr0_2
 have HC0_2:=Z hc0_2
 clear hr0_2 hc0_2
 have HB:=Z (Below.refl w.heap.size w)
 have H:(trustquorumref02_Size.l0 k (wrap64 ((l0_1.length:Int)+(l0_2.length:Int))) l0_2 (l0_2.length:Int) 0)=some r:=h
 clear h
 have H':=Z H
 clear H
 go_enter Try.func87,Try.ntmps87
 go_wp2_with (first|((with_reducible refine gate_dst (N:=1) rfl ?_);refine box_event ?hg (N:=1) ?hd (cs:=#[.int .i64 a0_0,.slice A0_1 l0_1.length c0_1,.slice A0_2 l0_2.length c0_2]) (t:=32) ?hr ?_;(case hd=>rfl);(case hg=>rfl);(case hr=>first|(go_simp;done)|(go_simp;rfl));intro gb110 hg w2 hbox hb;have n0_:=Z (below_step pB hb);have n1_:=Z (hbox);have n2_:=Z ((pT hg:w.heap.size≤gb110));have n3_:=Z ((pT hg:w.heap.size≤gb110));clear HB;have HB:=n0_;have BK110:=n1_;have GW110:=n2_;have GE110:=n3_;clear n0_ n1_ n2_ n3_;clear hb hbox hg;have hcz3_0:w2.cell? ⟨gb110,0,none⟩=some (.int .i64 a0_0):=(kC BK110.out 0).trans rfl;have hcz3_1:w2.cell? ⟨gb110,1,none⟩=some (.slice A0_1 l0_1.length c0_1):=(kC BK110.out 1).trans rfl;have hcz3_2:w2.cell? ⟨gb110,2,none⟩=some (.slice A0_2 l0_2.length c0_2):=(kC BK110.out 2).trans rfl;have hfz3_0:=kF BK110.out 0;have hfz3_1:=kF BK110.out 1;have hfz3_2:=kF BK110.out 2))
 go_loopg [3,16] k (fun kq v3 v16 w'=>∃ (x3_1:Int) (x16_1:Int),v3=.int .i64 x3_1∧v16=.int .i64 x16_1∧Aside0 (trustquorumref02_Size.l0 kq x3_1 l0_2 (l0_2.length:Int) x16_1=some r)∧Aside0 (kq≤k)∧Aside0 (w'.heap[gb110]?=some (.cells #[.int .i64 a0_0,(.slice A0_1 l0_1.length c0_1),(.slice A0_2 l0_2.length c0_2)] 32 (0,0)))∧Aside0 (Below w.heap.size w w'))
 case atStart=>exact ⟨(wrap64 ((l0_1.length:Int)+(l0_2.length:Int))),(0),pE,pE,H',⟨Nat.le_refl _⟩,⟨pK BK110⟩,⟨pB⟩⟩
 case round =>
  clear H'
  try clear p2
  try clear hcz3_0
  try clear hcz3_1
  try clear hcz3_2
  try clear hfz3_0
  try clear hfz3_1
  try clear hfz3_2
  obtain ⟨x3_1,x16_1,rfl,rfl,HA,HK1,BK110,HB⟩:=hrel
  cases gk with
  | zero=>exact absurd HA.out (by simp [trustquorumref02_Size.l0])
  | succ k1 =>
   have H:=HA.out
   clear HA
   simp only [trustquorumref02_Size.l0] at H
   by_cases c4:x16_1 < (l0_2.length:Int)
   ·rw [if_pos c4] at H
    have c4b0:decide (x16_1 < (l0_2.length:Int))=true:=decide_eq_true c4
    clear c4
    by_cases c5:0≤x16_1
    ·rw [if_pos c5] at H
     have c5b0:decide (0≤x16_1)=true:=decide_eq_true c5
     clear c5
     by_cases c6:x16_1 < (l0_2.length:Int)
     ·rw [if_pos c6] at H
      have c6b0:decide (x16_1 < (l0_2.length:Int))=true:=decide_eq_true c6
      clear c6
      replace H:=Option.bind_eq_some_iff.mp H
      obtain ⟨t113,A70,H⟩:=H
      try dsimp only at H
      have A7:=Z A70
      clear A70
      have H':=Z H
      clear H
      have p111:0≤(x16_1:Int):=of_decide_eq_true (by first|(with_reducible assumption)|assumption)
      have q111:x16_1 < (l0_2.length:Int):=of_decide_eq_true (by first|(with_reducible assumption)|assumption)
      obtain ⟨ad111,A111_1,c111_1,A111_2,c111_2,e111,hx111_0,hx111_1,hx111_2,hl111_1,hi111_1,hl111_2,hi111_2⟩:=at_T32 HR0_2.out x16_1 p111 q111
      cases e111
      replace hx111_0:=(HB.out.cell (World.block_lt_of_cell? w _ hx111_0)).trans hx111_0
      replace hx111_1:=(HB.out.cell (World.block_lt_of_cell? w _ hx111_1)).trans hx111_1
      replace hx111_2:=(HB.out.cell (World.block_lt_of_cell? w _ hx111_2)).trans hx111_2
      have HR111_1:=Z hi111_1
      have HC111_1:=Z hl111_1
      clear hi111_1 hl111_1
      have HR111_2:=Z hi111_2
      have HC111_2:=Z hl111_2
      clear hi111_2 hl111_2
      replace p111:=eq_true p111
      replace q111:=eq_true q111
      go_wp2_with (first|((with_reducible refine gate_dst (N:=5) rfl ?_);refine box_event ?hg (N:=5) ?hd (cs:=#[.int .i64 0,.slice none 0 0,.slice none 0 0]) (t:=32) ?hr ?_;(case hd=>rfl);(case hg=>rfl);(case hr=>first|(go_simp;done)|(go_simp;rfl));intro gb112 hg w8 hbox hb;have n0_:=Z (blk_below (g:=gb110) (o:=.cells #[.int .i64 a0_0,.slice A0_1 l0_1.length c0_1,.slice (some ad111) l0_2.length c0_2] 32 (0,0)) (pK BK110) hb);have n1_:=Z (below_step pB hb);have n2_:=Z (hbox);have n3_:=Z ((pT hg:w.heap.size≤gb112));have n4_:=Z ((pT hg:w.heap.size≤gb112));have n5_:=Z ((pL hg (pK BK110):gb110 ≠ gb112));have n6_:=Z ((pM hg (pK BK110):gb112 ≠ gb110));clear BK110;clear HB;have BK110:=n0_;have HB:=n1_;have BK112:=n2_;have GW112:=n3_;have GE112:=n4_;have NB110_112:=n5_;have NB112_110:=n6_;clear n0_ n1_ n2_ n3_ n4_ n5_ n6_;clear hb hbox hg;have hnb9:=NB112_110.out;have hnc9:=NB110_112.out;have hcz10_0:w8.cell? ⟨gb112,0,none⟩=some (.int .i64 0):=(kC BK112.out 0).trans rfl;have hcz10_1:w8.cell? ⟨gb112,1,none⟩=some (.slice none 0 0):=(kC BK112.out 1).trans rfl;have hcz10_2:w8.cell? ⟨gb112,2,none⟩=some (.slice none 0 0):=(kC BK112.out 2).trans rfl;have hfz10_0:=kF BK112.out 0;have hfz10_1:=kF BK112.out 1;have hfz10_2:=kF BK112.out 2)|((with_reducible refine gate_callee (f:=87) rfl ?_);refine goesL_ (some 22) rfl rfl Try.func87 (by kernel_rfl) rfl #[.agg #[.int .i64 ((rd_T32 l0_2 x16_1).f0),.slice A111_1 ((rd_T32 l0_2 x16_1).f1).length c111_1,.slice A111_2 ((rd_T32 l0_2 x16_1).f2).length c111_2]] rfl pG ?_;(with_reducible refine (ih k1 (by have:=HK1.out;omega) ((rd_T32 l0_2 x16_1).f0) _ _ ((rd_T32 l0_2 x16_1).f1) _ _ ((rd_T32 l0_2 x16_1).f2) t113 _ ?side1 ?side2 ?side3 ?side4 A7.out).mono ?_);(case side1=>exact Kd.C_below HR111_1.out pB);(case side2=>exact HC111_1.out);(case side3=>exact Kd.C_below HR111_2.out pB);(case side4=>exact HC111_2.out);rintro e w11 ⟨rfl,hb⟩;refine ⟨_,rfl,?_⟩;have n0_:=Z (blk_below (g:=gb110) (o:=.cells #[.int .i64 a0_0,.slice A0_1 l0_1.length c0_1,.slice (some ad111) l0_2.length c0_2] 32 (0,0)) (by (with_reducible repeat (first|refine kN ?_ _|refine kD ?_|refine kA ?_ _));refine blk_far ?_ NB110_112.out _;(with_reducible repeat (first|refine kN ?_ _|refine kD ?_|refine kA ?_ _));refine blk_far ?_ NB110_112.out _;(with_reducible repeat (first|refine kN ?_ _|refine kD ?_|refine kA ?_ _));refine blk_far ?_ NB110_112.out _;(with_reducible repeat (first|refine kN ?_ _|refine kD ?_|refine kA ?_ _));exact BK110.out) hb);have n1_:=Z (blk_below (g:=gb112) (o:=.cells #[.int .i64 ((rd_T32 l0_2 x16_1).f0),.slice A111_1 ((rd_T32 l0_2 x16_1).f1).length c111_1,.slice A111_2 ((rd_T32 l0_2 x16_1).f2).length c111_2] 32 (0,0)) (by (with_reducible repeat (first|refine kN ?_ _|refine kD ?_|refine kA ?_ _));refine blk_put (cs:=#[.int .i64 ((rd_T32 l0_2 x16_1).f0),.slice A111_1 ((rd_T32 l0_2 x16_1).f1).length c111_1,.slice none 0 0]) ?_ 2 _ rfl;(with_reducible repeat (first|refine kN ?_ _|refine kD ?_|refine kA ?_ _));refine blk_put (cs:=#[.int .i64 ((rd_T32 l0_2 x16_1).f0),.slice none 0 0,.slice none 0 0]) ?_ 1 _ rfl;(with_reducible repeat (first|refine kN ?_ _|refine kD ?_|refine kA ?_ _));refine blk_put (cs:=#[.int .i64 0,.slice none 0 0,.slice none 0 0]) ?_ 0 _ rfl;(with_reducible repeat (first|refine kN ?_ _|refine kD ?_|refine kA ?_ _));exact BK112.out) hb);have n2_:=Z (below_step pB hb);clear BK110;clear BK112;clear HB;have BK110:=n0_;have BK112:=n1_;have HB:=n2_;clear n0_ n1_ n2_;(try clear hb);(try clear hb2);(try clear hk);(try clear hi)))
      go_roundg k1
      case measure=>have:=HK1.out;omega
      case rel=>exact ⟨(wrap64 (x3_1+t113)),(wrap64 (x16_1+1)),pE,pE,H',⟨by have:=HK1.out;omega⟩,⟨pK BK110⟩,⟨pB⟩⟩
     ·rw [if_neg c6] at H
      exact absurd H (by simp)
    ·rw [if_neg c5] at H
     exact absurd H (by simp)
   ·rw [if_neg c4] at H
    have c4b0:decide (x16_1 < (l0_2.length:Int))=false:=decide_eq_false c4
    clear c4
    obtain rfl:=Option.some.inj H
    go_wp2
    go_ret
    exact ⟨pF,pB⟩
def trustquorumref01_Valid.f (a0:Int):Option (Bool):=if a0 ≥ 0 then (some (decide (a0≤1023))) else (some false)
set_option maxHeartbeats 8000000 in
set_option maxRecDepth 100000 in
theorem trustquorumref01_Valid.calls (a0:Int) (r:Bool) (w:World) (h:trustquorumref01_Valid.f a0=some r) :
  Calls Try.prog 69 #[.int .i64 a0] w fun e w'=>e=.returned (.bool r)∧Drawn0 w w':=by
 have H:(if a0 ≥ 0 then (some (decide (a0≤1023))) else (some false))=some r:=h
 clear h
 by_cases c2:a0 ≥ 0
 ·rw [if_pos c2] at H
  have c2b0:decide (0≤a0)=true:=decide_eq_true c2
  clear c2
  obtain rfl:=Option.some.inj H
  go_enter Try.func69,Try.ntmps69
  go_wp2
  go_ret
  exact ⟨by first|rfl|(simp;done)|(simp [*];done),by repeat (first|exact Drawn0.refl _|apply Drawn0.step)⟩
 ·rw [if_neg c2] at H
  have c2b0:decide (0≤a0)=false:=decide_eq_false c2
  clear c2
  obtain rfl:=Option.some.inj H
  go_enter Try.func69,Try.ntmps69
  go_wp2
  go_ret
  exact ⟨by first|rfl|(simp;done)|(simp [*];done),by repeat (first|exact Drawn0.refl _|apply Drawn0.step)⟩
def trustquorumref01_Has.f (a0:Int) (a1:Int):Option (Bool):=(trustquorumref01_Valid.f a0).bind fun t114=>(if t114=true then (if a1 ≥ 0 then (if a1 < 10 then (if 0≤a1 then (some ((Go.bits .and .i64 (shr .i64 a0 a1) 1) == 1)) else (none)) else (some false)) else (some false)) else (some false))
set_option maxHeartbeats 8000000 in
set_option maxRecDepth 100000 in
theorem trustquorumref01_Has.calls (a0:Int) (a1:Int) (r:Bool) (w:World) (h:trustquorumref01_Has.f a0 a1=some r) :
  Calls Try.prog 68 #[.int .i64 a0,.int .i64 a1] w fun e w'=>e=.returned (.bool r)∧Drawn0 w w':=by
 have H:((trustquorumref01_Valid.f a0).bind fun t114=>(if t114=true then (if a1 ≥ 0 then (if a1 < 10 then (if 0≤a1 then (some ((Go.bits .and .i64 (shr .i64 a0 a1) 1) == 1)) else (none)) else (some false)) else (some false)) else (some false)))=some r:=h
 clear h
 replace H:=Option.bind_eq_some_iff.mp H
 obtain ⟨t114,A30,H⟩:=H
 try dsimp only at H
 have A3:=Z A30
 clear A30
 by_cases c4:t114=true
 ·subst c4
  rw [if_pos rfl] at H
  by_cases c5:a1 ≥ 0
  ·rw [if_pos c5] at H
   have c5b0:decide (0≤a1)=true:=decide_eq_true c5
   clear c5
   by_cases c6:a1 < 10
   ·rw [if_pos c6] at H
    have c6b0:decide (a1 < 10)=true:=decide_eq_true c6
    clear c6
    by_cases c7:0≤a1
    ·rw [if_pos c7] at H
     have c7b0:=eq_true c7
     have c7b1:decide (0≤a1)=true:=decide_eq_true c7
     clear c7
     obtain ⟨ji8,hji8⟩:∃ j_:Int,(shr .i64 a0 a1)=j_:=⟨_,rfl⟩
     replace H:(some ((Go.bits .and .i64 (ji8) 1) == 1))=some r:=by first|(rw [hji8] at H;exact H)|(simp only [hji8] at H ⊢;exact H)
     (try rw [hji8] at A3)
     have hji8_:(a0 / 2 ^ min a1.toNat 64)=ji8:=hji8
     have hji8z:a1≤64→(a0 / 2 ^ a1.toNat)=ji8:=shr_small hji8
     obtain rfl:=Option.some.inj H
     go_enter Try.func68,Try.ntmps68
     go_wp2_with (first|((with_reducible refine gate_callee (f:=69) rfl ?_);refine goesL_ (some 6) rfl rfl Try.func69 (by kernel_rfl) rfl #[.int .i64 a0] rfl pG ?_;(with_reducible refine (trustquorumref01_Valid.calls a0 true _ A3.out).mono ?_);rintro e w' ⟨rfl,⟨nd,rfl⟩⟩;refine ⟨_,rfl,?_⟩))
     go_ret
     exact ⟨by first|rfl|(simp;done)|(simp only [← hji8] <;> (first|rfl|simp))|(simp [*];done),by repeat (first|exact Drawn0.refl _|apply Drawn0.step)⟩
    ·rw [if_neg c7] at H
     exact absurd H (by simp)
   ·rw [if_neg c6] at H
    have c6b0:decide (a1 < 10)=false:=decide_eq_false c6
    clear c6
    obtain rfl:=Option.some.inj H
    go_enter Try.func68,Try.ntmps68
    go_wp2_with (first|((with_reducible refine gate_callee (f:=69) rfl ?_);refine goesL_ (some 6) rfl rfl Try.func69 (by kernel_rfl) rfl #[.int .i64 a0] rfl pG ?_;(with_reducible refine (trustquorumref01_Valid.calls a0 true _ A3.out).mono ?_);rintro e w' ⟨rfl,⟨nd,rfl⟩⟩;refine ⟨_,rfl,?_⟩))
    go_ret
    exact ⟨by first|rfl|(simp;done)|(simp [*];done),by repeat (first|exact Drawn0.refl _|apply Drawn0.step)⟩
  ·rw [if_neg c5] at H
   have c5b0:decide (0≤a1)=false:=decide_eq_false c5
   clear c5
   obtain rfl:=Option.some.inj H
   go_enter Try.func68,Try.ntmps68
   go_wp2_with (first|((with_reducible refine gate_callee (f:=69) rfl ?_);refine goesL_ (some 6) rfl rfl Try.func69 (by kernel_rfl) rfl #[.int .i64 a0] rfl pG ?_;(with_reducible refine (trustquorumref01_Valid.calls a0 true _ A3.out).mono ?_);rintro e w' ⟨rfl,⟨nd,rfl⟩⟩;refine ⟨_,rfl,?_⟩))
   go_ret
   exact ⟨by first|rfl|(simp;done)|(simp [*];done),by repeat (first|exact Drawn0.refl _|apply Drawn0.step)⟩
 ·replace c4:=Bool.eq_false_iff.mpr c4
  subst c4
  rw [if_neg (show ¬ (false=true) by decide)] at H
  obtain rfl:=Option.some.inj H
  go_enter Try.func68,Try.ntmps68
  go_wp2_with (first|((with_reducible refine gate_callee (f:=69) rfl ?_);refine goesL_ (some 6) rfl rfl Try.func69 (by kernel_rfl) rfl #[.int .i64 a0] rfl pG ?_;(with_reducible refine (trustquorumref01_Valid.calls a0 false _ A3.out).mono ?_);rintro e w' ⟨rfl,⟨nd,rfl⟩⟩;refine ⟨_,rfl,?_⟩))
  go_ret
  exact ⟨by first|rfl|(simp;done)|(simp [*];done),by repeat (first|exact Drawn0.refl _|apply Drawn0.step)⟩
mutual
def trustquorumref01_Of.l0:Nat→Int→List Int→Int→Int→Option (Int × Int)
 | 0,_,_,_,_=>none
 | k+1,x4,x7,x8,x9=>if x9 < x8 then (if 0≤x9 then (if x9 < (x7.length:Int) then (if (rd x7 x9) < 0 then (trustquorumref01_Of.j1 k x4 (rd x7 x9) x7 x8 x9 true) else (trustquorumref01_Of.j1 k x4 (rd x7 x9) x7 x8 x9 (decide ((rd x7 x9) ≥ 10)))) else (none)) else (none)) else (some (x4,0))
def trustquorumref01_Of.j1:Nat→Int→Int→List Int→Int→Int→Bool→Option (Int × Int)
 | 0,_,_,_,_,_,_=>none
 | k+1,x4,x6,x7,x8,x9,x18=>if x18=true then (some (0,5)) else ((trustquorumref01_Has.f x4 x6).bind fun t116=>(if t116=true then (some (0,6)) else (if 0≤x6 then (trustquorumref01_Of.l0 k (Go.bits .or .i64 x4 (shl .i64 1 x6)) x7 x8 (wrap64 (x9+1))) else (none))))
end
def trustquorumref01_Of.f (k:Nat) (l0:List Int):Option (Int × Int):=trustquorumref01_Of.l0 k 0 l0 (l0.length:Int) 0
set_option maxHeartbeats 8000000 in
set_option maxRecDepth 100000 in
theorem trustquorumref01_Of.calls (k:Nat) (A0:Option Addr) (c0:Nat) (l0:List Int) (r1:Int) (r2:Int) (w:World) (hr0:Kd.C (Kd.int .i64) w A0 l0.length l0) (hc0:l0.length≤c0) (h:trustquorumref01_Of.f k l0=some (r1,r2)) :
  Calls Try.prog 109 #[.slice A0 l0.length c0] w fun e w'=>e=.returned (.tuple #[.int .i64 r1,.int .i64 r2])∧Drawn0 w w':=by
 have HR0:=Z hr0
 have HC0:=Z hc0
 clear hr0 hc0
 have H:(trustquorumref01_Of.l0 k 0 l0 (l0.length:Int) 0)=some (r1,r2):=h
 clear h
 have H':=Z H
 clear H
 go_enter Try.func109,Try.ntmps109
 go_wp2
 go_loopg [4,9] k (fun kq v4 v9 w'=>∃ (x4_1:Int) (x9_1:Int),v4=.int .i64 x4_1∧v9=.int .i64 x9_1∧Aside0 (trustquorumref01_Of.l0 kq x4_1 l0 (l0.length:Int) x9_1=some (r1,r2))∧Aside0 (kq≤k)∧Drawn0 w w')
 case atStart=>exact ⟨(0),(0),pE,pE,H',⟨Nat.le_refl _⟩,by repeat (first|exact Drawn0.refl _|apply Drawn0.step)⟩
 case round =>
  clear H'
  try clear c1
  obtain ⟨x4_1,x9_1,rfl,rfl,HA,HK1,⟨m1,rfl⟩⟩:=hrel
  cases gk with
  | zero=>exact absurd HA.out (by simp [trustquorumref01_Of.l0])
  | succ k1 =>
   have H:=HA.out
   clear HA
   simp only [trustquorumref01_Of.l0] at H
   by_cases c2:x9_1 < (l0.length:Int)
   ·rw [if_pos c2] at H
    have c2b0:decide (x9_1 < (l0.length:Int))=true:=decide_eq_true c2
    clear c2
    by_cases c3:0≤x9_1
    ·rw [if_pos c3] at H
     have c3b0:decide (0≤x9_1)=true:=decide_eq_true c3
     clear c3
     by_cases c4:x9_1 < (l0.length:Int)
     ·rw [if_pos c4] at H
      have c4b0:decide (x9_1 < (l0.length:Int))=true:=decide_eq_true c4
      clear c4
      have HC5:=Z H
      clear H
      have p115:0≤(x9_1:Int):=of_decide_eq_true (by first|(with_reducible assumption)|assumption)
      have q115:x9_1 < (l0.length:Int):=of_decide_eq_true (by first|(with_reducible assumption)|assumption)
      obtain ⟨ad115,e115,hx115_0⟩:=Kd.at_int HR0.out x9_1 p115 q115
      cases e115
      replace p115:=eq_true p115
      replace q115:=eq_true q115
      go_upto_region 5 with (fail)
      go_cut [18] (fun v18 wc=>∃ (kq:Nat) (x18_4:Bool),v18=.bool x18_4∧Aside0 (trustquorumref01_Of.j1 kq x4_1 (rd l0 x9_1) l0 (l0.length:Int) x9_1 x18_4=some (r1,r2))∧Aside0 (kq≤k1)∧Drawn0 w wc)
      case first =>
       have H:=HC5.out
       clear HC5
       by_cases c6:(rd l0 x9_1) < 0
       ·rw [if_pos c6] at H
        have c6b0:decide ((rd l0 x9_1) < 0)=true:=decide_eq_true c6
        clear c6
        (first|rw [c6b0]|(simp only [i64_w,i32_w];rw [c6b0])|skip)
        have H':=Z H
        clear H
        go_wp2
        go_meet
        case rel=>exact ⟨_,(true),pE,H',⟨by have:=HK1.out;first|omega|exact Nat.le_refl _⟩,by repeat (first|exact Drawn0.refl _|apply Drawn0.step)⟩
       ·rw [if_neg c6] at H
        have c6b0:decide ((rd l0 x9_1) < 0)=false:=decide_eq_false c6
        clear c6
        (first|rw [c6b0]|(simp only [i64_w,i32_w];rw [c6b0])|skip)
        have H':=Z H
        clear H
        go_wp2
        go_meet
        case rel=>exact ⟨_,(decide ((rd l0 x9_1) ≥ 10)),pE,H',⟨by have:=HK1.out;first|omega|exact Nat.le_refl _⟩,by repeat (first|exact Drawn0.refl _|apply Drawn0.step)⟩
      case rest =>
       clear HC5
       try clear c1
       try clear p1
       try clear q1
       try clear hx1
       try clear c2
       try clear c2b0
       try clear p2
       try clear c3
       try clear c3b0
       try clear c4
       try clear c4b0
       try clear c6
       try clear c6b0
       try clear hx115_0
       try clear p115
       try clear q115
       obtain ⟨kq,x18_4,rfl,HA,HJ4,⟨mc4,rfl⟩⟩:=hcut
       cases kq with
       | zero=>exact absurd HA.out (by simp [trustquorumref01_Of.j1])
       | succ kj4 =>
        have H:=HA.out
        clear HA
        simp only [trustquorumref01_Of.j1] at H
        by_cases c7:x18_4=true
        ·subst c7
         rw [if_pos rfl] at H
         simp only [Option.some.injEq,Prod.mk.injEq] at H
         obtain ⟨rfl,rfl⟩:=H
         go_wp2
         go_ret2
         exact ⟨by first|rfl|(simp;done)|(simp [*];done),by repeat (first|exact Drawn0.refl _|apply Drawn0.step)⟩
        ·replace c7:=Bool.eq_false_iff.mpr c7
         subst c7
         rw [if_neg (show ¬ (false=true) by decide)] at H
         replace H:=Option.bind_eq_some_iff.mp H
         obtain ⟨t116,A80,H⟩:=H
         try dsimp only at H
         have A8:=Z A80
         clear A80
         by_cases c9:t116=true
         ·subst c9
          rw [if_pos rfl] at H
          simp only [Option.some.injEq,Prod.mk.injEq] at H
          obtain ⟨rfl,rfl⟩:=H
          go_wp2_with (first|((with_reducible refine gate_callee (f:=68) rfl ?_);refine goesL_ (some 21) rfl rfl Try.func68 (by kernel_rfl) rfl #[.int .i64 x4_1,.int .i64 (rd l0 x9_1)] rfl pG ?_;(with_reducible refine (trustquorumref01_Has.calls x4_1 (rd l0 x9_1) true _ A8.out).mono ?_);rintro e w' ⟨rfl,⟨nd,rfl⟩⟩;refine ⟨_,rfl,?_⟩))
          go_ret2
          exact ⟨by first|rfl|(simp;done)|(simp [*];done),by repeat (first|exact Drawn0.refl _|apply Drawn0.step)⟩
         ·replace c9:=Bool.eq_false_iff.mpr c9
          subst c9
          rw [if_neg (show ¬ (false=true) by decide)] at H
          by_cases c10:0≤(rd l0 x9_1)
          ·rw [if_pos c10] at H
           have c10b0:=eq_true c10
           have c10b1:decide (0≤(rd l0 x9_1))=true:=decide_eq_true c10
           clear c10
           obtain ⟨ji11,hji11⟩:∃ j_:Int,(shl .i64 1 (rd l0 x9_1))=j_:=⟨_,rfl⟩
           replace H:(trustquorumref01_Of.l0 kj4 (Go.bits .or .i64 x4_1 (ji11)) l0 (l0.length:Int) (wrap64 (x9_1+1)))=some (r1,r2):=by first|(rw [hji11] at H;exact H)|(simp only [hji11] at H ⊢;exact H)
           (try rw [hji11] at A8)
           have hji11_:(IntKind.i64.wrap (1 * 2 ^ min (rd l0 x9_1).toNat 64))=ji11:=hji11
           have hji11z:(rd l0 x9_1)≤64→(IntKind.i64.wrap (1 * 2 ^ (rd l0 x9_1).toNat))=ji11:=shl_small hji11
           have hji11u:(IntKind.i64.wrap (2 ^ min (rd l0 x9_1).toNat 64))=ji11:=by have h_:=hji11_;rw [Int.one_mul] at h_;exact h_
           have hji11v:(rd l0 x9_1)≤64→(IntKind.i64.wrap (2 ^ (rd l0 x9_1).toNat))=ji11:=fun hle_=>by have h_:=hji11z hle_;rw [Int.one_mul] at h_;exact h_
           have hji11y:(wrap64 (1 * 2 ^ min (rd l0 x9_1).toNat 64))=ji11:=(i64_w _).symm.trans hji11_
           have hji11x:(rd l0 x9_1)≤64→(wrap64 (1 * 2 ^ (rd l0 x9_1).toNat))=ji11:=fun h_=>(i64_w _).symm.trans (hji11z h_)
           have H':=Z H
           clear H
           go_wp2_with (first|((with_reducible refine gate_callee (f:=68) rfl ?_);refine goesL_ (some 21) rfl rfl Try.func68 (by kernel_rfl) rfl #[.int .i64 x4_1,.int .i64 (rd l0 x9_1)] rfl pG ?_;(with_reducible refine (trustquorumref01_Has.calls x4_1 (rd l0 x9_1) false _ A8.out).mono ?_);rintro e w' ⟨rfl,⟨nd,rfl⟩⟩;refine ⟨_,rfl,?_⟩))
           go_roundg kj4
           case measure=>have:=HK1.out;have:=HJ4.out;omega
           case rel=>exact ⟨(Go.bits .or .i64 x4_1 (ji11)),(wrap64 (x9_1+1)),(by first|exact pE|(simp only [← hji11] <;> (first|rfl|simp))),pE,H',⟨by have:=HK1.out;have:=HJ4.out;omega⟩,by repeat (first|exact Drawn0.refl _|apply Drawn0.step)⟩
          ·rw [if_neg c10] at H
           exact absurd H (by simp)
     ·rw [if_neg c4] at H
      exact absurd H (by simp)
    ·rw [if_neg c3] at H
     exact absurd H (by simp)
   ·rw [if_neg c2] at H
    have c2b0:decide (x9_1 < (l0.length:Int))=false:=decide_eq_false c2
    clear c2
    simp only [Option.some.injEq,Prod.mk.injEq] at H
    obtain ⟨rfl,rfl⟩:=H
    go_wp2
    go_ret2
    exact ⟨by first|rfl|(simp;done)|(simp [*];done),by repeat (first|exact Drawn0.refl _|apply Drawn0.step)⟩
mutual
def trustquorumref02_check.j0:Nat→Bool→Int→List Int→List (S32)→Option (Int)
 | 0,_,_,_,_=>none
 | k+1,x24,x118000,x118001,x118002=>if x24=true then (some 4) else (trustquorumref02_check.l0 k x118001 (x118001.length:Int) 0 x118000 x118001 x118002)
def trustquorumref02_check.l0:Nat→List Int→Int→Int→Int→List Int→List (S32)→Option (Int)
 | 0,_,_,_,_,_,_=>none
 | k+1,x26,x27,x28,x118000,x118001,x118002=>if x28 < x27 then (if 0≤x28 then (if x28 < (x26.length:Int) then (if (rd x26 x28) < 0 then (some 5) else (if (rd x26 x28) ≥ 10 then (some 5) else (trustquorumref02_check.l0 k x26 x27 (wrap64 (x28+1)) x118000 x118001 x118002))) else (none)) else (none)) else ((trustquorumref01_Of.f k x118001).bind fun bt119=>(if bt119.2=0 then (trustquorumref02_check.l1 k x118002 (x118002.length:Int) 0) else (some bt119.2)))
def trustquorumref02_check.l1:Nat→List (S32)→Int→Int→Option (Int)
 | 0,_,_,_=>none
 | k+1,x49,x50,x51=>if x51 < x50 then (if 0≤x51 then (if x51 < (x49.length:Int) then ((trustquorumref02_check.f k ((rd_T32 x49 x51).f0) ((rd_T32 x49 x51).f1) ((rd_T32 x49 x51).f2)).bind fun t123=>(if t123=0 then (trustquorumref02_check.l1 k x49 x50 (wrap64 (x51+1))) else (some t123))) else (none)) else (none)) else (some 0)
def trustquorumref02_check.f:Nat→Int→List Int→List (S32)→Option (Int)
 | 0,_,_,_=>none
 | k+1,a0_0,l0_1,l0_2=>if a0_0 < 1 then (trustquorumref02_check.j0 k true a0_0 l0_1 l0_2) else (trustquorumref02_check.j0 k (decide (a0_0 > (wrap64 ((l0_1.length:Int)+(l0_2.length:Int))))) a0_0 l0_1 l0_2)
end
set_option maxHeartbeats 8000000 in
set_option maxRecDepth 100000 in
theorem trustquorumref02_check.calls (k:Nat):∀ (a0_0:Int) (A0_1:Option Addr) (c0_1:Nat) (l0_1:List Int) (A0_2:Option Addr) (c0_2:Nat) (l0_2:List (S32)) (r:Int) (w:World) (hr0_1:Kd.C (Kd.int .i64) w A0_1 l0_1.length l0_1) (hc0_1:l0_1.length≤c0_1) (hr0_2:Kd.C k32 w A0_2 l0_2.length l0_2) (hc0_2:l0_2.length≤c0_2) (h:trustquorumref02_check.f k a0_0 l0_1 l0_2=some r),
  Calls Try.prog 88 #[.agg #[.int .i64 a0_0,.slice A0_1 l0_1.length c0_1,.slice A0_2 l0_2.length c0_2]] w fun e w'=>e=.returned (.int .i64 r)∧Below w.heap.size w w':=by
 induction k using Nat.strongRecOn with
 | _ k ih =>
 intro a0_0 A0_1 c0_1 l0_1 A0_2 c0_2 l0_2 r w hr0_1 hc0_1 hr0_2 hc0_2 h
 cases k with
 | zero=>exact absurd h (by simp [trustquorumref02_check.f])
 | succ k =>
 simp only [trustquorumref02_check.f] at h
 have hu32:=Try.underlying32
 have HR0_1:=Z hr0_1
 have HC0_1:=Z hc0_1
 clear hr0_1 hc0_1
 have HR0_2:=Z hr0_2
 have HC0_2:=Z hc0_2
 clear hr0_2 hc0_2
 have HB:=Z (Below.refl w.heap.size w)
 have H:(if a0_0 < 1 then (trustquorumref02_check.j0 k true a0_0 l0_1 l0_2) else (trustquorumref02_check.j0 k (decide (a0_0 > (wrap64 ((l0_1.length:Int)+(l0_2.length:Int))))) a0_0 l0_1 l0_2))=some r:=h
 clear h
 have HC2:=Z H
 clear H
 go_enter Try.func88,Try.ntmps88
 go_upto_region 1 with (first|((with_reducible refine gate_dst (N:=1) rfl ?_);(try (refine gate_guard (by rfl) ?_;dsimp only));refine box_event ?hg (N:=1) ?hd (cs:=#[.int .i64 a0_0,.slice A0_1 l0_1.length c0_1,.slice A0_2 l0_2.length c0_2]) (t:=32) ?hr ?_;(case hd=>rfl);(case hg=>rfl);(case hr=>first|(go_simp;done)|(go_simp;rfl));intro gb117 hg w3 hbox hb;have n0_:=Z (below_step pB hb);have n1_:=Z (hbox);have n2_:=Z ((pT hg:w.heap.size≤gb117));have n3_:=Z ((pT hg:w.heap.size≤gb117));clear HB;have HB:=n0_;have BK117:=n1_;have GW117:=n2_;have GE117:=n3_;clear n0_ n1_ n2_ n3_;clear hb hbox hg))
 (try simp only [Act.put,List.setIfInBounds_toArray,List.set_cons_zero,List.set_cons_succ])
 go_cut [24] (fun v24 wc=>∃ (kq:Nat) (x24_1:Bool),v24=.bool x24_1∧Aside0 (trustquorumref02_check.j0 kq x24_1 a0_0 l0_1 l0_2=some r)∧Aside0 (kq≤k)∧Aside0 (wc.heap[gb117]?=some (.cells #[.int .i64 a0_0,(.slice A0_1 l0_1.length c0_1),(.slice A0_2 l0_2.length c0_2)] 32 (0,0)))∧Aside0 (Below w.heap.size w wc))
 case first =>
  have H:=HC2.out
  clear HC2
  by_cases c4:a0_0 < 1
  ·rw [if_pos c4] at H
   have c4b0:decide (a0_0 < 1)=true:=decide_eq_true c4
   clear c4
   (first|rw [c4b0]|(simp only [i64_w,i32_w];rw [c4b0])|skip)
   have H':=Z H
   clear H
   have hcz5_0:w3.cell? ⟨gb117,0,none⟩=some (.int .i64 a0_0):=(kC BK117.out 0).trans rfl
   have hcz5_1:w3.cell? ⟨gb117,1,none⟩=some (.slice A0_1 l0_1.length c0_1):=(kC BK117.out 1).trans rfl
   have hcz5_2:w3.cell? ⟨gb117,2,none⟩=some (.slice A0_2 l0_2.length c0_2):=(kC BK117.out 2).trans rfl
   have hfz5_0:=kF BK117.out 0
   have hfz5_1:=kF BK117.out 1
   have hfz5_2:=kF BK117.out 2
   go_wp2
   go_meet
   case rel=>exact ⟨_,(true),pE,H',⟨by first|omega|exact Nat.le_refl _⟩,⟨pK BK117⟩,⟨pB⟩⟩
  ·rw [if_neg c4] at H
   have c4b0:decide (a0_0 < 1)=false:=decide_eq_false c4
   clear c4
   (first|rw [c4b0]|(simp only [i64_w,i32_w];rw [c4b0])|skip)
   have H':=Z H
   clear H
   have hcz6_0:w3.cell? ⟨gb117,0,none⟩=some (.int .i64 a0_0):=(kC BK117.out 0).trans rfl
   have hcz6_1:w3.cell? ⟨gb117,1,none⟩=some (.slice A0_1 l0_1.length c0_1):=(kC BK117.out 1).trans rfl
   have hcz6_2:w3.cell? ⟨gb117,2,none⟩=some (.slice A0_2 l0_2.length c0_2):=(kC BK117.out 2).trans rfl
   have hfz6_0:=kF BK117.out 0
   have hfz6_1:=kF BK117.out 1
   have hfz6_2:=kF BK117.out 2
   go_wp2
   go_meet
   case rel=>exact ⟨_,(decide (a0_0 > (wrap64 ((l0_1.length:Int)+(l0_2.length:Int))))),pE,H',⟨by first|omega|exact Nat.le_refl _⟩,⟨pK BK117⟩,⟨pB⟩⟩
 case rest =>
  clear HC2
  try clear p2
  try clear c4
  try clear c4b0
  try clear p6
  try clear hcz5_0
  try clear hcz5_1
  try clear hcz5_2
  try clear hcz6_0
  try clear hcz6_1
  try clear hcz6_2
  try clear hfz5_0
  try clear hfz5_1
  try clear hfz5_2
  try clear hfz6_0
  try clear hfz6_1
  try clear hfz6_2
  obtain ⟨kq,x24_1,rfl,HA,HJ1,BK117,HB⟩:=hcut
  cases kq with
  | zero=>exact absurd HA.out (by simp [trustquorumref02_check.j0])
  | succ kj1 =>
   have H:=HA.out
   clear HA
   simp only [trustquorumref02_check.j0] at H
   by_cases c7:x24_1=true
   ·subst c7
    rw [if_pos rfl] at H
    obtain rfl:=Option.some.inj H
    go_wp2
    go_ret
    exact ⟨pF,pB⟩
   ·replace c7:=Bool.eq_false_iff.mpr c7
    subst c7
    rw [if_neg (show ¬ (false=true) by decide)] at H
    have H':=Z H
    clear H
    have hcz8_0:wc.cell? ⟨gb117,0,none⟩=some (.int .i64 a0_0):=(kC BK117.out 0).trans rfl
    have hcz8_1:wc.cell? ⟨gb117,1,none⟩=some (.slice A0_1 l0_1.length c0_1):=(kC BK117.out 1).trans rfl
    have hcz8_2:wc.cell? ⟨gb117,2,none⟩=some (.slice A0_2 l0_2.length c0_2):=(kC BK117.out 2).trans rfl
    have hfz8_0:=kF BK117.out 0
    have hfz8_1:=kF BK117.out 1
    have hfz8_2:=kF BK117.out 2
    go_wp2
    go_loopg [28] kj1 (fun kq v28 w'=>∃ (x28_2:Int),v28=.int .i64 x28_2∧Aside0 (trustquorumref02_check.l0 kq l0_1 (l0_1.length:Int) x28_2 a0_0 l0_1 l0_2=some r)∧Aside0 (kq≤kj1)∧Aside0 (w'.heap[gb117]?=some (.cells #[.int .i64 a0_0,(.slice A0_1 l0_1.length c0_1),(.slice A0_2 l0_2.length c0_2)] 32 (0,0)))∧Aside0 (Below w.heap.size w w'))
    case atStart=>exact ⟨(0),pE,H',⟨Nat.le_refl _⟩,⟨pK BK117⟩,⟨pB⟩⟩
    case round =>
     clear H'
     try clear p2
     try clear c4
     try clear c4b0
     try clear p6
     try clear c7
     try clear c8
     try clear hcz5_0
     try clear hcz5_1
     try clear hcz5_2
     try clear hcz6_0
     try clear hcz6_1
     try clear hcz6_2
     try clear hcz8_0
     try clear hcz8_1
     try clear hcz8_2
     try clear hfz5_0
     try clear hfz5_1
     try clear hfz5_2
     try clear hfz6_0
     try clear hfz6_1
     try clear hfz6_2
     try clear hfz8_0
     try clear hfz8_1
     try clear hfz8_2
     obtain ⟨x28_2,rfl,HA,HK2,BK117,HB⟩:=hrel
     cases gk with
     | zero=>exact absurd HA.out (by simp [trustquorumref02_check.l0])
     | succ k2 =>
      have H:=HA.out
      clear HA
      simp only [trustquorumref02_check.l0] at H
      by_cases c9:x28_2 < (l0_1.length:Int)
      ·rw [if_pos c9] at H
       have c9b0:decide (x28_2 < (l0_1.length:Int))=true:=decide_eq_true c9
       clear c9
       by_cases c10:0≤x28_2
       ·rw [if_pos c10] at H
        have c10b0:decide (0≤x28_2)=true:=decide_eq_true c10
        clear c10
        by_cases c11:x28_2 < (l0_1.length:Int)
        ·rw [if_pos c11] at H
         have c11b0:decide (x28_2 < (l0_1.length:Int))=true:=decide_eq_true c11
         clear c11
         by_cases c12:(rd l0_1 x28_2) < 0
         ·rw [if_pos c12] at H
          have c12b0:decide ((rd l0_1 x28_2) < 0)=true:=decide_eq_true c12
          clear c12
          obtain rfl:=Option.some.inj H
          have p118:0≤(x28_2:Int):=of_decide_eq_true (by first|(with_reducible assumption)|assumption)
          have q118:x28_2 < (l0_1.length:Int):=of_decide_eq_true (by first|(with_reducible assumption)|assumption)
          obtain ⟨ad118,e118,hx118_0⟩:=Kd.at_int HR0_1.out x28_2 p118 q118
          cases e118
          replace hx118_0:=(HB.out.cell (World.block_lt_of_cell? w _ hx118_0)).trans hx118_0
          replace p118:=eq_true p118
          replace q118:=eq_true q118
          go_wp2
          go_ret
          exact ⟨pF,pB⟩
         ·rw [if_neg c12] at H
          have c12b0:decide ((rd l0_1 x28_2) < 0)=false:=decide_eq_false c12
          clear c12
          by_cases c13:(rd l0_1 x28_2) ≥ 10
          ·rw [if_pos c13] at H
           have c13b0:decide (10≤(rd l0_1 x28_2))=true:=decide_eq_true c13
           clear c13
           obtain rfl:=Option.some.inj H
           have p118:0≤(x28_2:Int):=of_decide_eq_true (by first|(with_reducible assumption)|assumption)
           have q118:x28_2 < (l0_1.length:Int):=of_decide_eq_true (by first|(with_reducible assumption)|assumption)
           obtain ⟨ad118,e118,hx118_0⟩:=Kd.at_int HR0_1.out x28_2 p118 q118
           cases e118
           replace hx118_0:=(HB.out.cell (World.block_lt_of_cell? w _ hx118_0)).trans hx118_0
           replace p118:=eq_true p118
           replace q118:=eq_true q118
           go_wp2
           go_ret
           exact ⟨pF,pB⟩
          ·rw [if_neg c13] at H
           have c13b0:decide (10≤(rd l0_1 x28_2))=false:=decide_eq_false c13
           clear c13
           have H':=Z H
           clear H
           have p118:0≤(x28_2:Int):=of_decide_eq_true (by first|(with_reducible assumption)|assumption)
           have q118:x28_2 < (l0_1.length:Int):=of_decide_eq_true (by first|(with_reducible assumption)|assumption)
           obtain ⟨ad118,e118,hx118_0⟩:=Kd.at_int HR0_1.out x28_2 p118 q118
           cases e118
           replace hx118_0:=(HB.out.cell (World.block_lt_of_cell? w _ hx118_0)).trans hx118_0
           replace p118:=eq_true p118
           replace q118:=eq_true q118
           go_wp2
           go_roundg k2
           case measure=>have:=HJ1.out;have:=HK2.out;omega
           case rel=>exact ⟨(wrap64 (x28_2+1)),pE,H',⟨by have:=HJ1.out;have:=HK2.out;omega⟩,⟨pK BK117⟩,⟨pB⟩⟩
        ·rw [if_neg c11] at H
         exact absurd H (by simp)
       ·rw [if_neg c10] at H
        exact absurd H (by simp)
      ·rw [if_neg c9] at H
       have c9b0:decide (x28_2 < (l0_1.length:Int))=false:=decide_eq_false c9
       clear c9
       replace H:=Option.bind_eq_some_iff.mp H
       obtain ⟨⟨t119,t120⟩,A140,H⟩:=H
       try dsimp only at H
       have A14:=Z A140
       clear A140
       by_cases c15:t120=0
       ·rw [if_pos c15] at H
        have c15b0:(t120 == 0)=true:=beq_iff_eq.mpr c15
        have c15b1:(t120 != 0)=false:=bne_eq_false_iff_eq.mpr c15
        clear c15
        have H':=Z H
        clear H
        have hcz16_0:wr.cell? ⟨gb117,0,none⟩=some (.int .i64 a0_0):=(kC BK117.out 0).trans rfl
        have hcz16_1:wr.cell? ⟨gb117,1,none⟩=some (.slice A0_1 l0_1.length c0_1):=(kC BK117.out 1).trans rfl
        have hcz16_2:wr.cell? ⟨gb117,2,none⟩=some (.slice A0_2 l0_2.length c0_2):=(kC BK117.out 2).trans rfl
        have hfz16_0:=kF BK117.out 0
        have hfz16_1:=kF BK117.out 1
        have hfz16_2:=kF BK117.out 2
        go_wp2_with (first|((with_reducible refine gate_callee (f:=109) rfl ?_);refine goesL_ (some 42) rfl rfl Try.func109 (by kernel_rfl) rfl #[.slice A0_1 l0_1.length c0_1] rfl pG ?_;(with_reducible refine (trustquorumref01_Of.calls k2 _ _ l0_1 t119 t120 _ ?side1 ?side2 A14.out).mono ?_);(case side1=>repeat (first|exact (Kd.C_below HR0_1.out HB.out)|(with_reducible refine Kd.C_alloc ?_ _)|(with_reducible refine Kd.C_drewN ?_ _)|(with_reducible refine Kd.C_drew ?_)));(case side2=>exact HC0_1.out);rintro e w' ⟨rfl,⟨nd,rfl⟩⟩;refine ⟨_,rfl,?_⟩))
        go_loopg [51] k2 (fun kq v51 w'=>∃ (x51_3:Int),v51=.int .i64 x51_3∧Aside0 (trustquorumref02_check.l1 kq l0_2 (l0_2.length:Int) x51_3=some r)∧Aside0 (kq≤k2)∧Aside0 (w'.heap[gb117]?=some (.cells #[.int .i64 a0_0,(.slice A0_1 l0_1.length c0_1),(.slice A0_2 l0_2.length c0_2)] 32 (0,0)))∧Aside0 (Below w.heap.size w w'))
        case atStart=>exact ⟨(0),pE,H',⟨Nat.le_refl _⟩,⟨pK BK117⟩,⟨pB⟩⟩
        case round =>
         clear H'
         try clear c1
         try clear p1
         try clear q1
         try clear hx1
         try clear p2
         try clear c4
         try clear c4b0
         try clear p6
         try clear c7
         try clear c8
         try clear c9
         try clear c9b0
         try clear c10
         try clear c10b0
         try clear c11
         try clear c11b0
         try clear p11
         try clear q11
         try clear hx11
         try clear c12
         try clear c12b0
         try clear c13
         try clear c13b0
         try clear c15
         try clear c15b0
         try clear c15b1
         try clear hcz16_0
         try clear hcz16_1
         try clear hcz16_2
         try clear hcz5_0
         try clear hcz5_1
         try clear hcz5_2
         try clear hcz6_0
         try clear hcz6_1
         try clear hcz6_2
         try clear hcz8_0
         try clear hcz8_1
         try clear hcz8_2
         try clear hfz16_0
         try clear hfz16_1
         try clear hfz16_2
         try clear hfz5_0
         try clear hfz5_1
         try clear hfz5_2
         try clear hfz6_0
         try clear hfz6_1
         try clear hfz6_2
         try clear hfz8_0
         try clear hfz8_1
         try clear hfz8_2
         try clear hx118_0
         try clear p118
         try clear q118
         obtain ⟨x51_3,rfl,HA,HK3,BK117,HB⟩:=hrel
         cases gk with
         | zero=>exact absurd HA.out (by simp [trustquorumref02_check.l1])
         | succ k3 =>
          have H:=HA.out
          clear HA
          simp only [trustquorumref02_check.l1] at H
          by_cases c17:x51_3 < (l0_2.length:Int)
          ·rw [if_pos c17] at H
           have c17b0:decide (x51_3 < (l0_2.length:Int))=true:=decide_eq_true c17
           clear c17
           by_cases c18:0≤x51_3
           ·rw [if_pos c18] at H
            have c18b0:decide (0≤x51_3)=true:=decide_eq_true c18
            clear c18
            by_cases c19:x51_3 < (l0_2.length:Int)
            ·rw [if_pos c19] at H
             have c19b0:decide (x51_3 < (l0_2.length:Int))=true:=decide_eq_true c19
             clear c19
             replace H:=Option.bind_eq_some_iff.mp H
             obtain ⟨t123,A200,H⟩:=H
             try dsimp only at H
             have A20:=Z A200
             clear A200
             by_cases c21:t123=0
             ·rw [if_pos c21] at H
              have c21b0:(t123 == 0)=true:=beq_iff_eq.mpr c21
              have c21b1:(t123 != 0)=false:=bne_eq_false_iff_eq.mpr c21
              clear c21
              have H':=Z H
              clear H
              have p121:0≤(x51_3:Int):=of_decide_eq_true (by first|(with_reducible assumption)|assumption)
              have q121:x51_3 < (l0_2.length:Int):=of_decide_eq_true (by first|(with_reducible assumption)|assumption)
              obtain ⟨ad121,A121_1,c121_1,A121_2,c121_2,e121,hx121_0,hx121_1,hx121_2,hl121_1,hi121_1,hl121_2,hi121_2⟩:=at_T32 HR0_2.out x51_3 p121 q121
              cases e121
              replace hx121_0:=(HB.out.cell (World.block_lt_of_cell? w _ hx121_0)).trans hx121_0
              replace hx121_1:=(HB.out.cell (World.block_lt_of_cell? w _ hx121_1)).trans hx121_1
              replace hx121_2:=(HB.out.cell (World.block_lt_of_cell? w _ hx121_2)).trans hx121_2
              have HR121_1:=Z hi121_1
              have HC121_1:=Z hl121_1
              clear hi121_1 hl121_1
              have HR121_2:=Z hi121_2
              have HC121_2:=Z hl121_2
              clear hi121_2 hl121_2
              replace p121:=eq_true p121
              replace q121:=eq_true q121
              go_wp2_with (first|((with_reducible refine gate_dst (N:=8) rfl ?_);(try (refine gate_guard (by rfl) ?_;dsimp only));refine box_event ?hg (N:=8) ?hd (cs:=#[.int .i64 0,.slice none 0 0,.slice none 0 0]) (t:=32) ?hr ?_;(case hd=>rfl);(case hg=>rfl);(case hr=>first|(go_simp;done)|(go_simp;rfl));intro gb122 hg w22 hbox hb;have n0_:=Z (blk_below (g:=gb117) (o:=.cells #[.int .i64 a0_0,.slice A0_1 l0_1.length c0_1,.slice (some ad121) l0_2.length c0_2] 32 (0,0)) (pK BK117) hb);have n1_:=Z (below_step pB hb);have n2_:=Z (hbox);have n3_:=Z ((pT hg:w.heap.size≤gb122));have n4_:=Z ((pT hg:w.heap.size≤gb122));have n5_:=Z ((pL hg (pK BK117):gb117 ≠ gb122));have n6_:=Z ((pM hg (pK BK117):gb122 ≠ gb117));clear BK117;clear HB;have BK117:=n0_;have HB:=n1_;have BK122:=n2_;have GW122:=n3_;have GE122:=n4_;have NB117_122:=n5_;have NB122_117:=n6_;clear n0_ n1_ n2_ n3_ n4_ n5_ n6_;clear hb hbox hg;have hnb23:=NB122_117.out;have hnc23:=NB117_122.out;have hcz24_0:w22.cell? ⟨gb122,0,none⟩=some (.int .i64 0):=(kC BK122.out 0).trans rfl;have hcz24_1:w22.cell? ⟨gb122,1,none⟩=some (.slice none 0 0):=(kC BK122.out 1).trans rfl;have hcz24_2:w22.cell? ⟨gb122,2,none⟩=some (.slice none 0 0):=(kC BK122.out 2).trans rfl;have hfz24_0:=kF BK122.out 0;have hfz24_1:=kF BK122.out 1;have hfz24_2:=kF BK122.out 2)|((with_reducible refine gate_callee (f:=88) rfl ?_);refine goesL_ (some 56) rfl rfl Try.func88 (by kernel_rfl) rfl #[.agg #[.int .i64 ((rd_T32 l0_2 x51_3).f0),.slice A121_1 ((rd_T32 l0_2 x51_3).f1).length c121_1,.slice A121_2 ((rd_T32 l0_2 x51_3).f2).length c121_2]] rfl pG ?_;(with_reducible refine (ih k3 (by have:=HJ1.out;have:=HK2.out;have:=HK3.out;omega) ((rd_T32 l0_2 x51_3).f0) _ _ ((rd_T32 l0_2 x51_3).f1) _ _ ((rd_T32 l0_2 x51_3).f2) t123 _ ?side1 ?side2 ?side3 ?side4 A20.out).mono ?_);(case side1=>exact Kd.C_below HR121_1.out pB);(case side2=>exact HC121_1.out);(case side3=>exact Kd.C_below HR121_2.out pB);(case side4=>exact HC121_2.out);rintro e w25 ⟨rfl,hb⟩;refine ⟨_,rfl,?_⟩;have n0_:=Z (blk_below (g:=gb117) (o:=.cells #[.int .i64 a0_0,.slice A0_1 l0_1.length c0_1,.slice (some ad121) l0_2.length c0_2] 32 (0,0)) (by (with_reducible repeat (first|refine kN ?_ _|refine kD ?_|refine kA ?_ _));refine blk_far ?_ NB117_122.out _;(with_reducible repeat (first|refine kN ?_ _|refine kD ?_|refine kA ?_ _));refine blk_far ?_ NB117_122.out _;(with_reducible repeat (first|refine kN ?_ _|refine kD ?_|refine kA ?_ _));refine blk_far ?_ NB117_122.out _;(with_reducible repeat (first|refine kN ?_ _|refine kD ?_|refine kA ?_ _));exact BK117.out) hb);have n1_:=Z (blk_below (g:=gb122) (o:=.cells #[.int .i64 ((rd_T32 l0_2 x51_3).f0),.slice A121_1 ((rd_T32 l0_2 x51_3).f1).length c121_1,.slice A121_2 ((rd_T32 l0_2 x51_3).f2).length c121_2] 32 (0,0)) (by (with_reducible repeat (first|refine kN ?_ _|refine kD ?_|refine kA ?_ _));refine blk_put (cs:=#[.int .i64 ((rd_T32 l0_2 x51_3).f0),.slice A121_1 ((rd_T32 l0_2 x51_3).f1).length c121_1,.slice none 0 0]) ?_ 2 _ rfl;(with_reducible repeat (first|refine kN ?_ _|refine kD ?_|refine kA ?_ _));refine blk_put (cs:=#[.int .i64 ((rd_T32 l0_2 x51_3).f0),.slice none 0 0,.slice none 0 0]) ?_ 1 _ rfl;(with_reducible repeat (first|refine kN ?_ _|refine kD ?_|refine kA ?_ _));refine blk_put (cs:=#[.int .i64 0,.slice none 0 0,.slice none 0 0]) ?_ 0 _ rfl;(with_reducible repeat (first|refine kN ?_ _|refine kD ?_|refine kA ?_ _));exact BK122.out) hb);have n2_:=Z (below_step pB hb);clear BK117;clear BK122;clear HB;have BK117:=n0_;have BK122:=n1_;have HB:=n2_;clear n0_ n1_ n2_;(try clear hb);(try clear hb2);(try clear hk);(try clear hi)))
              go_roundg k3
              case measure=>have:=HJ1.out;have:=HK2.out;have:=HK3.out;omega
              case rel=>exact ⟨(wrap64 (x51_3+1)),pE,H',⟨by have:=HJ1.out;have:=HK2.out;have:=HK3.out;omega⟩,⟨pK BK117⟩,⟨pB⟩⟩
             ·rw [if_neg c21] at H
              have c21b0:(t123 == 0)=false:=beq_eq_false_iff_ne.mpr c21
              have c21b1:(t123 != 0)=true:=bne_iff_ne.mpr c21
              obtain rfl:=Option.some.inj H
              have p121:0≤(x51_3:Int):=of_decide_eq_true (by first|(with_reducible assumption)|assumption)
              have q121:x51_3 < (l0_2.length:Int):=of_decide_eq_true (by first|(with_reducible assumption)|assumption)
              obtain ⟨ad121,A121_1,c121_1,A121_2,c121_2,e121,hx121_0,hx121_1,hx121_2,hl121_1,hi121_1,hl121_2,hi121_2⟩:=at_T32 HR0_2.out x51_3 p121 q121
              cases e121
              replace hx121_0:=(HB.out.cell (World.block_lt_of_cell? w _ hx121_0)).trans hx121_0
              replace hx121_1:=(HB.out.cell (World.block_lt_of_cell? w _ hx121_1)).trans hx121_1
              replace hx121_2:=(HB.out.cell (World.block_lt_of_cell? w _ hx121_2)).trans hx121_2
              have HR121_1:=Z hi121_1
              have HC121_1:=Z hl121_1
              clear hi121_1 hl121_1
              have HR121_2:=Z hi121_2
              have HC121_2:=Z hl121_2
              clear hi121_2 hl121_2
              replace p121:=eq_true p121
              replace q121:=eq_true q121
              go_wp2_with (first|((with_reducible refine gate_dst (N:=8) rfl ?_);(try (refine gate_guard (by rfl) ?_;dsimp only));refine box_event ?hg (N:=8) ?hd (cs:=#[.int .i64 0,.slice none 0 0,.slice none 0 0]) (t:=32) ?hr ?_;(case hd=>rfl);(case hg=>rfl);(case hr=>first|(go_simp;done)|(go_simp;rfl));intro gb122 hg w26 hbox hb;have n0_:=Z (blk_below (g:=gb117) (o:=.cells #[.int .i64 a0_0,.slice A0_1 l0_1.length c0_1,.slice (some ad121) l0_2.length c0_2] 32 (0,0)) (pK BK117) hb);have n1_:=Z (below_step pB hb);have n2_:=Z (hbox);have n3_:=Z ((pT hg:w.heap.size≤gb122));have n4_:=Z ((pT hg:w.heap.size≤gb122));have n5_:=Z ((pL hg (pK BK117):gb117 ≠ gb122));have n6_:=Z ((pM hg (pK BK117):gb122 ≠ gb117));clear BK117;clear HB;have BK117:=n0_;have HB:=n1_;have BK122:=n2_;have GW122:=n3_;have GE122:=n4_;have NB117_122:=n5_;have NB122_117:=n6_;clear n0_ n1_ n2_ n3_ n4_ n5_ n6_;clear hb hbox hg;have hnb27:=NB122_117.out;have hnc27:=NB117_122.out;have hcz28_0:w26.cell? ⟨gb122,0,none⟩=some (.int .i64 0):=(kC BK122.out 0).trans rfl;have hcz28_1:w26.cell? ⟨gb122,1,none⟩=some (.slice none 0 0):=(kC BK122.out 1).trans rfl;have hcz28_2:w26.cell? ⟨gb122,2,none⟩=some (.slice none 0 0):=(kC BK122.out 2).trans rfl;have hfz28_0:=kF BK122.out 0;have hfz28_1:=kF BK122.out 1;have hfz28_2:=kF BK122.out 2)|((with_reducible refine gate_callee (f:=88) rfl ?_);refine goesL_ (some 56) rfl rfl Try.func88 (by kernel_rfl) rfl #[.agg #[.int .i64 ((rd_T32 l0_2 x51_3).f0),.slice A121_1 ((rd_T32 l0_2 x51_3).f1).length c121_1,.slice A121_2 ((rd_T32 l0_2 x51_3).f2).length c121_2]] rfl pG ?_;(with_reducible refine (ih k3 (by have:=HJ1.out;have:=HK2.out;have:=HK3.out;omega) ((rd_T32 l0_2 x51_3).f0) _ _ ((rd_T32 l0_2 x51_3).f1) _ _ ((rd_T32 l0_2 x51_3).f2) t123 _ ?side1 ?side2 ?side3 ?side4 A20.out).mono ?_);(case side1=>exact Kd.C_below HR121_1.out pB);(case side2=>exact HC121_1.out);(case side3=>exact Kd.C_below HR121_2.out pB);(case side4=>exact HC121_2.out);rintro e w29 ⟨rfl,hb⟩;refine ⟨_,rfl,?_⟩;have n0_:=Z (blk_below (g:=gb117) (o:=.cells #[.int .i64 a0_0,.slice A0_1 l0_1.length c0_1,.slice (some ad121) l0_2.length c0_2] 32 (0,0)) (by (with_reducible repeat (first|refine kN ?_ _|refine kD ?_|refine kA ?_ _));refine blk_far ?_ NB117_122.out _;(with_reducible repeat (first|refine kN ?_ _|refine kD ?_|refine kA ?_ _));refine blk_far ?_ NB117_122.out _;(with_reducible repeat (first|refine kN ?_ _|refine kD ?_|refine kA ?_ _));refine blk_far ?_ NB117_122.out _;(with_reducible repeat (first|refine kN ?_ _|refine kD ?_|refine kA ?_ _));exact BK117.out) hb);have n1_:=Z (blk_below (g:=gb122) (o:=.cells #[.int .i64 ((rd_T32 l0_2 x51_3).f0),.slice A121_1 ((rd_T32 l0_2 x51_3).f1).length c121_1,.slice A121_2 ((rd_T32 l0_2 x51_3).f2).length c121_2] 32 (0,0)) (by (with_reducible repeat (first|refine kN ?_ _|refine kD ?_|refine kA ?_ _));refine blk_put (cs:=#[.int .i64 ((rd_T32 l0_2 x51_3).f0),.slice A121_1 ((rd_T32 l0_2 x51_3).f1).length c121_1,.slice none 0 0]) ?_ 2 _ rfl;(with_reducible repeat (first|refine kN ?_ _|refine kD ?_|refine kA ?_ _));refine blk_put (cs:=#[.int .i64 ((rd_T32 l0_2 x51_3).f0),.slice none 0 0,.slice none 0 0]) ?_ 1 _ rfl;(with_reducible repeat (first|refine kN ?_ _|refine kD ?_|refine kA ?_ _));refine blk_put (cs:=#[.int .i64 0,.slice none 0 0,.slice none 0 0]) ?_ 0 _ rfl;(with_reducible repeat (first|refine kN ?_ _|refine kD ?_|refine kA ?_ _));exact BK122.out) hb);have n2_:=Z (below_step pB hb);clear BK117;clear BK122;clear HB;have BK117:=n0_;have BK122:=n1_;have HB:=n2_;clear n0_ n1_ n2_;(try clear hb);(try clear hb2);(try clear hk);(try clear hi)))
              go_ret
              exact ⟨pF,pB⟩
            ·rw [if_neg c19] at H
             exact absurd H (by simp)
           ·rw [if_neg c18] at H
            exact absurd H (by simp)
          ·rw [if_neg c17] at H
           have c17b0:decide (x51_3 < (l0_2.length:Int))=false:=decide_eq_false c17
           clear c17
           obtain rfl:=Option.some.inj H
           go_wp2
           go_ret
           exact ⟨pF,pB⟩
       ·rw [if_neg c15] at H
        have c15b0:(t120 == 0)=false:=beq_eq_false_iff_ne.mpr c15
        have c15b1:(t120 != 0)=true:=bne_iff_ne.mpr c15
        obtain rfl:=Option.some.inj H
        have hcz30_0:wr.cell? ⟨gb117,0,none⟩=some (.int .i64 a0_0):=(kC BK117.out 0).trans rfl
        have hcz30_1:wr.cell? ⟨gb117,1,none⟩=some (.slice A0_1 l0_1.length c0_1):=(kC BK117.out 1).trans rfl
        have hcz30_2:wr.cell? ⟨gb117,2,none⟩=some (.slice A0_2 l0_2.length c0_2):=(kC BK117.out 2).trans rfl
        have hfz30_0:=kF BK117.out 0
        have hfz30_1:=kF BK117.out 1
        have hfz30_2:=kF BK117.out 2
        go_wp2_with (first|((with_reducible refine gate_callee (f:=109) rfl ?_);refine goesL_ (some 42) rfl rfl Try.func109 (by kernel_rfl) rfl #[.slice A0_1 l0_1.length c0_1] rfl pG ?_;(with_reducible refine (trustquorumref01_Of.calls k2 _ _ l0_1 t119 t120 _ ?side1 ?side2 A14.out).mono ?_);(case side1=>repeat (first|exact (Kd.C_below HR0_1.out HB.out)|(with_reducible refine Kd.C_alloc ?_ _)|(with_reducible refine Kd.C_drewN ?_ _)|(with_reducible refine Kd.C_drew ?_)));(case side2=>exact HC0_1.out);rintro e w' ⟨rfl,⟨nd,rfl⟩⟩;refine ⟨_,rfl,?_⟩))
        go_ret
        exact ⟨pF,pB⟩
def trustquorumref02_Valid.f (k:Nat) (a0_0:Int) (l0_1:List Int) (l0_2:List (S32)):Option (Int):=(trustquorumref02_Depth.f k a0_0 l0_1 l0_2).bind fun t125=>(if t125 > 4 then (some 3) else ((trustquorumref02_Size.f k a0_0 l0_1 l0_2).bind fun t126=>(if t126 > 200 then (some 3) else ((trustquorumref02_check.f k a0_0 l0_1 l0_2).bind fun t127=>(some t127)))))
set_option maxHeartbeats 8000000 in
set_option maxRecDepth 100000 in
theorem trustquorumref02_Valid.calls (k:Nat) (a0_0:Int) (A0_1:Option Addr) (c0_1:Nat) (l0_1:List Int) (A0_2:Option Addr) (c0_2:Nat) (l0_2:List (S32)) (r:Int) (w:World) (hr0_1:Kd.C (Kd.int .i64) w A0_1 l0_1.length l0_1) (hc0_1:l0_1.length≤c0_1) (hr0_2:Kd.C k32 w A0_2 l0_2.length l0_2) (hc0_2:l0_2.length≤c0_2) (h:trustquorumref02_Valid.f k a0_0 l0_1 l0_2=some r) :
  Calls Try.prog 56 #[.agg #[.int .i64 a0_0,.slice A0_1 l0_1.length c0_1,.slice A0_2 l0_2.length c0_2]] w fun e w'=>e=.returned (.int .i64 r)∧Below w.heap.size w w':=by
 have hu32:=Try.underlying32
 have HR0_1:=Z hr0_1
 have HC0_1:=Z hc0_1
 clear hr0_1 hc0_1
 have HR0_2:=Z hr0_2
 have HC0_2:=Z hc0_2
 clear hr0_2 hc0_2
 have HB:=Z (Below.refl w.heap.size w)
 have H:((trustquorumref02_Depth.f k a0_0 l0_1 l0_2).bind fun t125=>(if t125 > 4 then (some 3) else ((trustquorumref02_Size.f k a0_0 l0_1 l0_2).bind fun t126=>(if t126 > 200 then (some 3) else ((trustquorumref02_check.f k a0_0 l0_1 l0_2).bind fun t127=>(some t127))))))=some r:=h
 clear h
 replace H:=Option.bind_eq_some_iff.mp H
 obtain ⟨t125,A20,H⟩:=H
 try dsimp only at H
 have A2:=Z A20
 clear A20
 by_cases c3:t125 > 4
 ·rw [if_pos c3] at H
  have c3b0:decide (4 < t125)=true:=decide_eq_true c3
  clear c3
  obtain rfl:=Option.some.inj H
  go_enter Try.func56,Try.ntmps56
  go_wp2_with (first|((with_reducible refine gate_dst (N:=1) rfl ?_);refine box_event ?hg (N:=1) ?hd (cs:=#[.int .i64 a0_0,.slice A0_1 l0_1.length c0_1,.slice A0_2 l0_2.length c0_2]) (t:=32) ?hr ?_;(case hd=>rfl);(case hg=>rfl);(case hr=>first|(go_simp;done)|(go_simp;rfl));intro gb124 hg w4 hbox hb;have n0_:=Z (below_step pB hb);have n1_:=Z (hbox);have n2_:=Z ((pT hg:w.heap.size≤gb124));have n3_:=Z ((pT hg:w.heap.size≤gb124));clear HB;have HB:=n0_;have BK124:=n1_;have GW124:=n2_;have GE124:=n3_;clear n0_ n1_ n2_ n3_;clear hb hbox hg;have hcz5_0:w4.cell? ⟨gb124,0,none⟩=some (.int .i64 a0_0):=(kC BK124.out 0).trans rfl;have hcz5_1:w4.cell? ⟨gb124,1,none⟩=some (.slice A0_1 l0_1.length c0_1):=(kC BK124.out 1).trans rfl;have hcz5_2:w4.cell? ⟨gb124,2,none⟩=some (.slice A0_2 l0_2.length c0_2):=(kC BK124.out 2).trans rfl;have hfz5_0:=kF BK124.out 0;have hfz5_1:=kF BK124.out 1;have hfz5_2:=kF BK124.out 2)|((with_reducible refine gate_callee (f:=86) rfl ?_);refine goesL_ (some 4) rfl rfl Try.func86 (by kernel_rfl) rfl #[.agg #[.int .i64 a0_0,.slice A0_1 l0_1.length c0_1,.slice A0_2 l0_2.length c0_2]] rfl pG ?_;(with_reducible refine (trustquorumref02_Depth.calls k a0_0 _ _ l0_1 _ _ l0_2 t125 _ ?side1 ?side2 ?side3 ?side4 A2.out).mono ?_);(case side1=>repeat (first|exact (Kd.C_below HR0_1.out HB.out)|(with_reducible refine Kd.C_alloc ?_ _)|(with_reducible refine Kd.C_drewN ?_ _)|(with_reducible refine Kd.C_drew ?_)));(case side2=>exact HC0_1.out);(case side3=>repeat (first|exact (Kd.C_below HR0_2.out HB.out)|(with_reducible refine Kd.C_alloc ?_ _)|(with_reducible refine Kd.C_drewN ?_ _)|(with_reducible refine Kd.C_drew ?_)));(case side4=>exact HC0_2.out);rintro e w6 ⟨rfl,hb⟩;refine ⟨_,rfl,?_⟩;have n0_:=Z (blk_below (g:=gb124) (o:=.cells #[.int .i64 a0_0,.slice A0_1 l0_1.length c0_1,.slice A0_2 l0_2.length c0_2] 32 (0,0)) (pK BK124) hb);have n1_:=Z (below_step pB hb);clear BK124;clear HB;have BK124:=n0_;have HB:=n1_;clear n0_ n1_;(try clear hb);(try clear hb2);(try clear hk);(try clear hi)))
  go_ret
  exact ⟨pF,pB⟩
 ·rw [if_neg c3] at H
  have c3b0:decide (4 < t125)=false:=decide_eq_false c3
  clear c3
  replace H:=Option.bind_eq_some_iff.mp H
  obtain ⟨t126,A70,H⟩:=H
  try dsimp only at H
  have A7:=Z A70
  clear A70
  by_cases c8:t126 > 200
  ·rw [if_pos c8] at H
   have c8b0:decide (200 < t126)=true:=decide_eq_true c8
   clear c8
   obtain rfl:=Option.some.inj H
   go_enter Try.func56,Try.ntmps56
   go_wp2_with (first|((with_reducible refine gate_dst (N:=1) rfl ?_);refine box_event ?hg (N:=1) ?hd (cs:=#[.int .i64 a0_0,.slice A0_1 l0_1.length c0_1,.slice A0_2 l0_2.length c0_2]) (t:=32) ?hr ?_;(case hd=>rfl);(case hg=>rfl);(case hr=>first|(go_simp;done)|(go_simp;rfl));intro gb124 hg w9 hbox hb;have n0_:=Z (below_step pB hb);have n1_:=Z (hbox);have n2_:=Z ((pT hg:w.heap.size≤gb124));have n3_:=Z ((pT hg:w.heap.size≤gb124));clear HB;have HB:=n0_;have BK124:=n1_;have GW124:=n2_;have GE124:=n3_;clear n0_ n1_ n2_ n3_;clear hb hbox hg;have hcz10_0:w9.cell? ⟨gb124,0,none⟩=some (.int .i64 a0_0):=(kC BK124.out 0).trans rfl;have hcz10_1:w9.cell? ⟨gb124,1,none⟩=some (.slice A0_1 l0_1.length c0_1):=(kC BK124.out 1).trans rfl;have hcz10_2:w9.cell? ⟨gb124,2,none⟩=some (.slice A0_2 l0_2.length c0_2):=(kC BK124.out 2).trans rfl;have hfz10_0:=kF BK124.out 0;have hfz10_1:=kF BK124.out 1;have hfz10_2:=kF BK124.out 2)|((with_reducible refine gate_callee (f:=86) rfl ?_);refine goesL_ (some 4) rfl rfl Try.func86 (by kernel_rfl) rfl #[.agg #[.int .i64 a0_0,.slice A0_1 l0_1.length c0_1,.slice A0_2 l0_2.length c0_2]] rfl pG ?_;(with_reducible refine (trustquorumref02_Depth.calls k a0_0 _ _ l0_1 _ _ l0_2 t125 _ ?side1 ?side2 ?side3 ?side4 A2.out).mono ?_);(case side1=>repeat (first|exact (Kd.C_below HR0_1.out HB.out)|(with_reducible refine Kd.C_alloc ?_ _)|(with_reducible refine Kd.C_drewN ?_ _)|(with_reducible refine Kd.C_drew ?_)));(case side2=>exact HC0_1.out);(case side3=>repeat (first|exact (Kd.C_below HR0_2.out HB.out)|(with_reducible refine Kd.C_alloc ?_ _)|(with_reducible refine Kd.C_drewN ?_ _)|(with_reducible refine Kd.C_drew ?_)));(case side4=>exact HC0_2.out);rintro e w11 ⟨rfl,hb⟩;refine ⟨_,rfl,?_⟩;have n0_:=Z (blk_below (g:=gb124) (o:=.cells #[.int .i64 a0_0,.slice A0_1 l0_1.length c0_1,.slice A0_2 l0_2.length c0_2] 32 (0,0)) (pK BK124) hb);have n1_:=Z (below_step pB hb);clear BK124;clear HB;have BK124:=n0_;have HB:=n1_;clear n0_ n1_;(try clear hb);(try clear hb2);(try clear hk);(try clear hi);have hcz12_0:w11.cell? ⟨gb124,0,none⟩=some (.int .i64 a0_0):=(kC BK124.out 0).trans rfl;have hcz12_1:w11.cell? ⟨gb124,1,none⟩=some (.slice A0_1 l0_1.length c0_1):=(kC BK124.out 1).trans rfl;have hcz12_2:w11.cell? ⟨gb124,2,none⟩=some (.slice A0_2 l0_2.length c0_2):=(kC BK124.out 2).trans rfl;have hfz12_0:=kF BK124.out 0;have hfz12_1:=kF BK124.out 1;have hfz12_2:=kF BK124.out 2)|(go_at_call 87;(with_reducible refine (trustquorumref02_Size.calls k a0_0 _ _ l0_1 _ _ l0_2 t126 _ ?side1 ?side2 ?side3 ?side4 A7.out).mono ?_);(case side1=>repeat (first|exact (Kd.C_below HR0_1.out HB.out)|(with_reducible refine Kd.C_alloc ?_ _)|(with_reducible refine Kd.C_drewN ?_ _)|(with_reducible refine Kd.C_drew ?_)));(case side2=>exact HC0_1.out);(case side3=>repeat (first|exact (Kd.C_below HR0_2.out HB.out)|(with_reducible refine Kd.C_alloc ?_ _)|(with_reducible refine Kd.C_drewN ?_ _)|(with_reducible refine Kd.C_drew ?_)));(case side4=>exact HC0_2.out);rintro e w13 ⟨rfl,hb⟩;have n0_:=Z (blk_below (g:=gb124) (o:=.cells #[.int .i64 a0_0,.slice A0_1 l0_1.length c0_1,.slice A0_2 l0_2.length c0_2] 32 (0,0)) (pK BK124) hb);have n1_:=Z (below_step pB hb);clear BK124;clear HB;have BK124:=n0_;have HB:=n1_;clear n0_ n1_;(try clear hb);(try clear hb2);(try clear hk);(try clear hi)))
   go_ret
   exact ⟨pF,pB⟩
  ·rw [if_neg c8] at H
   have c8b0:decide (200 < t126)=false:=decide_eq_false c8
   clear c8
   replace H:=Option.bind_eq_some_iff.mp H
   obtain ⟨t127,A140,H⟩:=H
   try dsimp only at H
   have A14:=Z A140
   clear A140
   obtain rfl:=Option.some.inj H
   go_enter Try.func56,Try.ntmps56
   go_wp2_with (first|((with_reducible refine gate_dst (N:=1) rfl ?_);refine box_event ?hg (N:=1) ?hd (cs:=#[.int .i64 a0_0,.slice A0_1 l0_1.length c0_1,.slice A0_2 l0_2.length c0_2]) (t:=32) ?hr ?_;(case hd=>rfl);(case hg=>rfl);(case hr=>first|(go_simp;done)|(go_simp;rfl));intro gb124 hg w15 hbox hb;have n0_:=Z (below_step pB hb);have n1_:=Z (hbox);have n2_:=Z ((pT hg:w.heap.size≤gb124));have n3_:=Z ((pT hg:w.heap.size≤gb124));clear HB;have HB:=n0_;have BK124:=n1_;have GW124:=n2_;have GE124:=n3_;clear n0_ n1_ n2_ n3_;clear hb hbox hg;have hcz16_0:w15.cell? ⟨gb124,0,none⟩=some (.int .i64 a0_0):=(kC BK124.out 0).trans rfl;have hcz16_1:w15.cell? ⟨gb124,1,none⟩=some (.slice A0_1 l0_1.length c0_1):=(kC BK124.out 1).trans rfl;have hcz16_2:w15.cell? ⟨gb124,2,none⟩=some (.slice A0_2 l0_2.length c0_2):=(kC BK124.out 2).trans rfl;have hfz16_0:=kF BK124.out 0;have hfz16_1:=kF BK124.out 1;have hfz16_2:=kF BK124.out 2)|((with_reducible refine gate_callee (f:=86) rfl ?_);refine goesL_ (some 4) rfl rfl Try.func86 (by kernel_rfl) rfl #[.agg #[.int .i64 a0_0,.slice A0_1 l0_1.length c0_1,.slice A0_2 l0_2.length c0_2]] rfl pG ?_;(with_reducible refine (trustquorumref02_Depth.calls k a0_0 _ _ l0_1 _ _ l0_2 t125 _ ?side1 ?side2 ?side3 ?side4 A2.out).mono ?_);(case side1=>repeat (first|exact (Kd.C_below HR0_1.out HB.out)|(with_reducible refine Kd.C_alloc ?_ _)|(with_reducible refine Kd.C_drewN ?_ _)|(with_reducible refine Kd.C_drew ?_)));(case side2=>exact HC0_1.out);(case side3=>repeat (first|exact (Kd.C_below HR0_2.out HB.out)|(with_reducible refine Kd.C_alloc ?_ _)|(with_reducible refine Kd.C_drewN ?_ _)|(with_reducible refine Kd.C_drew ?_)));(case side4=>exact HC0_2.out);rintro e w17 ⟨rfl,hb⟩;refine ⟨_,rfl,?_⟩;have n0_:=Z (blk_below (g:=gb124) (o:=.cells #[.int .i64 a0_0,.slice A0_1 l0_1.length c0_1,.slice A0_2 l0_2.length c0_2] 32 (0,0)) (pK BK124) hb);have n1_:=Z (below_step pB hb);clear BK124;clear HB;have BK124:=n0_;have HB:=n1_;clear n0_ n1_;(try clear hb);(try clear hb2);(try clear hk);(try clear hi);have hcz18_0:w17.cell? ⟨gb124,0,none⟩=some (.int .i64 a0_0):=(kC BK124.out 0).trans rfl;have hcz18_1:w17.cell? ⟨gb124,1,none⟩=some (.slice A0_1 l0_1.length c0_1):=(kC BK124.out 1).trans rfl;have hcz18_2:w17.cell? ⟨gb124,2,none⟩=some (.slice A0_2 l0_2.length c0_2):=(kC BK124.out 2).trans rfl;have hfz18_0:=kF BK124.out 0;have hfz18_1:=kF BK124.out 1;have hfz18_2:=kF BK124.out 2)|(go_at_call 87;(with_reducible refine (trustquorumref02_Size.calls k a0_0 _ _ l0_1 _ _ l0_2 t126 _ ?side1 ?side2 ?side3 ?side4 A7.out).mono ?_);(case side1=>repeat (first|exact (Kd.C_below HR0_1.out HB.out)|(with_reducible refine Kd.C_alloc ?_ _)|(with_reducible refine Kd.C_drewN ?_ _)|(with_reducible refine Kd.C_drew ?_)));(case side2=>exact HC0_1.out);(case side3=>repeat (first|exact (Kd.C_below HR0_2.out HB.out)|(with_reducible refine Kd.C_alloc ?_ _)|(with_reducible refine Kd.C_drewN ?_ _)|(with_reducible refine Kd.C_drew ?_)));(case side4=>exact HC0_2.out);rintro e w19 ⟨rfl,hb⟩;have n0_:=Z (blk_below (g:=gb124) (o:=.cells #[.int .i64 a0_0,.slice A0_1 l0_1.length c0_1,.slice A0_2 l0_2.length c0_2] 32 (0,0)) (pK BK124) hb);have n1_:=Z (below_step pB hb);clear BK124;clear HB;have BK124:=n0_;have HB:=n1_;clear n0_ n1_;(try clear hb);(try clear hb2);(try clear hk);(try clear hi);have hcz20_0:w19.cell? ⟨gb124,0,none⟩=some (.int .i64 a0_0):=(kC BK124.out 0).trans rfl;have hcz20_1:w19.cell? ⟨gb124,1,none⟩=some (.slice A0_1 l0_1.length c0_1):=(kC BK124.out 1).trans rfl;have hcz20_2:w19.cell? ⟨gb124,2,none⟩=some (.slice A0_2 l0_2.length c0_2):=(kC BK124.out 2).trans rfl;have hfz20_0:=kF BK124.out 0;have hfz20_1:=kF BK124.out 1;have hfz20_2:=kF BK124.out 2)|((with_reducible refine gate_callee (f:=88) rfl ?_);refine goesL_ (some 12) rfl rfl Try.func88 (by kernel_rfl) rfl #[.agg #[.int .i64 a0_0,.slice A0_1 l0_1.length c0_1,.slice A0_2 l0_2.length c0_2]] rfl pG ?_;(with_reducible refine (trustquorumref02_check.calls k a0_0 _ _ l0_1 _ _ l0_2 t127 _ ?side1 ?side2 ?side3 ?side4 A14.out).mono ?_);(case side1=>repeat (first|exact (Kd.C_below HR0_1.out HB.out)|(with_reducible refine Kd.C_alloc ?_ _)|(with_reducible refine Kd.C_drewN ?_ _)|(with_reducible refine Kd.C_drew ?_)));(case side2=>exact HC0_1.out);(case side3=>repeat (first|exact (Kd.C_below HR0_2.out HB.out)|(with_reducible refine Kd.C_alloc ?_ _)|(with_reducible refine Kd.C_drewN ?_ _)|(with_reducible refine Kd.C_drew ?_)));(case side4=>exact HC0_2.out);rintro e w21 ⟨rfl,hb⟩;refine ⟨_,rfl,?_⟩;have n0_:=Z (blk_below (g:=gb124) (o:=.cells #[.int .i64 a0_0,.slice A0_1 l0_1.length c0_1,.slice A0_2 l0_2.length c0_2] 32 (0,0)) (pK BK124) hb);have n1_:=Z (below_step pB hb);clear BK124;clear HB;have BK124:=n0_;have HB:=n1_;clear n0_ n1_;(try clear hb);(try clear hb2);(try clear hk);(try clear hi)))
   go_ret
   exact ⟨pF,pB⟩
mutual
def trustquorummake_Tape_Order.l0:Nat→Int→List Int→Int→List Int→Int→Option (List Int × Int)
 | 0,_,_,_,_,_=>none
 | k+1,x1,x5,x6,x1000,x1001=>if x6 < x1 then (if x5.length < 17592186044416 then (trustquorummake_Tape_Order.l0 k x1 (x5++[x6]) (wrap64 (x6+1)) x1000 x1001) else (none)) else (trustquorummake_Tape_Order.l1 k x5 (wrap64 (x1 - 1)) x1000 x1001)
def trustquorummake_Tape_Order.l1:Nat→List Int→Int→List Int→Int→Option (List Int × Int)
 | 0,_,_,_,_=>none
 | k+1,x5,x7,x1000,x1001=>if x7 > 0 then ((trustquorummake_Tape_N.f x1000 x1001 (wrap64 (x7+1))).bind fun bt131=>(if 0≤bt131.1 then (if bt131.1 < (x5.length:Int) then (if 0≤x7 then (if x7 < (x5.length:Int) then (trustquorummake_Tape_Order.l1 k ((x5.set (x7:Int).toNat (rd x5 bt131.1)).set (bt131.1:Int).toNat (rd x5 x7)) (wrap64 (x7 - 1)) x1000 bt131.2) else (none)) else (none)) else (none)) else (none))) else (some (x5,x1001))
end
def trustquorummake_Tape_Order.f (k:Nat) (s0_0:List Int) (s0_1:Int) (a1:Int):Option (List Int × Int):=trustquorummake_Tape_Order.l0 k a1 ([]:List Int) 0 s0_0 s0_1
def trustquorummake_Tape_Order.T10:Bool × List (List Nat × List Nat):=(true,[([],[]),([],[]),([],[]),([],[]),([],[]),([],[]),([4,5],[4,5]),([6],[6]),([],[]),([],[]),([8,9],[8,9]),([10],[10]),([0,1,0,1,4,5,6,7,11],[0,1]),([12,7,0,1,4,5,6,7,11],[7,12]),([2,3,0,1,2,3,4,5,6,7,8,9,10,11,12,13],[2,3]),([14,11,13,0,1,2,3,4,5,6,7,8,9,10,11,12,13],[11,14])])
def trustquorummake_Tape_Order.B10:List Nat:=[0,0,0,0,0,0,48,112,0,0,768,1792,4083,8179,16383,32767]
theorem trustquorummake_Tape_Order.tab10:rtab .any (opsOf Try.f33 10)=trustquorummake_Tape_Order.T10:=by kernel_rfl
theorem trustquorummake_Tape_Order.bits10:waitsOk trustquorummake_Tape_Order.T10.2 trustquorummake_Tape_Order.B10=true:=by kernel_rfl
set_option maxHeartbeats 8000000 in
set_option maxRecDepth 100000 in
theorem trustquorummake_Tape_Order.calls (k:Nat) (g:Nat) (s0_0:List Int) (s0_1:Int) (a1:Int) (r1:List Int) (r2:Int) (w0 w:World) (hI:IsS71 w0 w g s0_0 s0_1) (hB:Below w0.heap.size w0 w) (h:trustquorummake_Tape_Order.f k s0_0 s0_1 a1=some (r1,r2)) :
  Calls Try.prog 33 #[.pointer (some ⟨g,0,none⟩),.int .i64 a1] w fun e w'=>∃ v0_:Value,e=.returned (v0_)∧Kd.R (Kd.int .i64) 3 w' w.heap.size (fun _=>True) v0_ r1∧IsS71 w0 w' g s0_0 r2∧Below w0.heap.size w0 w'∧KeepBut w w' g none:=by
 have HI0:=Z hI
 have HK:=Z (KeepBut.refl w g none)
 have HL:=Z hB.size
 clear hI
 have HW0:=Z hB.size
 have HB:=Z hB
 clear hB
 have H:(trustquorummake_Tape_Order.l0 k a1 ([]:List Int) 0 s0_0 s0_1)=some (r1,r2):=h
 clear h
 have H':=Z H
 clear H
 go_enter Try.func33,Try.ntmps33
 go_wp2
 go_loopg [5,6] k (fun kq v5 v6 w'=>∃ (x5_1:List Int) (x6_1:Int),v6=.int .i64 x6_1∧Aside0 (trustquorummake_Tape_Order.l0 kq a1 x5_1 x6_1 s0_0 s0_1=some (r1,r2))∧Aside0 (kq≤k)∧Aside0 (Kd.R (Kd.int .i64) 3 w' w.heap.size (fun _=>True) v5 x5_1)∧Aside0 (IsS71 w0 w' g s0_0 s0_1)∧Aside0 (KeepBut w w' g none)∧Aside0 (Below w0.heap.size w0 w'))
 case atStart=>exact ⟨(([]:List Int)),(0),pE,H',⟨Nat.le_refl _⟩,⟨pN⟩,⟨pI⟩,⟨pH⟩,⟨pB⟩⟩
 case round =>
  clear H'
  try clear p2
  obtain ⟨x5_1,x6_1,rfl,HA,HK1,HO_5,HI0,HK,HB⟩:=hrel
  cases gk with
  | zero=>exact absurd HA.out (by simp [trustquorummake_Tape_Order.l0])
  | succ k1 =>
   have H:=HA.out
   clear HA
   simp only [trustquorummake_Tape_Order.l0] at H
   by_cases c3:x6_1 < a1
   ·rw [if_pos c3] at H
    have c3b0:decide (x6_1 < a1)=true:=decide_eq_true c3
    clear c3
    by_cases c4:x5_1.length < 17592186044416
    ·rw [if_pos c4] at H
     have LMc4:=Z c4
     clear c4
     obtain ⟨y128,hy128⟩:∃ y_:List Int,y_=(x5_1++[x6_1]):=⟨_,rfl⟩
     first|rw [← hy128] at H|(replace H:=(Option.bind_some _ _).symm.trans H;rw [← hy128] at H)
     have Ny128:=Z hy128
     clear hy128
     have H':=Z H
     clear H
     go_wp2_with (first|((with_reducible refine gate_builtin (b:=.append) (xs:=#[.tmp 14,.tmp 16]) rfl ?_);at_builtin;refine Kd.R_append (Kd.int .i64) w.heap.size rfl (.tmp 14) (.tmp 16) 22 3 (.int .i64 0) 8 rfl Try.underlying22 info3 rfl (by decide) (by omega) u5 x5_1 x6_1 [.int .i64 x6_1] (fun _=>True) (fun _=>False) rfl rfl ?aP (fun _ hk=>hk.elim) ?aF ?aO (Below.refl _ _) ?aS ?aL ?_;(case aP=>exact rfl);(case aF=>exact (fun _ _=>trivial));(case aO=>exact (pR HO_5));(case aS=>exact (keep_size (w:=w) (g:=g) (row:=none) pH));(case aL=>have:=LMc4.out;omega);intro v129 w5 ho hb hg hat;rw [← Ny128.out] at ho;have n0_:=Z (IsS71.grown pI hg (IsS71.own_ne HI0.out HO_5.out (by decide)));have n1_:=Z (below_weaken pB HL.out hb);have n2_:=Z (KeepBut.trans pH (KeepBut.of_grown hg g) (Kd.R_base2 HO_5.out));have n3_:=Z (ho);clear HI0;clear HB;clear HK;clear HO_5;have HI0:=n0_;have HB:=n1_;have HK:=n2_;have HO130:=n3_;clear n0_ n1_ n2_ n3_;clear ho hb hg hat))
     go_roundg k1
     case measure=>have:=HK1.out;omega
     case rel=>exact ⟨(y128),(wrap64 (x6_1+1)),pE,H',⟨by have:=HK1.out;omega⟩,⟨pR HO130⟩,⟨pI⟩,⟨pH⟩,⟨pB⟩⟩
    ·rw [if_neg c4] at H
     exact absurd H (by simp)
   ·rw [if_neg c3] at H
    have c3b0:decide (x6_1 < a1)=false:=decide_eq_false c3
    clear c3
    have H':=Z H
    clear H
    go_wp2
    go_loopg [7] k1 (fun kq v7 w'=>∃ (x5_2:List Int) (x7_2:Int) (x1001_2:Int),v7=.int .i64 x7_2∧Aside0 (trustquorummake_Tape_Order.l1 kq x5_2 x7_2 s0_0 x1001_2=some (r1,r2))∧Aside0 (kq≤k1)∧Aside0 (Kd.R (Kd.int .i64) 3 w' w.heap.size (fun _=>True) u5 x5_2)∧Aside0 (IsS71 w0 w' g s0_0 x1001_2)∧Aside0 (KeepBut w w' g none)∧Aside0 (Below w0.heap.size w0 w'))
    case atStart=>exact ⟨(x5_1),(wrap64 (a1 - 1)),(s0_1),pE,H',⟨Nat.le_refl _⟩,⟨pR HO_5⟩,⟨pI⟩,⟨pH⟩,⟨pB⟩⟩
    case round =>
     clear H'
     try clear p2
     try clear c3
     try clear c3b0
     try clear c4
     obtain ⟨x5_2,x7_2,x1001_2,rfl,HA,HK2,HO_5,HI0,HK,HB⟩:=hrel
     cases gk with
     | zero=>exact absurd HA.out (by simp [trustquorummake_Tape_Order.l1])
     | succ k2 =>
      have H:=HA.out
      clear HA
      simp only [trustquorummake_Tape_Order.l1] at H
      by_cases c6:x7_2 > 0
      ·rw [if_pos c6] at H
       have c6b0:decide (0 < x7_2)=true:=decide_eq_true c6
       clear c6
       replace H:=Option.bind_eq_some_iff.mp H
       obtain ⟨⟨t131,t132⟩,A70,H⟩:=H
       try dsimp only at H
       have A7:=Z A70
       clear A70
       by_cases c8:0≤t131
       ·rw [if_pos c8] at H
        have c8b0:decide (0≤t131)=true:=decide_eq_true c8
        clear c8
        by_cases c9:t131 < (x5_2.length:Int)
        ·rw [if_pos c9] at H
         have c9b0:decide (t131 < (x5_2.length:Int))=true:=decide_eq_true c9
         clear c9
         by_cases c10:0≤x7_2
         ·rw [if_pos c10] at H
          have c10b0:decide (0≤x7_2)=true:=decide_eq_true c10
          clear c10
          by_cases c11:x7_2 < (x5_2.length:Int)
          ·rw [if_pos c11] at H
           have c11b0:decide (x7_2 < (x5_2.length:Int))=true:=decide_eq_true c11
           clear c11
           obtain ⟨y135,hy135⟩:∃ y_:List Int,y_=(x5_2.set (x7_2:Int).toNat (rd x5_2 t131)):=⟨_,rfl⟩
           first|rw [← hy135] at H|(replace H:=(Option.bind_some _ _).symm.trans H;rw [← hy135] at H)
           have Ny135:=Z hy135
           clear hy135
           obtain ⟨y136,hy136⟩:∃ y_:List Int,y_=(y135.set (t131:Int).toNat (rd x5_2 x7_2)):=⟨_,rfl⟩
           first|rw [← hy136] at H|(replace H:=(Option.bind_some _ _).symm.trans H;rw [← hy136] at H)
           have Ny136:=Z hy136
           clear hy136
           have H':=Z H
           clear H
           try go_wp2_with (first|((with_reducible refine gate_callee (f:=16) rfl ?_);refine goesL_ (some 27) rfl rfl Try.func16 (by kernel_rfl) rfl #[.pointer (some ⟨g,0,none⟩),.int .i64 (wrap64 (x7_2+1))] rfl pG ?_;(with_reducible refine (trustquorummake_Tape_N.calls g s0_0 x1001_2 (wrap64 (x7_2+1)) t131 t132 w0 _ ?side1 ?side2 A7.out).mono ?_);(case side1=>exact pI);(case side2=>exact pB);rintro e w14 ⟨rfl,hi,hb,hk⟩;refine ⟨_,rfl,?_⟩;have n0_:=Z (Kd.R_mono (Kd.R_keep (IsS71.apart (show IsS71 w0 _ g s0_0 x1001_2 from pI) (pR HO_5) (by decide)) hk (fun _ h=>h.2)) (fun _ h=>h.1));have n1_:=Z (KeepBut.trans pH hk (.inl rfl));have n2_:=Z (hb);have n3_:=Z (hi);clear HO_5;clear HK;clear HB;clear HI0;have HO_5:=n0_;have HK:=n1_;have HB:=n2_;have HI0:=n3_;clear n0_ n1_ n2_ n3_;(try clear hb);(try clear hb2);(try clear hk);(try clear hi)))
           have n0_:=Z (Kd.R_drew HO_5.out)
           have n1_:=Z (IsS71.drew HI0.out)
           have n2_:=Z (keep_drew HK.out)
           have n3_:=Z (wD HB.out)
           clear HO_5
           clear HI0
           clear HK
           clear HB
           have HO_5:=n0_
           have HI0:=n1_
           have HK:=n2_
           have HB:=n3_
           clear n0_ n1_ n2_ n3_
           obtain ⟨Ao16,co16,eo16⟩:=Kd.R_slice HO_5.out
           (first|subst eo16|(injection eo16 with f1_ f2_ f3_;have f4_:=f1_.symm;have f5_:=f3_.symm;clear f1_ f2_ f3_;subst f4_;subst f5_))
           have p133:0≤(t131:Int):=of_decide_eq_true (by first|(with_reducible assumption)|assumption)
           have q133:t131 < (x5_2.length:Int):=of_decide_eq_true (by first|(with_reducible assumption)|assumption)
           obtain ⟨ad133,e133,hx133_0⟩:=Kd.at_int (Kd.R_reads' HO_5.out).2.2 t131 p133 q133
           cases e133
           replace p133:=eq_true p133
           replace q133:=eq_true q133
           have p134:0≤(x7_2:Int):=of_decide_eq_true (by first|(with_reducible assumption)|assumption)
           have q134:x7_2 < (x5_2.length:Int):=of_decide_eq_true (by first|(with_reducible assumption)|assumption)
           obtain ⟨ad134,e134,hx134_0⟩:=Kd.at_int (Kd.R_reads' HO_5.out).2.2 x7_2 p134 q134
           obtain rfl:ad133=ad134:=(by injection e134)
           replace p134:=eq_true p134
           replace q134:=eq_true q134
           have p12:0≤(x7_2:Int):=of_decide_eq_true (by first|(with_reducible assumption)|assumption)
           have q12:(x7_2:Int) < ((x5_2.length:Int):Int):=of_decide_eq_true (by first|(with_reducible assumption)|assumption)
           obtain ⟨go12,co12,eo12,gb12,gl12,cl12,HG12⟩:=Kd.R_form HO_5.out (by omega)
           (first|cases eo12|(injection eo12 with ea_ en_ ec_;(first|subst ea_|(injection ea_ with ea_;subst ea_));subst ec_;clear en_))
           have GB12:=Z gb12
           have GG12:=Z HG12
           clear gb12 gl12 HG12
           (first|simp only [add_plain] at hx133_0|skip)
           (first|simp only [add_plain] at hx134_0|skip)
           obtain ⟨hx12_0,hf12_0⟩:=Kd.R_celln 0 HO_5.out (x7_2:Int) p12 q12
           replace p12:=eq_true p12
           replace q12:=eq_true q12
           have HN0_go12:=Z (show g ≠ go12 from by have h_:=IsS71.own_ne HI0.out HO_5.out (by decide);intro e_;exact h_ (by rw [e_];rfl))
           have HP17:=Kd.R_putn HO_5.out (x7_2:Int) (rd x5_2 t131)
           rw [← Ny135.out] at HP17
           have HQ17:=Z HP17
           clear HP17
           have p13:0≤(t131:Int):=of_decide_eq_true (by first|(with_reducible assumption)|assumption)
           have q13:(t131:Int) < ((x5_2.length:Int):Int):=of_decide_eq_true (by first|(with_reducible assumption)|assumption)
           obtain ⟨hx13_0,hf13_0⟩:=Kd.R_celln 0 HQ17.out (t131:Int) p13 q13
           replace p13:=eq_true p13
           replace q13:=eq_true q13
           have HN0_go12:=Z (show g ≠ go12 from by have h_:=IsS71.own_ne HI0.out HO_5.out (by decide);intro e_;exact h_ (by rw [e_];rfl))
           have HP18:=Kd.R_putn HQ17.out (t131:Int) (rd x5_2 x7_2)
           rw [← Ny136.out] at HP18
           have HQ18:=Z HP18
           clear HP18
           refine start_ (n:=16) (S:=fun w'=>w'.cell? ⟨go12,(t131).toNat,none⟩=some (.int .i64 (rd x5_2 t131))∧w'.cell? ⟨go12,(x7_2).toNat,none⟩=some (.int .i64 (rd x5_2 x7_2))) (ds:=[13,15]) #[false,false,false,false,false,false,false,false,false,false,false,false,false,false,false,false] (by kernel_rfl) rfl rfl ⟨hx133_0,hx134_0⟩ (fun hHeld=>?_);refine with_tabW trustquorummake_Tape_Order.tab10 trustquorummake_Tape_Order.bits10 (fun HT_ HW_=>?_)
           generalize w14.drew=w15 at HO_5 HI0 HK HB GG12 HQ17 HQ18 hf12_0 hf13_0 hx12_0 hx133_0 hx134_0 hx13_0 hHeld ⊢
           refine pure_ (i:=0) (N:=some 28) (v:=?_) (a':=?_) #[true,false,false,false,false,false,false,false,false,false,false,false,false,false,false,false] rfl rfl (any_of HT_.out (by kernel_rfl)) (fun _ _ _ h=>h) (Or.inl ⟨by rfl,?_⟩) ?_ ?_
           rotate_left
           ·intro w'
            go_simp
            with_reducible rfl
           rotate_left
           ·simp only [Act.put,List.setIfInBounds_toArray,List.set_cons_zero,List.set_cons_succ,i64_w,i32_w]
            rfl
           refine pure_ (i:=1) (N:=some 29) (v:=?_) (a':=?_) #[true,true,false,false,false,false,false,false,false,false,false,false,false,false,false,false] rfl rfl (any_of HT_.out (by kernel_rfl)) (fun _ _ _ h=>h) (Or.inl ⟨by rfl,?_⟩) ?_ ?_
           rotate_left
           ·intro w'
            go_simp
            with_reducible rfl
           rotate_left
           ·simp only [Act.put,List.setIfInBounds_toArray,List.set_cons_zero,List.set_cons_succ,i64_w,i32_w]
            rfl
           refine pure_ (i:=2) (N:=some 30) (v:=?_) (a':=?_) #[true,true,true,false,false,false,false,false,false,false,false,false,false,false,false,false] rfl rfl (any_of HT_.out (by kernel_rfl)) (fun _ _ _ h=>h) (Or.inl ⟨by rfl,?_⟩) ?_ ?_
           rotate_left
           ·intro w'
            go_simp
            with_reducible rfl
           rotate_left
           ·simp only [Act.put,List.setIfInBounds_toArray,List.set_cons_zero,List.set_cons_succ,i64_w,i32_w]
            rfl
           refine pure_ (i:=3) (N:=some 31) (v:=?_) (a':=?_) #[true,true,true,true,false,false,false,false,false,false,false,false,false,false,false,false] rfl rfl (any_of HT_.out (by kernel_rfl)) (fun _ _ _ h=>h) (Or.inl ⟨by rfl,?_⟩) ?_ ?_
           rotate_left
           ·intro w'
            go_simp
            with_reducible rfl
           rotate_left
           ·simp only [Act.put,List.setIfInBounds_toArray,List.set_cons_zero,List.set_cons_succ,i64_w,i32_w]
            rfl
           refine pure_ (i:=4) (N:=some 32) (v:=?_) (a':=?_) #[true,true,true,true,true,false,false,false,false,false,false,false,false,false,false,false] rfl rfl (any_of HT_.out (by kernel_rfl)) (fun _ _ _ h=>h) (Or.inl ⟨by rfl,?_⟩) ?_ ?_
           rotate_left
           ·intro w'
            go_simp
            with_reducible rfl
           rotate_left
           ·simp only [Act.put,List.setIfInBounds_toArray,List.set_cons_zero,List.set_cons_succ,i64_w,i32_w]
            rfl
           refine pure_ (i:=5) (N:=some 33) (v:=?_) (a':=?_) #[true,true,true,true,true,true,false,false,false,false,false,false,false,false,false,false] rfl rfl (any_of HT_.out (by kernel_rfl)) (fun _ _ _ h=>h) (Or.inl ⟨by rfl,?_⟩) ?_ ?_
           rotate_left
           ·intro w'
            go_simp
            with_reducible rfl
           rotate_left
           ·simp only [Act.put,List.setIfInBounds_toArray,List.set_cons_zero,List.set_cons_succ,i64_w,i32_w]
            rfl
           refine pure_ (i:=6) (N:=some 34) (v:=?_) (a':=?_) #[true,true,true,true,true,true,true,false,false,false,false,false,false,false,false,false] rfl rfl (any_of HT_.out (by kernel_rfl)) (fun _ _ _ h=>h) (Or.inl ⟨by rfl,?_⟩) ?_ ?_
           rotate_left
           ·intro w'
            go_simp
            with_reducible rfl
           rotate_left
           ·simp only [Act.put,List.setIfInBounds_toArray,List.set_cons_zero,List.set_cons_succ,i64_w,i32_w]
            rfl
           refine pure_ (i:=8) (N:=some 36) (v:=?_) (a':=?_) #[true,true,true,true,true,true,true,false,true,false,false,false,false,false,false,false] rfl rfl (any_of HT_.out (by kernel_rfl)) (fun _ _ _ h=>h) (Or.inl ⟨by rfl,?_⟩) ?_ ?_
           rotate_left
           ·intro w'
            go_simp
            with_reducible rfl
           rotate_left
           ·simp only [Act.put,List.setIfInBounds_toArray,List.set_cons_zero,List.set_cons_succ,i64_w,i32_w]
            rfl
           refine pure_ (i:=9) (N:=some 37) (v:=?_) (a':=?_) #[true,true,true,true,true,true,true,false,true,true,false,false,false,false,false,false] rfl rfl (any_of HT_.out (by kernel_rfl)) (fun _ _ _ h=>h) (Or.inl ⟨by rfl,?_⟩) ?_ ?_
           rotate_left
           ·intro w'
            go_simp
            with_reducible rfl
           rotate_left
           ·simp only [Act.put,List.setIfInBounds_toArray,List.set_cons_zero,List.set_cons_succ,i64_w,i32_w]
            rfl
           refine pure_ (i:=10) (N:=some 38) (v:=?_) (a':=?_) #[true,true,true,true,true,true,true,false,true,true,true,false,false,false,false,false] rfl rfl (any_of HT_.out (by kernel_rfl)) (fun _ _ _ h=>h) (Or.inl ⟨by rfl,?_⟩) ?_ ?_
           rotate_left
           ·intro w'
            go_simp
            with_reducible rfl
           rotate_left
           ·simp only [Act.put,List.setIfInBounds_toArray,List.set_cons_zero,List.set_cons_succ,i64_w,i32_w]
            rfl
           refine take_ (i:=7) (N:=some 35) (v:=?_) (a':=?_) #[true,true,true,true,true,true,true,true,true,true,true,false,false,false,false,false] rfl rfl (take_ofW HT_.out HW_.out (by kernel_rfl)) (fun _ _ _ h=>h) (Or.inl ⟨by rfl,?_⟩) hHeld ?_ ?_
           rotate_left
           ·rintro w' ⟨s0,s1⟩
            go_simp
            with_reducible rfl
           rotate_left
           ·simp only [Act.put,List.setIfInBounds_toArray,List.set_cons_zero,List.set_cons_succ,i64_w,i32_w]
            rfl
           refine take_ (i:=11) (N:=some 39) (v:=?_) (a':=?_) #[true,true,true,true,true,true,true,true,true,true,true,true,false,false,false,false] rfl rfl (take_ofW HT_.out HW_.out (by kernel_rfl)) (fun _ _ _ h=>h) (Or.inl ⟨by rfl,?_⟩) hHeld ?_ ?_
           rotate_left
           ·rintro w' ⟨s0,s1⟩
            go_simp
            with_reducible rfl
           rotate_left
           ·simp only [Act.put,List.setIfInBounds_toArray,List.set_cons_zero,List.set_cons_succ,i64_w,i32_w]
            rfl
           refine pure_ (i:=12) (N:=some 40) (v:=?_) (a':=?_) #[true,true,true,true,true,true,true,true,true,true,true,true,true,false,false,false] rfl rfl (any_of HT_.out (by kernel_rfl)) (fun _ _ _ h=>h) (Or.inl ⟨by rfl,?_⟩) ?_ ?_
           rotate_left
           ·intro w'
            go_simp
            with_reducible rfl
           rotate_left
           ·simp only [Act.put,List.setIfInBounds_toArray,List.set_cons_zero,List.set_cons_succ,i64_w,i32_w]
            rfl
           refine last_ (i:=13) (N:=none) #[true,true,true,true,true,true,true,true,true,true,true,true,true,true,false,false] rfl rfl (one_of HT_.out (by kernel_rfl)) (by decide) (fun K hK=>?_)
           refine skip_ (w1:=?_) (by rfl) rfl ?_ ?_
           rotate_left
           ·go_simp
            rfl
           refine hK.out _ _ ?_
           clear hK K
           refine pure_ (i:=14) (N:=some 41) (v:=?_) (a':=?_) #[true,true,true,true,true,true,true,true,true,true,true,true,true,true,true,false] rfl rfl (any_of HT_.out (by kernel_rfl)) (fun _ _ _ h=>h) (Or.inl ⟨by rfl,?_⟩) ?_ ?_
           rotate_left
           ·intro w'
            go_simp
            with_reducible rfl
           rotate_left
           ·simp only [Act.put,List.setIfInBounds_toArray,List.set_cons_zero,List.set_cons_succ,i64_w,i32_w]
            rfl
           refine last_ (i:=15) (N:=none) #[true,true,true,true,true,true,true,true,true,true,true,true,true,true,true,true] rfl rfl (one_of HT_.out (by kernel_rfl)) (by decide) (fun K hK=>?_)
           refine skip_ (w1:=?_) (by rfl) rfl ?_ ?_
           rotate_left
           ·go_simp
            rfl
           refine hK.out _ _ ?_
           clear hK K
           refine done_ (done_of HT_.out (by kernel_rfl)) ?_
           try go_wp2
           go_roundg k2
           case measure=>have:=HK1.out;have:=HK2.out;omega
           case rel=>exact ⟨(y136),(wrap64 (x7_2 - 1)),(t132),pE,H',⟨by have:=HK1.out;have:=HK2.out;omega⟩,⟨pR HQ18⟩,⟨pI⟩,⟨pH⟩,⟨by repeat (first|(with_reducible first|exact HB.out|apply wA|apply wN|apply wD|refine wS ?_ (Nat.le_trans HL.out GB12.out)|refine wS ?_ (Nat.le_trans HL.out GB12.out)|refine wS ?_ (IsS71.ge HI0.out))|exact HB.out)⟩⟩
          ·rw [if_neg c11] at H
           exact absurd H (by simp)
         ·rw [if_neg c10] at H
          exact absurd H (by simp)
        ·rw [if_neg c9] at H
         exact absurd H (by simp)
       ·rw [if_neg c8] at H
        exact absurd H (by simp)
      ·rw [if_neg c6] at H
       have c6b0:decide (0 < x7_2)=false:=decide_eq_false c6
       clear c6
       simp only [Option.some.injEq,Prod.mk.injEq] at H
       obtain ⟨rfl,rfl⟩:=H
       go_wp2
       go_ret
       exact ⟨_,pF,pR HO_5,pI,pB,pH⟩
def trustquorummake_Tape_Pick.f (s0_0:List Int) (s0_1:Int) (l1:List Int):Option (Int × Int):=(trustquorummake_Tape_N.f s0_0 s0_1 (l1.length:Int)).bind fun bt137=>(if 0≤bt137.1 then (if bt137.1 < (l1.length:Int) then (some (rd l1 bt137.1,bt137.2)) else (none)) else (none))
set_option maxHeartbeats 8000000 in
set_option maxRecDepth 100000 in
theorem trustquorummake_Tape_Pick.calls (g:Nat) (s0_0:List Int) (s0_1:Int) (A1:Option Addr) (c1:Nat) (l1:List Int) (r1:Int) (r2:Int) (w0 w:World) (hI:IsS71 w0 w g s0_0 s0_1) (hB:Below w0.heap.size w0 w) (hr1:Kd.C (Kd.int .i64) w A1 l1.length l1) (hc1:l1.length≤c1) (hf1:∀ ad,A1=some ad→0 < l1.length→ad.block ≠ g) (h:trustquorummake_Tape_Pick.f s0_0 s0_1 l1=some (r1,r2)) :
  Calls Try.prog 71 #[.pointer (some ⟨g,0,none⟩),.slice A1 l1.length c1] w fun e w'=>e=.returned (.int .i64 r1)∧IsS71 w0 w' g s0_0 r2∧Below w0.heap.size w0 w'∧KeepBut w w' g none:=by
 have HR1:=Z hr1
 have HC1:=Z hc1
 clear hr1 hc1
 have HI0:=Z hI
 have HK:=Z (KeepBut.refl w g none)
 have HL:=Z hB.size
 clear hI
 have HW0:=Z hB.size
 have HB:=Z hB
 clear hB
 have H:((trustquorummake_Tape_N.f s0_0 s0_1 (l1.length:Int)).bind fun bt137=>(if 0≤bt137.1 then (if bt137.1 < (l1.length:Int) then (some (rd l1 bt137.1,bt137.2)) else (none)) else (none)))=some (r1,r2):=h
 clear h
 replace H:=Option.bind_eq_some_iff.mp H
 obtain ⟨⟨t137,t138⟩,A30,H⟩:=H
 try dsimp only at H
 have A3:=Z A30
 clear A30
 by_cases c4:0≤t137
 ·rw [if_pos c4] at H
  have c4b0:decide (0≤t137)=true:=decide_eq_true c4
  clear c4
  by_cases c5:t137 < (l1.length:Int)
  ·rw [if_pos c5] at H
   have c5b0:decide (t137 < (l1.length:Int))=true:=decide_eq_true c5
   clear c5
   simp only [Option.some.injEq,Prod.mk.injEq] at H
   obtain ⟨rfl,rfl⟩:=H
   go_enter Try.func71,Try.ntmps71
   go_wp2_with (first|((with_reducible refine gate_callee (f:=16) rfl ?_);refine goesL_ (some 9) rfl rfl Try.func16 (by kernel_rfl) rfl #[.pointer (some ⟨g,0,none⟩),.int .i64 (l1.length:Int)] rfl pG ?_;(with_reducible refine (trustquorummake_Tape_N.calls g s0_0 s0_1 (l1.length:Int) t137 t138 w0 _ ?side1 ?side2 A3.out).mono ?_);(case side1=>exact pI);(case side2=>exact pB);rintro e w6 ⟨rfl,hi,hb,hk⟩;refine ⟨_,rfl,?_⟩;have n0_:=Z (KeepBut.trans pH hk (.inl rfl));have n1_:=Z (hb);have n2_:=Z (hi);clear HK;clear HB;clear HI0;have HK:=n0_;have HB:=n1_;have HI0:=n2_;clear n0_ n1_ n2_;(try clear hb);(try clear hb2);(try clear hk);(try clear hi);have p139:0≤(t137:Int):=of_decide_eq_true (by first|(with_reducible assumption)|assumption);have q139:t137 < (l1.length:Int):=of_decide_eq_true (by first|(with_reducible assumption)|assumption);obtain ⟨ad139,e139,hx139_0⟩:=Kd.at_int HR1.out t137 p139 q139;cases e139;replace hx139_0:=keep_cell HK.out hx139_0 (by first|(rw [add_block];exact hf1 _ rfl (by omega))|exact hf1 _ rfl (by omega)|exact hf1 ad139 rfl (by omega));replace p139:=eq_true p139;replace q139:=eq_true q139))
   go_ret
   exact ⟨pF,pI,pB,pH⟩
  ·rw [if_neg c5] at H
   exact absurd H (by simp)
 ·rw [if_neg c4] at H
  exact absurd H (by simp)
def trustquorummake_most.l0:Nat→Int→Int→List Int→Int→Int→List Int→Option (Int × List Int × (List (S32)) × Int)
 | 0,_,_,_,_,_,_=>none
 | k+1,x1,x6,x1000,x1001,x158000,x158001=>if x6 < x1 then ((trustquorummake_Tape_N.f x1000 x1001 10).bind fun bt158=>(if bt158.1 < 9 then (if x158001.length < 17592186044416 then (trustquorummake_most.l0 k x1 (wrap64 (x6+1)) x1000 bt158.2 x158000 (x158001++[x6])) else (none)) else (trustquorummake_most.l0 k x1 (wrap64 (x6+1)) x1000 bt158.2 x158000 x158001))) else (if (x158001.length:Int)=0 then ((some (([0]:List Int):List Int)).bind fun y163=>((trustquorummake_Tape_Pick.f x1000 x1001 (([0,0,0,1,(-1)]:List Int))).bind fun bt169=>(some (mn (y163.length:Int) (mx 1 (wrap64 ((wrap64 (Int.tdiv (wrap64 ((wrap64 (2 * (y163.length:Int)))+2)) 3))+bt169.1))),y163,([]:List (S32)),bt169.2)))) else ((trustquorummake_Tape_Pick.f x1000 x1001 (([0,0,0,1,(-1)]:List Int))).bind fun bt174=>(some (mn (x158001.length:Int) (mx 1 (wrap64 ((wrap64 (Int.tdiv (wrap64 ((wrap64 (2 * (x158001.length:Int)))+2)) 3))+bt174.1))),x158001,([]:List (S32)),bt174.2))))
def trustquorummake_most.f (k:Nat) (s0_0:List Int) (s0_1:Int) (a1:Int):Option (Int × List Int × (List (S32)) × Int):=trustquorummake_most.l0 k a1 0 s0_0 s0_1 0 ([]:List Int)
def trustquorummake_most.T9:Bool × List (List Nat × List Nat):=(true,[([],[]),([0],[0]),([1],[1]),([],[]),([3],[3]),([4],[4]),([5],[5]),([6],[6]),([7],[7]),([],[]),([],[]),([9,10],[9,10]),([8,11],[8,11]),([12],[12]),([2,13],[2,13]),([0,1,2,3,4,5,6,7,8,9,10,11,12,13,14],[]),([15,14,11,0,1,2,3,4,5,6,7,8,9,10,11,12,13,14],[14,15])])
def trustquorummake_most.B9:List Nat:=[0,1,3,0,8,24,56,120,248,0,0,1536,4088,8184,16383,32767,65535]
theorem trustquorummake_most.tab9:rtab .any (opsOf Try.f53 9)=trustquorummake_most.T9:=by kernel_rfl
theorem trustquorummake_most.bits9:waitsOk trustquorummake_most.T9.2 trustquorummake_most.B9=true:=by kernel_rfl
set_option maxHeartbeats 8000000 in
set_option maxRecDepth 100000 in
theorem trustquorummake_most.calls (k:Nat) (g:Nat) (s0_0:List Int) (s0_1:Int) (a1:Int) (r1:Int) (r2:List Int) (r3:List (S32)) (r4:Int) (w0 w:World) (hI:IsS71 w0 w g s0_0 s0_1) (hB:Below w0.heap.size w0 w) (h:trustquorummake_most.f k s0_0 s0_1 a1=some (r1,r2,r3,r4)) :
  Calls Try.prog 53 #[.pointer (some ⟨g,0,none⟩),.int .i64 a1] w fun e w'=>∃ v1_ v2_:Value,e=.returned (.agg #[.int .i64 r1,v1_,v2_])∧Kd.R (Kd.int .i64) 3 w' w.heap.size (fun _=>True) v1_ r2∧Kd.R k32 32 w' w.heap.size (fun k_=>some k_ ≠ (v1_:Value).ownBlock) v2_ r3∧IsS71 w0 w' g s0_0 r4∧Below w0.heap.size w0 w'∧KeepBut w w' g none:=by
 have hu32:=Try.underlying32
 have HI0:=Aside0.mk hI
 have HK:=Aside0.mk (KeepBut.refl w g none)
 have HL:=Aside0.mk hB.size
 clear hI
 have HW0:=Aside0.mk hB.size
 have HB:=Aside0.mk hB
 clear hB
 have H:(trustquorummake_most.l0 k a1 0 s0_0 s0_1 0 ([]:List Int))=some (r1,r2,r3,r4):=h
 clear h
 have H':=Aside0.mk H
 clear H
 go_enter Try.func53,Try.ntmps53
 go_wp2_with (first|((with_reducible refine gate_dst (N:=4) rfl ?_);refine box_event ?hg (N:=4) ?hd (cs:=#[.int .i64 0,.slice none 0 0,.slice none 0 0]) (t:=32) ?hr ?_;(case hd=>rfl);(case hg=>rfl);(case hr=>first|(go_simp;done)|(go_simp;rfl));intro gb156 hg w3 hbox hb;have n0_:=Z (IsS71.below pI hb);have n1_:=Z (KeepBut.trans pH (KeepBut.of_below hb g none) (.inl rfl));have n2_:=Z (below_step pB hb);have n3_:=Z (hbox);have n4_:=Z ((pS hg:w.heap.size≤gb156));have n5_:=Z ((Nat.le_trans HW0.out (pS hg:w.heap.size≤gb156):w0.heap.size≤gb156));have n6_:=Z ((pL71 hg (show IsS71 w0 _ g s0_0 s0_1 from pI):g ≠ gb156));have n7_:=Z ((pM71 hg (show IsS71 w0 _ g s0_0 s0_1 from pI):gb156 ≠ g));clear HI0;clear HK;clear HB;have HI0:=n0_;have HK:=n1_;have HB:=n2_;have BK156:=n3_;have GW156:=n4_;have GE156:=n5_;have NB0_156:=n6_;have NB156_0:=n7_;clear n0_ n1_ n2_ n3_ n4_ n5_ n6_ n7_;clear hb hbox hg)|((with_reducible refine gate_dst (N:=5) rfl ?_);refine box_event ?hg (N:=5) ?hd (cs:=#[.int .i64 0,.slice none 0 0,.slice none 0 0]) (t:=32) ?hr ?_;(case hd=>rfl);(case hg=>rfl);(case hr=>first|(go_simp;done)|(go_simp;rfl));intro gb157 hg w4 hbox hb;have n0_:=Z (IsS71.below pI hb);have n1_:=Z (blk_below (g:=gb156) (o:=.cells #[.int .i64 0,.slice none 0 0,.slice none 0 0] 32 (0,0)) (pK BK156) hb);have n2_:=Z (KeepBut.trans pH (KeepBut.of_below hb g none) (.inl rfl));have n3_:=Z (below_step pB hb);have n4_:=Z (hbox);have n5_:=Z ((pS hg:w.heap.size≤gb157));have n6_:=Z ((Nat.le_trans HW0.out (pS hg:w.heap.size≤gb157):w0.heap.size≤gb157));have n7_:=Z ((pL hg (pK BK156):gb156 ≠ gb157));have n8_:=Z ((pM hg (pK BK156):gb157 ≠ gb156));have n9_:=Z ((pL71 hg (show IsS71 w0 _ g s0_0 s0_1 from pI):g ≠ gb157));have n10_:=Z ((pM71 hg (show IsS71 w0 _ g s0_0 s0_1 from pI):gb157 ≠ g));clear HI0;clear BK156;clear HK;clear HB;have HI0:=n0_;have BK156:=n1_;have HK:=n2_;have HB:=n3_;have BK157:=n4_;have GW157:=n5_;have GE157:=n6_;have NB156_157:=n7_;have NB157_156:=n8_;have NB0_157:=n9_;have NB157_0:=n10_;clear n0_ n1_ n2_ n3_ n4_ n5_ n6_ n7_ n8_ n9_ n10_;clear hb hbox hg;have hnb5:=NB157_156.out;have hnc5:=NB156_157.out;have hnb6:=NB157_0.out;have hnc6:=NB0_157.out;have hcz7_0:w4.cell? ⟨gb157,0,none⟩=some (.int .i64 0):=(kC BK157.out 0).trans rfl;have hcz7_1:w4.cell? ⟨gb157,1,none⟩=some (.slice none 0 0):=(kC BK157.out 1).trans rfl;have hcz7_2:w4.cell? ⟨gb157,2,none⟩=some (.slice none 0 0):=(kC BK157.out 2).trans rfl;have hfz7_0:=kF BK157.out 0;have hfz7_1:=kF BK157.out 1;have hfz7_2:=kF BK157.out 2))
 go_loopg [6] k (fun kq v6 w'=>∃ (x6_1:Int) (x1001_1:Int) (x158001_1:List Int) (u158001:Value),v6=.int .i64 x6_1∧Aside0 (trustquorummake_most.l0 kq a1 x6_1 s0_0 x1001_1 0 x158001_1=some (r1,r2,r3,r4))∧Aside0 (kq≤k)∧Aside0 (Kd.R (Kd.int .i64) 3 w' w.heap.size (fun _=>True) u158001 x158001_1)∧Aside0 (w'.heap[gb156]?=some (.cells #[.int .i64 0,(.slice none 0 0),(.slice none 0 0)] 32 (0,0)))∧Aside0 (w'.heap[gb157]?=some (.cells #[.int .i64 0,u158001,(.slice none 0 0)] 32 (0,0)))∧Aside0 (IsS71 w0 w' g s0_0 x1001_1)∧Aside0 (KeepBut w w' g none)∧Aside0 (Below w0.heap.size w0 w'))
 case atStart=>exact ⟨(0),(s0_1),(([]:List Int)),(.slice none 0 0),pE,H',⟨Nat.le_refl _⟩,⟨pN⟩,⟨by (with_reducible repeat (first|refine kN ?_ _|refine kD ?_|refine kA ?_ _));refine blk_far ?_ NB156_157.out _;(with_reducible repeat (first|refine kN ?_ _|refine kD ?_|refine kA ?_ _));refine blk_far ?_ NB156_157.out _;(with_reducible repeat (first|refine kN ?_ _|refine kD ?_|refine kA ?_ _));refine blk_far ?_ NB156_157.out _;(with_reducible repeat (first|refine kN ?_ _|refine kD ?_|refine kA ?_ _));exact BK156.out⟩,⟨by (with_reducible repeat (first|refine kN ?_ _|refine kD ?_|refine kA ?_ _));refine blk_put (cs:=#[.int .i64 0,.slice none 0 0,.slice none 0 0]) ?_ 2 _ rfl;(with_reducible repeat (first|refine kN ?_ _|refine kD ?_|refine kA ?_ _));refine blk_put (cs:=#[.int .i64 0,.slice none 0 0,.slice none 0 0]) ?_ 1 _ rfl;(with_reducible repeat (first|refine kN ?_ _|refine kD ?_|refine kA ?_ _));refine blk_put (cs:=#[.int .i64 0,.slice none 0 0,.slice none 0 0]) ?_ 0 _ rfl;(with_reducible repeat (first|refine kN ?_ _|refine kD ?_|refine kA ?_ _));exact BK157.out⟩,⟨pI⟩,⟨pH⟩,⟨pB⟩⟩
 case round =>
  clear H'
  try clear p2
  try clear c5
  try clear c6
  try clear hcz7_0
  try clear hcz7_1
  try clear hcz7_2
  try clear hfz7_0
  try clear hfz7_1
  try clear hfz7_2
  obtain ⟨x6_1,x1001_1,x158001_1,u158001,rfl,HA,HK1,HO_158001,BK156,BK157,HI0,HK,HB⟩:=hrel
  cases gk with
  | zero=>exact absurd HA.out (by simp [trustquorummake_most.l0])
  | succ k1 =>
   have H:=HA.out
   clear HA
   simp only [trustquorummake_most.l0] at H
   by_cases c8:x6_1 < a1
   ·rw [if_pos c8] at H
    have c8b0:decide (x6_1 < a1)=true:=decide_eq_true c8
    clear c8
    replace H:=Option.bind_eq_some_iff.mp H
    obtain ⟨⟨t158,t159⟩,A90,H⟩:=H
    replace H:(if t158 < 9 then (if x158001_1.length < 17592186044416 then (trustquorummake_most.l0 k1 a1 (wrap64 (x6_1+1)) s0_0 t159 0 (x158001_1++[x6_1])) else (none)) else (trustquorummake_most.l0 k1 a1 (wrap64 (x6_1+1)) s0_0 t159 0 x158001_1))=some (r1,r2,r3,r4):=H
    have A9:=Aside0.mk A90
    clear A90
    by_cases c10:t158 < 9
    ·rw [if_pos c10] at H
     have c10b0:decide (t158 < 9)=true:=decide_eq_true c10
     clear c10
     by_cases c11:x158001_1.length < 17592186044416
     ·rw [if_pos c11] at H
      have LMc11:=Aside0.mk c11
      clear c11
      obtain ⟨y160,hy160⟩:∃ y_:List Int,y_=(x158001_1++[x6_1]):=⟨_,rfl⟩
      replace H:(trustquorummake_most.l0 k1 a1 (wrap64 (x6_1+1)) s0_0 t159 0 y160)=some (r1,r2,r3,r4):=by first|(rw [hy160];with_reducible exact H)|(have H2_:=(Option.bind_some _ _).symm.trans H;rw [hy160];with_reducible exact H2_)|(have H2_:=(Option.bind_some _ _).symm.trans H;with_reducible exact H2_)|with_reducible exact H|(rw [hy160];exact H)|exact H
      have Ny160:=Aside0.mk hy160
      clear hy160
      have H':=Aside0.mk H
      clear H
      go_wp2_with (first|((with_reducible refine gate_callee (f:=16) rfl ?_);refine goesL_ (some 14) rfl rfl Try.func16 (by kernel_rfl) rfl #[.pointer (some ⟨g,0,none⟩),.int .i64 10] rfl pG ?_;(with_reducible refine (trustquorummake_Tape_N.calls g s0_0 x1001_1 10 t158 t159 w0 _ ?side1 ?side2 A9.out).mono ?_);(case side1=>exact pI);(case side2=>exact pB);rintro e w12 ⟨rfl,hi,hb,hk⟩;refine ⟨_,rfl,?_⟩;have n0_:=Z (Kd.R_mono (Kd.R_keep (IsS71.apart (show IsS71 w0 _ g s0_0 x1001_1 from pI) (pR HO_158001) (by decide)) hk (fun _ h=>h.2)) (fun _ h=>h.1));have n1_:=Z (KeepBut.blk hk (g':=gb156) (o:=.cells #[.int .i64 0,.slice none 0 0,.slice none 0 0] 32 (0,0)) (pK BK156) NB156_0.out (by simp));have n2_:=Z (KeepBut.blk hk (g':=gb157) (o:=.cells #[.int .i64 0,u158001,.slice none 0 0] 32 (0,0)) (pK BK157) NB157_0.out (by simp));have n3_:=Z (KeepBut.trans pH hk (.inl rfl));have n4_:=Z (hb);have n5_:=Z (hi);clear HO_158001;clear BK156;clear BK157;clear HK;clear HB;clear HI0;have HO_158001:=n0_;have BK156:=n1_;have BK157:=n2_;have HK:=n3_;have HB:=n4_;have HI0:=n5_;clear n0_ n1_ n2_ n3_ n4_ n5_;(try clear hb);(try clear hb2);(try clear hk);(try clear hi);have hnb13:=NB157_156.out;have hnc13:=NB156_157.out;have hnb14:=NB157_0.out;have hnc14:=NB0_157.out;have hcz15_0:w12.cell? ⟨gb157,0,none⟩=some (.int .i64 0):=(kC BK157.out 0).trans rfl;have hcz15_1:w12.cell? ⟨gb157,1,none⟩=some (u158001):=(kC BK157.out 1).trans rfl;have hcz15_2:w12.cell? ⟨gb157,2,none⟩=some (.slice none 0 0):=(kC BK157.out 2).trans rfl;have hfz15_0:=kF BK157.out 0;have hfz15_1:=kF BK157.out 1;have hfz15_2:=kF BK157.out 2)|((with_reducible refine gate_builtin (b:=.append) (xs:=#[.tmp 17,.tmp 19]) rfl ?_);at_builtin;refine Kd.R_append (Kd.int .i64) w.heap.size rfl (.tmp 17) (.tmp 19) 22 3 (.int .i64 0) 8 rfl Try.underlying22 info3 rfl (by decide) (by omega) u158001 x158001_1 x6_1 [.int .i64 x6_1] (fun _=>True) (fun _=>False) rfl rfl ?aP (fun _ hk=>hk.elim) ?aF ?aO (Below.refl _ _) ?aS ?aL ?_;(case aP=>exact rfl);(case aF=>exact (fun _ _=>trivial));(case aO=>exact (pR HO_158001));(case aS=>exact (keep_size (w:=w) (g:=g) (row:=none) pH));(case aL=>have:=LMc11.out;omega);intro v161 w16 ho hb hg hat;rw [← Ny160.out] at ho;have n0_:=Z (blk_grown (g:=gb156) (o:=.cells #[.int .i64 0,.slice none 0 0,.slice none 0 0] 32 (0,0)) (pK BK156) hg (Kd.R_ne HO_158001.out BK156.out (by decide)));have n1_:=Z (blk_grown (g:=gb157) (o:=.cells #[.int .i64 0,u158001,.slice none 0 0] 32 (0,0)) (pK BK157) hg (Kd.R_ne HO_158001.out BK157.out (by decide)));have n2_:=Z (IsS71.grown pI hg (IsS71.own_ne HI0.out HO_158001.out (by decide)));have n3_:=Z (below_weaken pB HL.out hb);have n4_:=Z (KeepBut.trans pH (KeepBut.of_grown hg g) (Kd.R_base2 HO_158001.out));have n5_:=Z (ho);clear BK156;clear BK157;clear HI0;clear HB;clear HK;clear HO_158001;have BK156:=n0_;have BK157:=n1_;have HI0:=n2_;have HB:=n3_;have HK:=n4_;have HO162:=n5_;clear n0_ n1_ n2_ n3_ n4_ n5_;clear ho hb hg hat;obtain ⟨Ao17,co17,eo17⟩:=Kd.R_slice HO162.out;subst eo17;have hcz18_0:w16.cell? ⟨gb157,0,none⟩=some (.int .i64 0):=(kC BK157.out 0).trans rfl;have hcz18_1:w16.cell? ⟨gb157,1,none⟩=some (u158001):=(kC BK157.out 1).trans rfl;have hcz18_2:w16.cell? ⟨gb157,2,none⟩=some (.slice none 0 0):=(kC BK157.out 2).trans rfl;have hfz18_0:=kF BK157.out 0;have hfz18_1:=kF BK157.out 1;have hfz18_2:=kF BK157.out 2))
      go_roundg k1
      case measure=>have:=HK1.out;omega
      case rel=>exact ⟨(wrap64 (x6_1+1)),(t159),(y160),(.slice Ao17 y160.length co17),pE,H',⟨by have:=HK1.out;omega⟩,⟨by (with_reducible repeat (first|apply Kd.R_alloc|apply Kd.R_drewN|apply Kd.R_drew));exact Kd.R_mono (Kd.R_far (p:=⟨gb157,1,none⟩) (Kd.R_types HO162.out BK157.out (by decide)) (fun _ hk=>hk.2) (.slice Ao17 y160.length co17)) (fun _ hk=>trivial)⟩,⟨by (with_reducible repeat (first|refine kN ?_ _|refine kD ?_|refine kA ?_ _));refine blk_far ?_ NB156_157.out _;(with_reducible repeat (first|refine kN ?_ _|refine kD ?_|refine kA ?_ _));exact BK156.out⟩,⟨by (with_reducible repeat (first|refine kN ?_ _|refine kD ?_|refine kA ?_ _));refine blk_put (cs:=#[.int .i64 0,u158001,.slice none 0 0]) ?_ 1 _ rfl;(with_reducible repeat (first|refine kN ?_ _|refine kD ?_|refine kA ?_ _));exact BK157.out⟩,⟨pI⟩,⟨pH⟩,⟨pB⟩⟩
     ·rw [if_neg c11] at H
      exact absurd H (by simp)
    ·rw [if_neg c10] at H
     have c10b0:decide (t158 < 9)=false:=decide_eq_false c10
     clear c10
     have H':=Aside0.mk H
     clear H
     go_wp2_with (first|((with_reducible refine gate_callee (f:=16) rfl ?_);refine goesL_ (some 14) rfl rfl Try.func16 (by kernel_rfl) rfl #[.pointer (some ⟨g,0,none⟩),.int .i64 10] rfl pG ?_;(with_reducible refine (trustquorummake_Tape_N.calls g s0_0 x1001_1 10 t158 t159 w0 _ ?side1 ?side2 A9.out).mono ?_);(case side1=>exact pI);(case side2=>exact pB);rintro e w19 ⟨rfl,hi,hb,hk⟩;refine ⟨_,rfl,?_⟩;have n0_:=Z (Kd.R_mono (Kd.R_keep (IsS71.apart (show IsS71 w0 _ g s0_0 x1001_1 from pI) (pR HO_158001) (by decide)) hk (fun _ h=>h.2)) (fun _ h=>h.1));have n1_:=Z (KeepBut.blk hk (g':=gb156) (o:=.cells #[.int .i64 0,.slice none 0 0,.slice none 0 0] 32 (0,0)) (pK BK156) NB156_0.out (by simp));have n2_:=Z (KeepBut.blk hk (g':=gb157) (o:=.cells #[.int .i64 0,u158001,.slice none 0 0] 32 (0,0)) (pK BK157) NB157_0.out (by simp));have n3_:=Z (KeepBut.trans pH hk (.inl rfl));have n4_:=Z (hb);have n5_:=Z (hi);clear HO_158001;clear BK156;clear BK157;clear HK;clear HB;clear HI0;have HO_158001:=n0_;have BK156:=n1_;have BK157:=n2_;have HK:=n3_;have HB:=n4_;have HI0:=n5_;clear n0_ n1_ n2_ n3_ n4_ n5_;(try clear hb);(try clear hb2);(try clear hk);(try clear hi)))
     go_roundg k1
     case measure=>have:=HK1.out;omega
     case rel=>exact ⟨(wrap64 (x6_1+1)),(t159),(x158001_1),(u158001),pE,H',⟨by have:=HK1.out;omega⟩,⟨pR HO_158001⟩,⟨pK BK156⟩,⟨pK BK157⟩,⟨pI⟩,⟨pH⟩,⟨pB⟩⟩
   ·rw [if_neg c8] at H
    have c8b0:decide (x6_1 < a1)=false:=decide_eq_false c8
    clear c8
    by_cases c20:(x158001_1.length:Int)=0
    ·rw [if_pos c20] at H
     have c20b0:((x158001_1.length:Int) == 0)=true:=beq_iff_eq.mpr c20
     have c20b1:((x158001_1.length:Int) != 0)=false:=bne_eq_false_iff_eq.mpr c20
     clear c20
     obtain ⟨y163,hy163⟩:∃ y_:List Int,y_=(([0]:List Int)):=⟨_,rfl⟩
     replace H:((trustquorummake_Tape_Pick.f s0_0 x1001_1 (([0,0,0,1,(-1)]:List Int))).bind fun bt169=>(some (mn (y163.length:Int) (mx 1 (wrap64 ((wrap64 (Int.tdiv (wrap64 ((wrap64 (2 * (y163.length:Int)))+2)) 3))+bt169.1))),y163,([]:List (S32)),bt169.2)))=some (r1,r2,r3,r4):=by first|(rw [hy163];with_reducible exact H)|(have H2_:=(Option.bind_some _ _).symm.trans H;rw [hy163];with_reducible exact H2_)|(have H2_:=(Option.bind_some _ _).symm.trans H;with_reducible exact H2_)|with_reducible exact H|(rw [hy163];exact H)|exact H
     have Ny163:=Aside0.mk hy163
     clear hy163
     obtain ⟨y166,hy166⟩:∃ y_:List Int,y_=(([0,0,0,1,(-1)]:List Int)):=⟨_,rfl⟩
     replace H:((trustquorummake_Tape_Pick.f s0_0 x1001_1 y166).bind fun bt169=>(some (mn (y163.length:Int) (mx 1 (wrap64 ((wrap64 (Int.tdiv (wrap64 ((wrap64 (2 * (y163.length:Int)))+2)) 3))+bt169.1))),y163,([]:List (S32)),bt169.2)))=some (r1,r2,r3,r4):=by first|(rw [hy166];with_reducible exact H)|(have H2_:=(Option.bind_some _ _).symm.trans H;rw [hy166];with_reducible exact H2_)|(have H2_:=(Option.bind_some _ _).symm.trans H;with_reducible exact H2_)|with_reducible exact H|(rw [hy166];exact H)|exact H
     have Ny166:=Aside0.mk hy166
     clear hy166
     replace H:=Option.bind_eq_some_iff.mp H
     obtain ⟨⟨t169,t170⟩,A210,H⟩:=H
     replace H:(some (mn (y163.length:Int) (mx 1 (wrap64 ((wrap64 (Int.tdiv (wrap64 ((wrap64 (2 * (y163.length:Int)))+2)) 3))+t169))),y163,([]:List (S32)),t170))=some (r1,r2,r3,r4):=H
     have A21:=Aside0.mk A210
     clear A210
     obtain ⟨ji22,hji22⟩:∃ j_:Int,(mx 1 (wrap64 ((wrap64 (Int.tdiv (wrap64 ((wrap64 (2 * (y163.length:Int)))+2)) 3))+t169)))=j_:=⟨_,rfl⟩
     replace H:(some (mn (y163.length:Int) (ji22),y163,([]:List (S32)),t170))=some (r1,r2,r3,r4):=by first|(rw [hji22] at H;exact H)|(simp only [hji22] at H ⊢;exact H)
     (try rw [hji22] at A21)
     (try (have hji22l:1≤ji22:=by (rw [← hji22];unfold mx;(repeat' split) <;> omega)))
     (try (have hji22m:0≤ji22:=by omega))
     have hji22_:(if 1 < (wrap64 ((wrap64 (Int.tdiv (wrap64 ((wrap64 (2 * (y163.length:Int)))+2)) 3))+t169)) then (wrap64 ((wrap64 (Int.tdiv (wrap64 ((wrap64 (2 * (y163.length:Int)))+2)) 3))+t169)) else 1)=ji22:=hji22
     obtain ⟨ji23,hji23⟩:∃ j_:Int,(mn (y163.length:Int) (ji22))=j_:=⟨_,rfl⟩
     replace H:(some (ji23,y163,([]:List (S32)),t170))=some (r1,r2,r3,r4):=by first|(rw [hji23] at H;exact H)|(simp only [hji23] at H ⊢;exact H)
     (try rw [hji23] at A21)
     have hji23_:(if (ji22) < (y163.length:Int) then (ji22) else (y163.length:Int))=ji23:=hji23
     simp only [Option.some.injEq,Prod.mk.injEq] at H
     obtain ⟨rfl,rfl,rfl,rfl⟩:=H
     have hnb24:=NB157_156.out
     have hnc24:=NB156_157.out
     have hnb25:=NB157_0.out
     have hnc25:=NB0_157.out
     have hcz26_0:wr.cell? ⟨gb157,0,none⟩=some (.int .i64 0):=(kC BK157.out 0).trans rfl
     have hcz26_1:wr.cell? ⟨gb157,1,none⟩=some (u158001):=(kC BK157.out 1).trans rfl
     have hcz26_2:wr.cell? ⟨gb157,2,none⟩=some (.slice none 0 0):=(kC BK157.out 2).trans rfl
     have hfz26_0:=kF BK157.out 0
     have hfz26_1:=kF BK157.out 1
     have hfz26_2:=kF BK157.out 2
     obtain ⟨Ao27,co27,eo27⟩:=Kd.R_slice HO_158001.out
     subst eo27
     try go_wp2_with (first|((with_reducible refine gate_dst (N:=26) rfl ?_);refine Kd.R_lit (Kd.int .i64) _ 3 ?hg (N:=26) ?hd (xs:=([0]:List Int)) (inner:=[.int .i64 0]) (ok:=fun _=>True) (okp:=fun _=>True) ?hr ?hp (fun _ hk=>hk) trivial (Below.refl _ _) (Nat.le_refl _) (by simp) ?_;(case hd=>rfl);(case hg=>rfl);(case hr=>first|(go_simp;done)|(go_simp;rfl));(case hp=>exact (Reps.one (show Kd.M (Kd.int .i64) _ _ _ 0 [.int .i64 0] from rfl) (Reps.none _ _)));intro v164 w28 ho29 hb hg_ hnew_;clear hg_ hnew_;(first|rw [← Ny163.out] at ho29|(simp only [Int.reduceToNat] at ho29;rw [← Ny163.out] at ho29));have n0_:=Z (Kd.R_elder' (pR HO_158001) (Kd.R_base ho29) hb);have n1_:=Z (Kd.R_lower (Kd.R_new' ho29 (Kd.R_lt (pR HO_158001))) (keep_size (w:=w) (g:=g) (row:=none) pH));have n2_:=Z (blk_below (g:=gb156) (o:=.cells #[.int .i64 0,.slice none 0 0,.slice none 0 0] 32 (0,0)) (pK BK156) hb);have n3_:=Z (blk_below (g:=gb157) (o:=.cells #[.int .i64 0,.slice Ao27 x158001_1.length co27,.slice none 0 0] 32 (0,0)) (pK BK157) hb);have n4_:=Z (IsS71.below pI hb);have n5_:=Z (KeepBut.trans pH (KeepBut.of_below hb g none) (.inl rfl));have n6_:=Z (below_step pB hb);clear HO_158001;clear BK156;clear BK157;clear HI0;clear HK;clear HB;have HO_158001:=n0_;have HO165:=n1_;have BK156:=n2_;have BK157:=n3_;have HI0:=n4_;have HK:=n5_;have HB:=n6_;clear n0_ n1_ n2_ n3_ n4_ n5_ n6_;clear hb ho29;obtain ⟨Ao30,co30,eo30⟩:=Kd.R_slice HO165.out;subst eo30;have hcz31_0:w28.cell? ⟨gb157,0,none⟩=some (.int .i64 0):=(kC BK157.out 0).trans rfl;have hcz31_1:w28.cell? ⟨gb157,1,none⟩=some (.slice Ao27 x158001_1.length co27):=(kC BK157.out 1).trans rfl;have hcz31_2:w28.cell? ⟨gb157,2,none⟩=some (.slice none 0 0):=(kC BK157.out 2).trans rfl;have hfz31_0:=kF BK157.out 0;have hfz31_1:=kF BK157.out 1;have hfz31_2:=kF BK157.out 2))
     have n0_:Aside0 (Kd.R (Kd.int .i64) 3 (w28.setCell ⟨gb157,1,none⟩ (.slice Ao30 y163.length co30)) w.heap.size (fun k_=>some k_ ≠ (.slice Ao30 y163.length co30:Value).ownBlock) (.slice Ao27 x158001_1.length co27) x158001_1):=⟨by (with_reducible repeat (first|apply Kd.R_alloc|apply Kd.R_drewN|apply Kd.R_drew));exact Kd.R_mono (Kd.R_far (p:=⟨gb157,1,none⟩) (Kd.R_types HO_158001.out BK157.out (by decide)) (fun _ hk=>hk.2) (.slice Ao30 y163.length co30)) (fun _ hk=>hk.1.2)⟩
     have n1_:Aside0 (Kd.R (Kd.int .i64) 3 (w28.setCell ⟨gb157,1,none⟩ (.slice Ao30 y163.length co30)) w.heap.size (fun k_=>some k_ ≠ (.slice Ao27 x158001_1.length co27:Value).ownBlock) (.slice Ao30 y163.length co30) y163):=⟨by (with_reducible repeat (first|apply Kd.R_alloc|apply Kd.R_drewN|apply Kd.R_drew));exact Kd.R_mono (Kd.R_far (p:=⟨gb157,1,none⟩) (Kd.R_types HO165.out BK157.out (by decide)) (fun _ hk=>hk.2) (.slice Ao30 y163.length co30)) (fun _ hk=>hk.1.2)⟩
     have n2_:Aside0 ((w28.setCell ⟨gb157,1,none⟩ (.slice Ao30 y163.length co30)).heap[gb156]?=some (.cells #[.int .i64 0,.slice none 0 0,.slice none 0 0] 32 (0,0))):=⟨by (with_reducible repeat (first|refine kN ?_ _|refine kD ?_|refine kA ?_ _));refine blk_far ?_ NB156_157.out _;(with_reducible repeat (first|refine kN ?_ _|refine kD ?_|refine kA ?_ _));exact BK156.out⟩
     have n3_:Aside0 ((w28.setCell ⟨gb157,1,none⟩ (.slice Ao30 y163.length co30)).heap[gb157]?=some (.cells #[.int .i64 0,.slice Ao30 y163.length co30,.slice none 0 0] 32 (0,0))):=⟨by (with_reducible repeat (first|refine kN ?_ _|refine kD ?_|refine kA ?_ _));refine blk_put (cs:=#[.int .i64 0,.slice Ao27 x158001_1.length co27,.slice none 0 0]) ?_ 1 _ rfl;(with_reducible repeat (first|refine kN ?_ _|refine kD ?_|refine kA ?_ _));exact BK157.out⟩
     have n4_:Aside0 (IsS71 w0 (w28.setCell ⟨gb157,1,none⟩ (.slice Ao30 y163.length co30)) g s0_0 x1001_1):=⟨pI⟩
     have n5_:Aside0 (KeepBut w (w28.setCell ⟨gb157,1,none⟩ (.slice Ao30 y163.length co30)) g none):=⟨pH⟩
     have n6_:Aside0 (Below w0.heap.size w0 (w28.setCell ⟨gb157,1,none⟩ (.slice Ao30 y163.length co30))):=⟨pB⟩
     (try clear HO_158001)
     (try clear HO165)
     (try clear BK156)
     (try clear BK157)
     (try clear HI0)
     (try clear HK)
     (try clear HB)
     generalize (w28.setCell ⟨gb157,1,none⟩ (.slice Ao30 y163.length co30))=w32 at n0_ n1_ n2_ n3_ n4_ n5_ n6_ ⊢
     have HO_158001:=n0_
     have HO165:=n1_
     have BK156:=n2_
     have BK157:=n3_
     have HI0:=n4_
     have HK:=n5_
     have HB:=n6_
     clear n0_ n1_ n2_ n3_ n4_ n5_ n6_
     have n0_:=Z (Kd.R_drew HO_158001.out)
     have n1_:=Z (Kd.R_drew HO165.out)
     have n2_:=Z (kD BK156.out)
     have n3_:=Z (kD BK157.out)
     have n4_:=Z (IsS71.drew HI0.out)
     have n5_:=Z (keep_drew HK.out)
     have n6_:=Z (wD HB.out)
     clear HO_158001
     clear HO165
     clear BK156
     clear BK157
     clear HI0
     clear HK
     clear HB
     have HO_158001:=n0_
     have HO165:=n1_
     have BK156:=n2_
     have BK157:=n3_
     have HI0:=n4_
     have HK:=n5_
     have HB:=n6_
     clear n0_ n1_ n2_ n3_ n4_ n5_ n6_
     refine start_ (n:=17) (S:=fun w'=>w'.cell? ⟨gb157,0,none⟩=some (.int .i64 0)∧w'.cell? ⟨gb157,1,none⟩=some (.slice Ao30 y163.length co30)∧w'.cell? ⟨gb157,2,none⟩=some (.slice none 0 0)) (ds:=[16]) #[false,false,false,false,false,false,false,false,false,false,false,false,false,false,false,false,false] (by kernel_rfl) rfl rfl ⟨(kC BK157.out 0).trans rfl,(kC BK157.out 1).trans rfl,(kC BK157.out 2).trans rfl⟩ (fun hHeld=>?_);refine with_tabW trustquorummake_most.tab9 trustquorummake_most.bits9 (fun HT_ HW_=>?_)
     generalize w32.drew=w33 at HO_158001 HO165 BK156 BK157 HI0 HK HB hHeld ⊢
     refine pure_ (i:=0) (N:=some 28) (v:=?_) (a':=?_) #[true,false,false,false,false,false,false,false,false,false,false,false,false,false,false,false,false] rfl rfl (any_of HT_.out (by kernel_rfl)) (fun _ _ _ h=>h) (Or.inl ⟨by rfl,?_⟩) ?_ ?_
     rotate_left
     ·intro w'
      go_simp
      with_reducible rfl
     rotate_left
     ·simp only [Act.put,List.setIfInBounds_toArray,List.set_cons_zero,List.set_cons_succ,i64_w,i32_w]
      rfl
     refine pure_ (i:=3) (N:=some 31) (v:=?_) (a':=?_) #[true,false,false,true,false,false,false,false,false,false,false,false,false,false,false,false,false] rfl rfl (any_of HT_.out (by kernel_rfl)) (fun _ _ _ h=>h) (Or.inl ⟨by rfl,?_⟩) ?_ ?_
     rotate_left
     ·intro w'
      go_simp
      with_reducible rfl
     rotate_left
     ·simp only [Act.put,List.setIfInBounds_toArray,List.set_cons_zero,List.set_cons_succ,i64_w,i32_w]
      rfl
     refine pure_ (i:=9) (N:=some 37) (v:=?_) (a':=?_) #[true,false,false,true,false,false,false,false,false,true,false,false,false,false,false,false,false] rfl rfl (any_of HT_.out (by kernel_rfl)) (fun _ _ _ h=>h) (Or.inl ⟨by rfl,?_⟩) ?_ ?_
     rotate_left
     ·intro w'
      go_simp
      with_reducible rfl
     rotate_left
     ·simp only [Act.put,List.setIfInBounds_toArray,List.set_cons_zero,List.set_cons_succ,i64_w,i32_w]
      rfl
     refine take_ (i:=1) (N:=some 29) (v:=?_) (a':=?_) #[true,true,false,true,false,false,false,false,false,true,false,false,false,false,false,false,false] rfl rfl (take_ofW HT_.out HW_.out (by kernel_rfl)) (fun _ _ _ h=>h) (Or.inl ⟨by rfl,?_⟩) hHeld ?_ ?_
     rotate_left
     ·rintro w' ⟨s0,s1,s2⟩
      go_simp
      with_reducible rfl
     rotate_left
     ·simp only [Act.put,List.setIfInBounds_toArray,List.set_cons_zero,List.set_cons_succ,i64_w,i32_w]
      rfl
     refine pure_ (i:=2) (N:=some 30) (v:=?_) (a':=?_) #[true,true,true,true,false,false,false,false,false,true,false,false,false,false,false,false,false] rfl rfl (any_of HT_.out (by kernel_rfl)) (fun _ _ _ h=>h) (Or.inl ⟨by rfl,?_⟩) ?_ ?_
     rotate_left
     ·intro w'
      go_simp
      with_reducible rfl
     rotate_left
     ·simp only [Act.put,List.setIfInBounds_toArray,List.set_cons_zero,List.set_cons_succ,i64_w,i32_w]
      rfl
     refine take_ (i:=4) (N:=some 32) (v:=?_) (a':=?_) #[true,true,true,true,true,false,false,false,false,true,false,false,false,false,false,false,false] rfl rfl (take_ofW HT_.out HW_.out (by kernel_rfl)) (fun _ _ _ h=>h) (Or.inl ⟨by rfl,?_⟩) hHeld ?_ ?_
     rotate_left
     ·rintro w' ⟨s0,s1,s2⟩
      go_simp
      with_reducible rfl
     rotate_left
     ·simp only [Act.put,List.setIfInBounds_toArray,List.set_cons_zero,List.set_cons_succ,i64_w,i32_w]
      rfl
     refine pure_ (i:=5) (N:=some 33) (v:=?_) (a':=?_) #[true,true,true,true,true,true,false,false,false,true,false,false,false,false,false,false,false] rfl rfl (any_of HT_.out (by kernel_rfl)) (fun _ _ _ h=>h) (Or.inl ⟨by rfl,?_⟩) ?_ ?_
     rotate_left
     ·intro w'
      go_simp
      with_reducible rfl
     rotate_left
     ·simp only [Act.put,List.setIfInBounds_toArray,List.set_cons_zero,List.set_cons_succ,i64_w,i32_w]
      rfl
     refine pure_ (i:=6) (N:=some 34) (v:=?_) (a':=?_) #[true,true,true,true,true,true,true,false,false,true,false,false,false,false,false,false,false] rfl rfl (any_of HT_.out (by kernel_rfl)) (fun _ _ _ h=>h) (Or.inl ⟨by rfl,?_⟩) ?_ ?_
     rotate_left
     ·intro w'
      go_simp
      with_reducible rfl
     rotate_left
     ·simp only [Act.put,List.setIfInBounds_toArray,List.set_cons_zero,List.set_cons_succ,i64_w,i32_w]
      rfl
     refine pure_ (i:=7) (N:=some 35) (v:=?_) (a':=?_) #[true,true,true,true,true,true,true,true,false,true,false,false,false,false,false,false,false] rfl rfl (any_of HT_.out (by kernel_rfl)) (fun _ _ _ h=>h) (Or.inl ⟨by rfl,?_⟩) ?_ ?_
     rotate_left
     ·intro w'
      go_simp
      with_reducible rfl
     rotate_left
     ·simp only [Act.put,List.setIfInBounds_toArray,List.set_cons_zero,List.set_cons_succ,i64_w,i32_w]
      rfl
     refine pure_ (i:=8) (N:=some 36) (v:=?_) (a':=?_) #[true,true,true,true,true,true,true,true,true,true,false,false,false,false,false,false,false] rfl rfl (any_of HT_.out (by kernel_rfl)) (fun _ _ _ h=>h) (Or.inl ⟨by rfl,?_⟩) ?_ ?_
     rotate_left
     ·intro w'
      go_simp
      with_reducible rfl
     rotate_left
     ·simp only [Act.put,List.setIfInBounds_toArray,List.set_cons_zero,List.set_cons_succ,i64_w,i32_w]
      rfl
     refine one_ (i:=10) (N:=some 38) #[true,true,true,true,true,true,true,true,true,true,true,false,false,false,false,false,false] rfl rfl (one_of HT_.out (by kernel_rfl)) (by decide) (fun K hK=>?_)
     refine Kd.R_lit_step (Kd.int .i64) _ 3 ?hg (N:=38) ?hd (xs:=([0,0,0,1,(-1)]:List Int)) (inner:=[.int .i64 0,.int .i64 0,.int .i64 0,.int .i64 1,.int .i64 (-1)]) (ok:=fun _=>True) (okp:=fun _=>True) ?hr ?hp (fun _ hk=>hk) trivial (Below.refl _ _) (Nat.le_refl _) (by simp) ?_;(case hd=>rfl);(case hg=>rfl);(case hr=>first|(go_simp;done)|(go_simp;rfl));(case hp=>exact (Reps.one (show Kd.M (Kd.int .i64) _ _ _ 0 [.int .i64 0] from rfl) (Reps.one (show Kd.M (Kd.int .i64) _ _ _ 0 [.int .i64 0] from rfl) (Reps.one (show Kd.M (Kd.int .i64) _ _ _ 0 [.int .i64 0] from rfl) (Reps.one (show Kd.M (Kd.int .i64) _ _ _ 1 [.int .i64 1] from rfl) (Reps.one (show Kd.M (Kd.int .i64) _ _ _ (-1) [.int .i64 (-1)] from rfl) (Reps.none _ _)))))))
     intro v167 w34 ho35 hb hg_ hnew_
     clear hg_ hnew_
     (first|rw [← Ny166.out] at ho35|(simp only [Int.reduceToNat] at ho35;rw [← Ny166.out] at ho35))
     have n0_:=Z (Kd.R_elder' (pR HO_158001) (Kd.R_base ho35) hb)
     have n1_:=Z (Kd.R_elder' (pR HO165) (Kd.R_base ho35) hb)
     have n2_:=Z (Kd.R_lower (Kd.R_new' (Kd.R_new' ho35 (Kd.R_lt (pR HO_158001))) (Kd.R_lt (pR HO165))) (keep_size (w:=w) (g:=g) (row:=none) pH))
     have n3_:=Z (blk_below (g:=gb156) (o:=.cells #[.int .i64 0,.slice none 0 0,.slice none 0 0] 32 (0,0)) (pK BK156) hb)
     have n4_:=Z (blk_below (g:=gb157) (o:=.cells #[.int .i64 0,.slice Ao30 y163.length co30,.slice none 0 0] 32 (0,0)) (pK BK157) hb)
     have n5_:=Z (IsS71.below pI hb)
     have n6_:=Z (KeepBut.trans pH (KeepBut.of_below hb g none) (.inl rfl))
     have n7_:=Z (below_step pB hb)
     clear HO_158001
     clear HO165
     clear BK156
     clear BK157
     clear HI0
     clear HK
     clear HB
     have HO_158001:=n0_
     have HO165:=n1_
     have HO168:=n2_
     have BK156:=n3_
     have BK157:=n4_
     have HI0:=n5_
     have HK:=n6_
     have HB:=n7_
     clear n0_ n1_ n2_ n3_ n4_ n5_ n6_ n7_
     clear hb ho35
     obtain ⟨Ao36,co36,eo36⟩:=Kd.R_slice HO168.out
     (first|subst eo36|(injection eo36 with f1_ f2_ f3_;have f4_:=f1_.symm;have f5_:=f3_.symm;clear f1_ f2_ f3_;subst f4_;subst f5_))
     refine hK.out _ _ ⟨(kC BK157.out 0).trans rfl,(kC BK157.out 1).trans rfl,(kC BK157.out 2).trans rfl⟩ (fun hHeld=>?_)
     clear hK K
     refine norm_ (a':=?_) ?_ ?_
     rotate_left
     ·show Act.put _ (some 38) _=_
      simp only [Act.put,List.setIfInBounds_toArray,List.set_cons_zero,List.set_cons_succ,i64_w,i32_w]
      rfl
     refine one_ (i:=11) (N:=some 39) #[true,true,true,true,true,true,true,true,true,true,true,true,false,false,false,false,false] rfl rfl (one_of HT_.out (by kernel_rfl)) (by decide) (fun K hK=>?_)
     refine goes_ Try.func71 (by kernel_rfl) rfl #[.pointer (some ⟨g,0,none⟩),.slice Ao36 y166.length co36] (by rfl) rfl rfl pG ?_
     with_reducible refine (trustquorummake_Tape_Pick.calls g s0_0 x1001_1 _ _ y166 t169 t170 w0 _ ?side1 ?side2 ?side3 ?side4 ?side5 A21.out).mono ?_
     (case side1=>exact pI)
     (case side2=>exact pB)
     (case side3=>repeat (first|exact (Kd.R_reads' HO168.out).2.2|(with_reducible refine Kd.C_alloc ?_ _)|(with_reducible refine Kd.C_drewN ?_ _)|(with_reducible refine Kd.C_drew ?_)))
     (case side4=>exact (Kd.R_reads' HO168.out).2.1)
     (case side5=>exact far_slice (IsS71.own_ne HI0.out HO168.out (by decide)))
     rintro e w37 ⟨rfl,hi,hb,hk⟩
     refine ⟨_,rfl,?_⟩
     have n0_:=Z (Kd.R_mono (Kd.R_keep (IsS71.apart (show IsS71 w0 _ g s0_0 x1001_1 from pI) (pR HO_158001) (by decide)) hk (fun _ h=>h.2)) (fun _ h=>h.1))
     have n1_:=Z (KeepBut.blk hk (g':=gb156) (o:=.cells #[.int .i64 0,.slice none 0 0,.slice none 0 0] 32 (0,0)) (pK BK156) NB156_0.out (by simp))
     have n2_:=Z (KeepBut.blk hk (g':=gb157) (o:=.cells #[.int .i64 0,.slice Ao30 y163.length co30,.slice none 0 0] 32 (0,0)) (pK BK157) NB157_0.out (by simp))
     have n3_:=Z (Kd.R_mono (Kd.R_keep (IsS71.apart (show IsS71 w0 _ g s0_0 x1001_1 from pI) (pR HO165) (by decide)) hk (fun _ h=>h.2)) (fun _ h=>h.1))
     have n4_:=Z (Kd.R_mono (Kd.R_keep (IsS71.apart (show IsS71 w0 _ g s0_0 x1001_1 from pI) (pR HO168) (by decide)) hk (fun _ h=>h.2)) (fun _ h=>h.1))
     have n5_:=Z (KeepBut.trans pH hk (.inl rfl))
     have n6_:=Z (hb)
     have n7_:=Z (hi)
     clear HO_158001
     clear BK156
     clear BK157
     clear HO165
     clear HO168
     clear HK
     clear HB
     clear HI0
     have HO_158001:=n0_
     have BK156:=n1_
     have BK157:=n2_
     have HO165:=n3_
     have HO168:=n4_
     have HK:=n5_
     have HB:=n6_
     have HI0:=n7_
     clear n0_ n1_ n2_ n3_ n4_ n5_ n6_ n7_
     (try clear hb)
     (try clear hb2)
     (try clear hk)
     (try clear hi)
     refine hK.out _ _ ⟨(kC BK157.out 0).trans rfl,(kC BK157.out 1).trans rfl,(kC BK157.out 2).trans rfl⟩ (fun hHeld=>?_)
     clear hK K
     refine norm_ (a':=?_) ?_ ?_
     rotate_left
     ·show Act.put _ (some 39) _=_
      simp only [Act.put,List.setIfInBounds_toArray,List.set_cons_zero,List.set_cons_succ,i64_w,i32_w]
      rfl
     refine pure_ (i:=12) (N:=some 40) (v:=?_) (a':=?_) #[true,true,true,true,true,true,true,true,true,true,true,true,true,false,false,false,false] rfl rfl (any_of HT_.out (by kernel_rfl)) (fun _ _ _ h=>h) (Or.inl ⟨by rfl,?_⟩) ?_ ?_
     rotate_left
     ·intro w'
      go_simp
      with_reducible rfl
     rotate_left
     ·simp only [Act.put,List.setIfInBounds_toArray,List.set_cons_zero,List.set_cons_succ,i64_w,i32_w]
      rfl
     refine pure_ (i:=13) (N:=some 41) (v:=?_) (a':=?_) #[true,true,true,true,true,true,true,true,true,true,true,true,true,true,false,false,false] rfl rfl (any_of HT_.out (by kernel_rfl)) (fun _ _ _ h=>h) (Or.inl ⟨by rfl,?_⟩) ?_ ?_
     rotate_left
     ·intro w'
      go_simp
      with_reducible rfl
     rotate_left
     ·simp only [Act.put,List.setIfInBounds_toArray,List.set_cons_zero,List.set_cons_succ,i64_w,i32_w]
      rfl
     refine pure_ (i:=14) (N:=some 42) (v:=?_) (a':=?_) #[true,true,true,true,true,true,true,true,true,true,true,true,true,true,true,false,false] rfl rfl (any_of HT_.out (by kernel_rfl)) (fun _ _ _ h=>h) (Or.inl ⟨by rfl,?_⟩) ?_ ?_
     rotate_left
     ·intro w'
      go_simp
      with_reducible rfl
     rotate_left
     ·simp only [Act.put,List.setIfInBounds_toArray,List.set_cons_zero,List.set_cons_succ,i64_w,i32_w]
      rfl
     refine pure_ (i:=15) (N:=some 43) (v:=?_) (a':=?_) #[true,true,true,true,true,true,true,true,true,true,true,true,true,true,true,true,false] rfl rfl (any_of HT_.out (by kernel_rfl)) (fun _ _ _ h=>h) (Or.inl ⟨by rfl,?_⟩) ?_ ?_
     rotate_left
     ·intro w'
      go_simp
      with_reducible rfl
     rotate_left
     ·simp only [Act.put,List.setIfInBounds_toArray,List.set_cons_zero,List.set_cons_succ,i64_w,i32_w]
      rfl
     refine last_ (i:=16) (N:=none) #[true,true,true,true,true,true,true,true,true,true,true,true,true,true,true,true,true] rfl rfl (one_of HT_.out (by kernel_rfl)) (by decide) (fun K hK=>?_)
     have hs38:w37.cell? ⟨gb157,0,none⟩=some (.int .i64 0):=(kC BK157.out 0).trans rfl
     have hfs38:=kF BK157.out 0
     have hns38_0:=NB156_157.out
     have hms38_0:=NB157_156.out
     refine skip_ (w1:=?_) (by rfl) rfl ?_ ?_
     rotate_left
     ·go_simp
      rfl
     refine hK.out _ _ ?_
     clear hK K
     refine done_ (done_of HT_.out (by kernel_rfl)) ?_
     have hcz39_0:w37.cell? ⟨gb157,0,none⟩=some (.int .i64 0):=(kC BK157.out 0).trans rfl
     have hcz39_1:w37.cell? ⟨gb157,1,none⟩=some (.slice Ao30 y163.length co30):=(kC BK157.out 1).trans rfl
     have hcz39_2:w37.cell? ⟨gb157,2,none⟩=some (.slice none 0 0):=(kC BK157.out 2).trans rfl
     have hfz39_0:=kF BK157.out 0
     have hfz39_1:=kF BK157.out 1
     have hfz39_2:=kF BK157.out 2
     have hnb40:=NB156_0.out
     have hnc40:=NB0_156.out
     have hcz41_0:w37.cell? ⟨gb156,0,none⟩=some (.int .i64 0):=(kC BK156.out 0).trans rfl
     have hcz41_1:w37.cell? ⟨gb156,1,none⟩=some (.slice none 0 0):=(kC BK156.out 1).trans rfl
     have hcz41_2:w37.cell? ⟨gb156,2,none⟩=some (.slice none 0 0):=(kC BK156.out 2).trans rfl
     have hfz41_0:=kF BK156.out 0
     have hfz41_1:=kF BK156.out 1
     have hfz41_2:=kF BK156.out 2
     try go_wp2
     refine bodyPost_ret (results_cell_row rfl _ _ gb156 32 #[.int .i64 ji23,.slice Ao30 y163.length co30,.slice none 0 0] (0,0) _ rfl (by (with_reducible repeat (first|refine kN ?_ _|refine kD ?_|refine kA ?_ _));refine blk_put (cs:=#[.int .i64 ji23,.slice Ao30 y163.length co30,.slice none 0 0]) ?_ 2 _ rfl;(with_reducible repeat (first|refine kN ?_ _|refine kD ?_|refine kA ?_ _));refine blk_put (cs:=#[.int .i64 ji23,.slice none 0 0,.slice none 0 0]) ?_ 1 _ rfl;(with_reducible repeat (first|refine kN ?_ _|refine kD ?_|refine kA ?_ _));refine blk_put (cs:=#[.int .i64 0,.slice none 0 0,.slice none 0 0]) ?_ 0 _ rfl;(with_reducible repeat (first|refine kN ?_ _|refine kD ?_|refine kA ?_ _));refine blk_far ?_ NB156_157.out _;(with_reducible repeat (first|refine kN ?_ _|refine kD ?_|refine kA ?_ _));exact BK156.out) Try.underlying32 rfl (by kernel_rfl)) rfl ?_
     exact ⟨_,_,by first|rfl|(simp [errW_none,errW_some] <;> rfl)|(simp only [← hji22,← hji23];first|rfl|(simp [errW_none,errW_some] <;> rfl))|(simp [*,errW_none,errW_some] <;> rfl),by (with_reducible repeat (first|apply Kd.R_alloc|apply Kd.R_drewN|apply Kd.R_drew));exact Kd.R_mono (Kd.R_far (p:=⟨gb156,2,none⟩) (Kd.R_far (p:=⟨gb156,1,none⟩) (Kd.R_far (p:=⟨gb156,0,none⟩) (Kd.R_far (p:=⟨gb157,0,none⟩) (Kd.R_types (Kd.R_types HO165.out BK157.out (by decide)) BK156.out (by decide)) (fun _ hk=>hk.1.2) (.int .i64 ji23)) (fun _ hk=>hk.2) (.int .i64 ji23)) (fun _ hk=>hk.2) (.slice Ao30 y163.length co30)) (fun _ hk=>hk.2) (.slice none 0 0)) (fun _ hk=>trivial),pN,pI,pB,pH⟩
    ·rw [if_neg c20] at H
     have c20b0:((x158001_1.length:Int) == 0)=false:=beq_eq_false_iff_ne.mpr c20
     have c20b1:((x158001_1.length:Int) != 0)=true:=bne_iff_ne.mpr c20
     have c20b2:¬ (x158001_1=[]):=fun h_=>c20 (by rw [h_];rfl)
     obtain ⟨y171,hy171⟩:∃ y_:List Int,y_=(([0,0,0,1,(-1)]:List Int)):=⟨_,rfl⟩
     replace H:((trustquorummake_Tape_Pick.f s0_0 x1001_1 y171).bind fun bt174=>(some (mn (x158001_1.length:Int) (mx 1 (wrap64 ((wrap64 (Int.tdiv (wrap64 ((wrap64 (2 * (x158001_1.length:Int)))+2)) 3))+bt174.1))),x158001_1,([]:List (S32)),bt174.2)))=some (r1,r2,r3,r4):=by first|(rw [hy171];with_reducible exact H)|(have H2_:=(Option.bind_some _ _).symm.trans H;rw [hy171];with_reducible exact H2_)|(have H2_:=(Option.bind_some _ _).symm.trans H;with_reducible exact H2_)|with_reducible exact H|(rw [hy171];exact H)|exact H
     have Ny171:=Aside0.mk hy171
     clear hy171
     replace H:=Option.bind_eq_some_iff.mp H
     obtain ⟨⟨t174,t175⟩,A420,H⟩:=H
     replace H:(some (mn (x158001_1.length:Int) (mx 1 (wrap64 ((wrap64 (Int.tdiv (wrap64 ((wrap64 (2 * (x158001_1.length:Int)))+2)) 3))+t174))),x158001_1,([]:List (S32)),t175))=some (r1,r2,r3,r4):=H
     have A42:=Aside0.mk A420
     clear A420
     obtain ⟨ji43,hji43⟩:∃ j_:Int,(mx 1 (wrap64 ((wrap64 (Int.tdiv (wrap64 ((wrap64 (2 * (x158001_1.length:Int)))+2)) 3))+t174)))=j_:=⟨_,rfl⟩
     replace H:(some (mn (x158001_1.length:Int) (ji43),x158001_1,([]:List (S32)),t175))=some (r1,r2,r3,r4):=by first|(rw [hji43] at H;exact H)|(simp only [hji43] at H ⊢;exact H)
     (try rw [hji43] at A42)
     have hji43_:(if 1 < (wrap64 ((wrap64 (Int.tdiv (wrap64 ((wrap64 (2 * (x158001_1.length:Int)))+2)) 3))+t174)) then (wrap64 ((wrap64 (Int.tdiv (wrap64 ((wrap64 (2 * (x158001_1.length:Int)))+2)) 3))+t174)) else 1)=ji43:=hji43
     obtain ⟨ji44,hji44⟩:∃ j_:Int,(mn (x158001_1.length:Int) (ji43))=j_:=⟨_,rfl⟩
     replace H:(some (ji44,x158001_1,([]:List (S32)),t175))=some (r1,r2,r3,r4):=by first|(rw [hji44] at H;exact H)|(simp only [hji44] at H ⊢;exact H)
     (try rw [hji44] at A42)
     have hji44_:(if (ji43) < (x158001_1.length:Int) then (ji43) else (x158001_1.length:Int))=ji44:=hji44
     simp only [Option.some.injEq,Prod.mk.injEq] at H
     obtain ⟨rfl,rfl,rfl,rfl⟩:=H
     have hnb45:=NB157_156.out
     have hnc45:=NB156_157.out
     have hnb46:=NB157_0.out
     have hnc46:=NB0_157.out
     have hcz47_0:wr.cell? ⟨gb157,0,none⟩=some (.int .i64 0):=(kC BK157.out 0).trans rfl
     have hcz47_1:wr.cell? ⟨gb157,1,none⟩=some (u158001):=(kC BK157.out 1).trans rfl
     have hcz47_2:wr.cell? ⟨gb157,2,none⟩=some (.slice none 0 0):=(kC BK157.out 2).trans rfl
     have hfz47_0:=kF BK157.out 0
     have hfz47_1:=kF BK157.out 1
     have hfz47_2:=kF BK157.out 2
     obtain ⟨Ao48,co48,eo48⟩:=Kd.R_slice HO_158001.out
     subst eo48
     try go_wp2
     have n0_:=Z (Kd.R_drew HO_158001.out)
     have n1_:=Z (kD BK156.out)
     have n2_:=Z (kD BK157.out)
     have n3_:=Z (IsS71.drew HI0.out)
     have n4_:=Z (keep_drew HK.out)
     have n5_:=Z (wD HB.out)
     clear HO_158001
     clear BK156
     clear BK157
     clear HI0
     clear HK
     clear HB
     have HO_158001:=n0_
     have BK156:=n1_
     have BK157:=n2_
     have HI0:=n3_
     have HK:=n4_
     have HB:=n5_
     clear n0_ n1_ n2_ n3_ n4_ n5_
     refine start_ (n:=17) (S:=fun w'=>w'.cell? ⟨gb157,0,none⟩=some (.int .i64 0)∧w'.cell? ⟨gb157,1,none⟩=some (.slice Ao48 x158001_1.length co48)∧w'.cell? ⟨gb157,2,none⟩=some (.slice none 0 0)) (ds:=[16]) #[false,false,false,false,false,false,false,false,false,false,false,false,false,false,false,false,false] (by kernel_rfl) rfl rfl ⟨(kC BK157.out 0).trans rfl,(kC BK157.out 1).trans rfl,(kC BK157.out 2).trans rfl⟩ (fun hHeld=>?_);refine with_tabW trustquorummake_most.tab9 trustquorummake_most.bits9 (fun HT_ HW_=>?_)
     generalize wr.drew=w49 at HO_158001 BK156 BK157 HI0 HK HB hHeld ⊢
     refine pure_ (i:=0) (N:=some 28) (v:=?_) (a':=?_) #[true,false,false,false,false,false,false,false,false,false,false,false,false,false,false,false,false] rfl rfl (any_of HT_.out (by kernel_rfl)) (fun _ _ _ h=>h) (Or.inl ⟨by rfl,?_⟩) ?_ ?_
     rotate_left
     ·intro w'
      go_simp
      with_reducible rfl
     rotate_left
     ·simp only [Act.put,List.setIfInBounds_toArray,List.set_cons_zero,List.set_cons_succ,i64_w,i32_w]
      rfl
     refine pure_ (i:=3) (N:=some 31) (v:=?_) (a':=?_) #[true,false,false,true,false,false,false,false,false,false,false,false,false,false,false,false,false] rfl rfl (any_of HT_.out (by kernel_rfl)) (fun _ _ _ h=>h) (Or.inl ⟨by rfl,?_⟩) ?_ ?_
     rotate_left
     ·intro w'
      go_simp
      with_reducible rfl
     rotate_left
     ·simp only [Act.put,List.setIfInBounds_toArray,List.set_cons_zero,List.set_cons_succ,i64_w,i32_w]
      rfl
     refine pure_ (i:=9) (N:=some 37) (v:=?_) (a':=?_) #[true,false,false,true,false,false,false,false,false,true,false,false,false,false,false,false,false] rfl rfl (any_of HT_.out (by kernel_rfl)) (fun _ _ _ h=>h) (Or.inl ⟨by rfl,?_⟩) ?_ ?_
     rotate_left
     ·intro w'
      go_simp
      with_reducible rfl
     rotate_left
     ·simp only [Act.put,List.setIfInBounds_toArray,List.set_cons_zero,List.set_cons_succ,i64_w,i32_w]
      rfl
     refine take_ (i:=1) (N:=some 29) (v:=?_) (a':=?_) #[true,true,false,true,false,false,false,false,false,true,false,false,false,false,false,false,false] rfl rfl (take_ofW HT_.out HW_.out (by kernel_rfl)) (fun _ _ _ h=>h) (Or.inl ⟨by rfl,?_⟩) hHeld ?_ ?_
     rotate_left
     ·rintro w' ⟨s0,s1,s2⟩
      go_simp
      with_reducible rfl
     rotate_left
     ·simp only [Act.put,List.setIfInBounds_toArray,List.set_cons_zero,List.set_cons_succ,i64_w,i32_w]
      rfl
     refine pure_ (i:=2) (N:=some 30) (v:=?_) (a':=?_) #[true,true,true,true,false,false,false,false,false,true,false,false,false,false,false,false,false] rfl rfl (any_of HT_.out (by kernel_rfl)) (fun _ _ _ h=>h) (Or.inl ⟨by rfl,?_⟩) ?_ ?_
     rotate_left
     ·intro w'
      go_simp
      with_reducible rfl
     rotate_left
     ·simp only [Act.put,List.setIfInBounds_toArray,List.set_cons_zero,List.set_cons_succ,i64_w,i32_w]
      rfl
     refine take_ (i:=4) (N:=some 32) (v:=?_) (a':=?_) #[true,true,true,true,true,false,false,false,false,true,false,false,false,false,false,false,false] rfl rfl (take_ofW HT_.out HW_.out (by kernel_rfl)) (fun _ _ _ h=>h) (Or.inl ⟨by rfl,?_⟩) hHeld ?_ ?_
     rotate_left
     ·rintro w' ⟨s0,s1,s2⟩
      go_simp
      with_reducible rfl
     rotate_left
     ·simp only [Act.put,List.setIfInBounds_toArray,List.set_cons_zero,List.set_cons_succ,i64_w,i32_w]
      rfl
     refine pure_ (i:=5) (N:=some 33) (v:=?_) (a':=?_) #[true,true,true,true,true,true,false,false,false,true,false,false,false,false,false,false,false] rfl rfl (any_of HT_.out (by kernel_rfl)) (fun _ _ _ h=>h) (Or.inl ⟨by rfl,?_⟩) ?_ ?_
     rotate_left
     ·intro w'
      go_simp
      with_reducible rfl
     rotate_left
     ·simp only [Act.put,List.setIfInBounds_toArray,List.set_cons_zero,List.set_cons_succ,i64_w,i32_w]
      rfl
     refine pure_ (i:=6) (N:=some 34) (v:=?_) (a':=?_) #[true,true,true,true,true,true,true,false,false,true,false,false,false,false,false,false,false] rfl rfl (any_of HT_.out (by kernel_rfl)) (fun _ _ _ h=>h) (Or.inl ⟨by rfl,?_⟩) ?_ ?_
     rotate_left
     ·intro w'
      go_simp
      with_reducible rfl
     rotate_left
     ·simp only [Act.put,List.setIfInBounds_toArray,List.set_cons_zero,List.set_cons_succ,i64_w,i32_w]
      rfl
     refine pure_ (i:=7) (N:=some 35) (v:=?_) (a':=?_) #[true,true,true,true,true,true,true,true,false,true,false,false,false,false,false,false,false] rfl rfl (any_of HT_.out (by kernel_rfl)) (fun _ _ _ h=>h) (Or.inl ⟨by rfl,?_⟩) ?_ ?_
     rotate_left
     ·intro w'
      go_simp
      with_reducible rfl
     rotate_left
     ·simp only [Act.put,List.setIfInBounds_toArray,List.set_cons_zero,List.set_cons_succ,i64_w,i32_w]
      rfl
     refine pure_ (i:=8) (N:=some 36) (v:=?_) (a':=?_) #[true,true,true,true,true,true,true,true,true,true,false,false,false,false,false,false,false] rfl rfl (any_of HT_.out (by kernel_rfl)) (fun _ _ _ h=>h) (Or.inl ⟨by rfl,?_⟩) ?_ ?_
     rotate_left
     ·intro w'
      go_simp
      with_reducible rfl
     rotate_left
     ·simp only [Act.put,List.setIfInBounds_toArray,List.set_cons_zero,List.set_cons_succ,i64_w,i32_w]
      rfl
     refine one_ (i:=10) (N:=some 38) #[true,true,true,true,true,true,true,true,true,true,true,false,false,false,false,false,false] rfl rfl (one_of HT_.out (by kernel_rfl)) (by decide) (fun K hK=>?_)
     refine Kd.R_lit_step (Kd.int .i64) _ 3 ?hg (N:=38) ?hd (xs:=([0,0,0,1,(-1)]:List Int)) (inner:=[.int .i64 0,.int .i64 0,.int .i64 0,.int .i64 1,.int .i64 (-1)]) (ok:=fun _=>True) (okp:=fun _=>True) ?hr ?hp (fun _ hk=>hk) trivial (Below.refl _ _) (Nat.le_refl _) (by simp) ?_;(case hd=>rfl);(case hg=>rfl);(case hr=>first|(go_simp;done)|(go_simp;rfl));(case hp=>exact (Reps.one (show Kd.M (Kd.int .i64) _ _ _ 0 [.int .i64 0] from rfl) (Reps.one (show Kd.M (Kd.int .i64) _ _ _ 0 [.int .i64 0] from rfl) (Reps.one (show Kd.M (Kd.int .i64) _ _ _ 0 [.int .i64 0] from rfl) (Reps.one (show Kd.M (Kd.int .i64) _ _ _ 1 [.int .i64 1] from rfl) (Reps.one (show Kd.M (Kd.int .i64) _ _ _ (-1) [.int .i64 (-1)] from rfl) (Reps.none _ _)))))))
     intro v172 w50 ho51 hb hg_ hnew_
     clear hg_ hnew_
     (first|rw [← Ny171.out] at ho51|(simp only [Int.reduceToNat] at ho51;rw [← Ny171.out] at ho51))
     have n0_:=Z (Kd.R_elder' (pR HO_158001) (Kd.R_base ho51) hb)
     have n1_:=Z (Kd.R_lower (Kd.R_new' ho51 (Kd.R_lt (pR HO_158001))) (keep_size (w:=w) (g:=g) (row:=none) pH))
     have n2_:=Z (blk_below (g:=gb156) (o:=.cells #[.int .i64 0,.slice none 0 0,.slice none 0 0] 32 (0,0)) (pK BK156) hb)
     have n3_:=Z (blk_below (g:=gb157) (o:=.cells #[.int .i64 0,.slice Ao48 x158001_1.length co48,.slice none 0 0] 32 (0,0)) (pK BK157) hb)
     have n4_:=Z (IsS71.below pI hb)
     have n5_:=Z (KeepBut.trans pH (KeepBut.of_below hb g none) (.inl rfl))
     have n6_:=Z (below_step pB hb)
     clear HO_158001
     clear BK156
     clear BK157
     clear HI0
     clear HK
     clear HB
     have HO_158001:=n0_
     have HO173:=n1_
     have BK156:=n2_
     have BK157:=n3_
     have HI0:=n4_
     have HK:=n5_
     have HB:=n6_
     clear n0_ n1_ n2_ n3_ n4_ n5_ n6_
     clear hb ho51
     obtain ⟨Ao52,co52,eo52⟩:=Kd.R_slice HO173.out
     (first|subst eo52|(injection eo52 with f1_ f2_ f3_;have f4_:=f1_.symm;have f5_:=f3_.symm;clear f1_ f2_ f3_;subst f4_;subst f5_))
     refine hK.out _ _ ⟨(kC BK157.out 0).trans rfl,(kC BK157.out 1).trans rfl,(kC BK157.out 2).trans rfl⟩ (fun hHeld=>?_)
     clear hK K
     refine norm_ (a':=?_) ?_ ?_
     rotate_left
     ·show Act.put _ (some 38) _=_
      simp only [Act.put,List.setIfInBounds_toArray,List.set_cons_zero,List.set_cons_succ,i64_w,i32_w]
      rfl
     refine one_ (i:=11) (N:=some 39) #[true,true,true,true,true,true,true,true,true,true,true,true,false,false,false,false,false] rfl rfl (one_of HT_.out (by kernel_rfl)) (by decide) (fun K hK=>?_)
     refine goes_ Try.func71 (by kernel_rfl) rfl #[.pointer (some ⟨g,0,none⟩),.slice Ao52 y171.length co52] (by rfl) rfl rfl pG ?_
     with_reducible refine (trustquorummake_Tape_Pick.calls g s0_0 x1001_1 _ _ y171 t174 t175 w0 _ ?side1 ?side2 ?side3 ?side4 ?side5 A42.out).mono ?_
     (case side1=>exact pI)
     (case side2=>exact pB)
     (case side3=>repeat (first|exact (Kd.R_reads' HO173.out).2.2|(with_reducible refine Kd.C_alloc ?_ _)|(with_reducible refine Kd.C_drewN ?_ _)|(with_reducible refine Kd.C_drew ?_)))
     (case side4=>exact (Kd.R_reads' HO173.out).2.1)
     (case side5=>exact far_slice (IsS71.own_ne HI0.out HO173.out (by decide)))
     rintro e w53 ⟨rfl,hi,hb,hk⟩
     refine ⟨_,rfl,?_⟩
     have n0_:=Z (Kd.R_mono (Kd.R_keep (IsS71.apart (show IsS71 w0 _ g s0_0 x1001_1 from pI) (pR HO_158001) (by decide)) hk (fun _ h=>h.2)) (fun _ h=>h.1))
     have n1_:=Z (KeepBut.blk hk (g':=gb156) (o:=.cells #[.int .i64 0,.slice none 0 0,.slice none 0 0] 32 (0,0)) (pK BK156) NB156_0.out (by simp))
     have n2_:=Z (KeepBut.blk hk (g':=gb157) (o:=.cells #[.int .i64 0,.slice Ao48 x158001_1.length co48,.slice none 0 0] 32 (0,0)) (pK BK157) NB157_0.out (by simp))
     have n3_:=Z (Kd.R_mono (Kd.R_keep (IsS71.apart (show IsS71 w0 _ g s0_0 x1001_1 from pI) (pR HO173) (by decide)) hk (fun _ h=>h.2)) (fun _ h=>h.1))
     have n4_:=Z (KeepBut.trans pH hk (.inl rfl))
     have n5_:=Z (hb)
     have n6_:=Z (hi)
     clear HO_158001
     clear BK156
     clear BK157
     clear HO173
     clear HK
     clear HB
     clear HI0
     have HO_158001:=n0_
     have BK156:=n1_
     have BK157:=n2_
     have HO173:=n3_
     have HK:=n4_
     have HB:=n5_
     have HI0:=n6_
     clear n0_ n1_ n2_ n3_ n4_ n5_ n6_
     (try clear hb)
     (try clear hb2)
     (try clear hk)
     (try clear hi)
     refine hK.out _ _ ⟨(kC BK157.out 0).trans rfl,(kC BK157.out 1).trans rfl,(kC BK157.out 2).trans rfl⟩ (fun hHeld=>?_)
     clear hK K
     refine norm_ (a':=?_) ?_ ?_
     rotate_left
     ·show Act.put _ (some 39) _=_
      simp only [Act.put,List.setIfInBounds_toArray,List.set_cons_zero,List.set_cons_succ,i64_w,i32_w]
      rfl
     refine pure_ (i:=12) (N:=some 40) (v:=?_) (a':=?_) #[true,true,true,true,true,true,true,true,true,true,true,true,true,false,false,false,false] rfl rfl (any_of HT_.out (by kernel_rfl)) (fun _ _ _ h=>h) (Or.inl ⟨by rfl,?_⟩) ?_ ?_
     rotate_left
     ·intro w'
      go_simp
      with_reducible rfl
     rotate_left
     ·simp only [Act.put,List.setIfInBounds_toArray,List.set_cons_zero,List.set_cons_succ,i64_w,i32_w]
      rfl
     refine pure_ (i:=13) (N:=some 41) (v:=?_) (a':=?_) #[true,true,true,true,true,true,true,true,true,true,true,true,true,true,false,false,false] rfl rfl (any_of HT_.out (by kernel_rfl)) (fun _ _ _ h=>h) (Or.inl ⟨by rfl,?_⟩) ?_ ?_
     rotate_left
     ·intro w'
      go_simp
      with_reducible rfl
     rotate_left
     ·simp only [Act.put,List.setIfInBounds_toArray,List.set_cons_zero,List.set_cons_succ,i64_w,i32_w]
      rfl
     refine pure_ (i:=14) (N:=some 42) (v:=?_) (a':=?_) #[true,true,true,true,true,true,true,true,true,true,true,true,true,true,true,false,false] rfl rfl (any_of HT_.out (by kernel_rfl)) (fun _ _ _ h=>h) (Or.inl ⟨by rfl,?_⟩) ?_ ?_
     rotate_left
     ·intro w'
      go_simp
      with_reducible rfl
     rotate_left
     ·simp only [Act.put,List.setIfInBounds_toArray,List.set_cons_zero,List.set_cons_succ,i64_w,i32_w]
      rfl
     refine pure_ (i:=15) (N:=some 43) (v:=?_) (a':=?_) #[true,true,true,true,true,true,true,true,true,true,true,true,true,true,true,true,false] rfl rfl (any_of HT_.out (by kernel_rfl)) (fun _ _ _ h=>h) (Or.inl ⟨by rfl,?_⟩) ?_ ?_
     rotate_left
     ·intro w'
      go_simp
      with_reducible rfl
     rotate_left
     ·simp only [Act.put,List.setIfInBounds_toArray,List.set_cons_zero,List.set_cons_succ,i64_w,i32_w]
      rfl
     refine last_ (i:=16) (N:=none) #[true,true,true,true,true,true,true,true,true,true,true,true,true,true,true,true,true] rfl rfl (one_of HT_.out (by kernel_rfl)) (by decide) (fun K hK=>?_)
     have hs54:w53.cell? ⟨gb157,0,none⟩=some (.int .i64 0):=(kC BK157.out 0).trans rfl
     have hfs54:=kF BK157.out 0
     have hns54_0:=NB156_157.out
     have hms54_0:=NB157_156.out
     refine skip_ (w1:=?_) (by rfl) rfl ?_ ?_
     rotate_left
     ·go_simp
      rfl
     refine hK.out _ _ ?_
     clear hK K
     refine done_ (done_of HT_.out (by kernel_rfl)) ?_
     have hcz55_0:w53.cell? ⟨gb157,0,none⟩=some (.int .i64 0):=(kC BK157.out 0).trans rfl
     have hcz55_1:w53.cell? ⟨gb157,1,none⟩=some (.slice Ao48 x158001_1.length co48):=(kC BK157.out 1).trans rfl
     have hcz55_2:w53.cell? ⟨gb157,2,none⟩=some (.slice none 0 0):=(kC BK157.out 2).trans rfl
     have hfz55_0:=kF BK157.out 0
     have hfz55_1:=kF BK157.out 1
     have hfz55_2:=kF BK157.out 2
     have hnb56:=NB156_0.out
     have hnc56:=NB0_156.out
     have hcz57_0:w53.cell? ⟨gb156,0,none⟩=some (.int .i64 0):=(kC BK156.out 0).trans rfl
     have hcz57_1:w53.cell? ⟨gb156,1,none⟩=some (.slice none 0 0):=(kC BK156.out 1).trans rfl
     have hcz57_2:w53.cell? ⟨gb156,2,none⟩=some (.slice none 0 0):=(kC BK156.out 2).trans rfl
     have hfz57_0:=kF BK156.out 0
     have hfz57_1:=kF BK156.out 1
     have hfz57_2:=kF BK156.out 2
     try go_wp2
     refine bodyPost_ret (results_cell_row rfl _ _ gb156 32 #[.int .i64 ji44,.slice Ao48 x158001_1.length co48,.slice none 0 0] (0,0) _ rfl (by (with_reducible repeat (first|refine kN ?_ _|refine kD ?_|refine kA ?_ _));refine blk_put (cs:=#[.int .i64 ji44,.slice Ao48 x158001_1.length co48,.slice none 0 0]) ?_ 2 _ rfl;(with_reducible repeat (first|refine kN ?_ _|refine kD ?_|refine kA ?_ _));refine blk_put (cs:=#[.int .i64 ji44,.slice none 0 0,.slice none 0 0]) ?_ 1 _ rfl;(with_reducible repeat (first|refine kN ?_ _|refine kD ?_|refine kA ?_ _));refine blk_put (cs:=#[.int .i64 0,.slice none 0 0,.slice none 0 0]) ?_ 0 _ rfl;(with_reducible repeat (first|refine kN ?_ _|refine kD ?_|refine kA ?_ _));refine blk_far ?_ NB156_157.out _;(with_reducible repeat (first|refine kN ?_ _|refine kD ?_|refine kA ?_ _));exact BK156.out) Try.underlying32 rfl (by kernel_rfl)) rfl ?_
     exact ⟨_,_,by first|rfl|(simp [errW_none,errW_some] <;> rfl)|(simp only [← hji43,← hji44];first|rfl|(simp [errW_none,errW_some] <;> rfl))|(simp [*,errW_none,errW_some] <;> rfl),by (with_reducible repeat (first|apply Kd.R_alloc|apply Kd.R_drewN|apply Kd.R_drew));exact Kd.R_mono (Kd.R_far (p:=⟨gb156,2,none⟩) (Kd.R_far (p:=⟨gb156,1,none⟩) (Kd.R_far (p:=⟨gb156,0,none⟩) (Kd.R_far (p:=⟨gb157,0,none⟩) (Kd.R_types (Kd.R_types HO_158001.out BK157.out (by decide)) BK156.out (by decide)) (fun _ hk=>hk.1.2) (.int .i64 ji44)) (fun _ hk=>hk.2) (.int .i64 ji44)) (fun _ hk=>hk.2) (.slice Ao48 x158001_1.length co48)) (fun _ hk=>hk.2) (.slice none 0 0)) (fun _ hk=>trivial),pN,pI,pB,pH⟩
def threshold_node.f (a0:Int):Option (Bool):=if a0 ≥ 0 then (some (decide (a0 < 10))) else (some false)
set_option maxHeartbeats 8000000 in
set_option maxRecDepth 100000 in
theorem threshold_node.calls (a0:Int) (r:Bool) (w:World) (h:threshold_node.f a0=some r) :
  Calls Try.prog 95 #[.int .i64 a0] w fun e w'=>e=.returned (.bool r)∧Drawn0 w w':=by
 have H:(if a0 ≥ 0 then (some (decide (a0 < 10))) else (some false))=some r:=h
 clear h
 by_cases c2:a0 ≥ 0
 ·rw [if_pos c2] at H
  have c2b0:decide (0≤a0)=true:=decide_eq_true c2
  clear c2
  obtain rfl:=Option.some.inj H
  go_enter Try.func95,Try.ntmps95
  go_wp2
  go_ret
  exact ⟨by first|rfl|(simp;done)|(simp [*];done),by repeat (first|exact Drawn0.refl _|apply Drawn0.step)⟩
 ·rw [if_neg c2] at H
  have c2b0:decide (0≤a0)=false:=decide_eq_false c2
  clear c2
  obtain rfl:=Option.some.inj H
  go_enter Try.func95,Try.ntmps95
  go_wp2
  go_ret
  exact ⟨by first|rfl|(simp;done)|(simp [*];done),by repeat (first|exact Drawn0.refl _|apply Drawn0.step)⟩
mutual
def threshold_Uses.l0:Nat→Int→List Int→Int→Int→Int→List Int→List (S32)→Option (Int)
 | 0,_,_,_,_,_,_,_=>none
 | k+1,x3,x9,x10,x11,x250000,x250001,x250002=>if x11 < x10 then (if 0≤x11 then (if x11 < (x9.length:Int) then ((threshold_node.f (rd x9 x11)).bind fun t251=>(if t251=true then (if 0≤(rd x9 x11) then (threshold_Uses.l0 k (Go.bits .or .i64 x3 (shl .i64 1 (rd x9 x11))) x9 x10 (wrap64 (x11+1)) x250000 x250001 x250002) else (none)) else (threshold_Uses.l0 k x3 x9 x10 (wrap64 (x11+1)) x250000 x250001 x250002))) else (none)) else (none)) else (threshold_Uses.l1 k x3 x250002 (x250002.length:Int) 0)
def threshold_Uses.l1:Nat→Int→List (S32)→Int→Int→Option (Int)
 | 0,_,_,_,_=>none
 | k+1,x3,x23,x24,x25=>if x25 < x24 then (if 0≤x25 then (if x25 < (x23.length:Int) then ((threshold_Uses.f k ((rd_T32 x23 x25).f0) ((rd_T32 x23 x25).f1) ((rd_T32 x23 x25).f2)).bind fun t254=>(threshold_Uses.l1 k (Go.bits .or .i64 x3 t254) x23 x24 (wrap64 (x25+1)))) else (none)) else (none)) else (some x3)
def threshold_Uses.f:Nat→Int→List Int→List (S32)→Option (Int)
 | 0,_,_,_=>none
 | k+1,a0_0,l0_1,l0_2=>threshold_Uses.l0 k 0 l0_1 (l0_1.length:Int) 0 a0_0 l0_1 l0_2
end
set_option maxHeartbeats 8000000 in
set_option maxRecDepth 100000 in
theorem threshold_Uses.calls (k:Nat):∀ (a0_0:Int) (A0_1:Option Addr) (c0_1:Nat) (l0_1:List Int) (A0_2:Option Addr) (c0_2:Nat) (l0_2:List (S32)) (r:Int) (w:World) (hr0_1:Kd.C (Kd.int .i64) w A0_1 l0_1.length l0_1) (hc0_1:l0_1.length≤c0_1) (hr0_2:Kd.C k32 w A0_2 l0_2.length l0_2) (hc0_2:l0_2.length≤c0_2) (h:threshold_Uses.f k a0_0 l0_1 l0_2=some r),
  Calls Try.prog 65 #[.agg #[.int .i64 a0_0,.slice A0_1 l0_1.length c0_1,.slice A0_2 l0_2.length c0_2]] w fun e w'=>e=.returned (.int .i64 r)∧Below w.heap.size w w':=by
 induction k using Nat.strongRecOn with
 | _ k ih =>
 intro a0_0 A0_1 c0_1 l0_1 A0_2 c0_2 l0_2 r w hr0_1 hc0_1 hr0_2 hc0_2 h
 cases k with
 | zero=>exact absurd h (by simp [threshold_Uses.f])
 | succ k =>
 simp only [threshold_Uses.f] at h
 have hu32:=Try.underlying32
 have HR0_1:=Z hr0_1
 have HC0_1:=Z hc0_1
 clear hr0_1 hc0_1
 have HR0_2:=Z hr0_2
 have HC0_2:=Z hc0_2
 clear hr0_2 hc0_2
 have HB:=Z (Below.refl w.heap.size w)
 have H:(threshold_Uses.l0 k 0 l0_1 (l0_1.length:Int) 0 a0_0 l0_1 l0_2)=some r:=h
 clear h
 have H':=Z H
 clear H
 go_enter Try.func65,Try.ntmps65
 go_wp2_with (first|((with_reducible refine gate_dst (N:=1) rfl ?_);refine box_event ?hg (N:=1) ?hd (cs:=#[.int .i64 a0_0,.slice A0_1 l0_1.length c0_1,.slice A0_2 l0_2.length c0_2]) (t:=32) ?hr ?_;(case hd=>rfl);(case hg=>rfl);(case hr=>first|(go_simp;done)|(go_simp;rfl));intro gb249 hg w2 hbox hb;have n0_:=Z (below_step pB hb);have n1_:=Z (hbox);have n2_:=Z ((pT hg:w.heap.size≤gb249));have n3_:=Z ((pT hg:w.heap.size≤gb249));clear HB;have HB:=n0_;have BK249:=n1_;have GW249:=n2_;have GE249:=n3_;clear n0_ n1_ n2_ n3_;clear hb hbox hg;have hcz3_0:w2.cell? ⟨gb249,0,none⟩=some (.int .i64 a0_0):=(kC BK249.out 0).trans rfl;have hcz3_1:w2.cell? ⟨gb249,1,none⟩=some (.slice A0_1 l0_1.length c0_1):=(kC BK249.out 1).trans rfl;have hcz3_2:w2.cell? ⟨gb249,2,none⟩=some (.slice A0_2 l0_2.length c0_2):=(kC BK249.out 2).trans rfl;have hfz3_0:=kF BK249.out 0;have hfz3_1:=kF BK249.out 1;have hfz3_2:=kF BK249.out 2))
 go_loopg [3,11] k (fun kq v3 v11 w'=>∃ (x3_1:Int) (x11_1:Int),v3=.int .i64 x3_1∧v11=.int .i64 x11_1∧Aside0 (threshold_Uses.l0 kq x3_1 l0_1 (l0_1.length:Int) x11_1 a0_0 l0_1 l0_2=some r)∧Aside0 (kq≤k)∧Aside0 (w'.heap[gb249]?=some (.cells #[.int .i64 a0_0,(.slice A0_1 l0_1.length c0_1),(.slice A0_2 l0_2.length c0_2)] 32 (0,0)))∧Aside0 (Below w.heap.size w w'))
 case atStart=>exact ⟨(0),(0),pE,pE,H',⟨Nat.le_refl _⟩,⟨pK BK249⟩,⟨pB⟩⟩
 case round =>
  clear H'
  try clear p2
  try clear hcz3_0
  try clear hcz3_1
  try clear hcz3_2
  try clear hfz3_0
  try clear hfz3_1
  try clear hfz3_2
  obtain ⟨x3_1,x11_1,rfl,rfl,HA,HK1,BK249,HB⟩:=hrel
  cases gk with
  | zero=>exact absurd HA.out (by simp [threshold_Uses.l0])
  | succ k1 =>
   have H:=HA.out
   clear HA
   simp only [threshold_Uses.l0] at H
   by_cases c4:x11_1 < (l0_1.length:Int)
   ·rw [if_pos c4] at H
    have c4b0:decide (x11_1 < (l0_1.length:Int))=true:=decide_eq_true c4
    clear c4
    by_cases c5:0≤x11_1
    ·rw [if_pos c5] at H
     have c5b0:decide (0≤x11_1)=true:=decide_eq_true c5
     clear c5
     by_cases c6:x11_1 < (l0_1.length:Int)
     ·rw [if_pos c6] at H
      have c6b0:decide (x11_1 < (l0_1.length:Int))=true:=decide_eq_true c6
      clear c6
      replace H:=Option.bind_eq_some_iff.mp H
      obtain ⟨t251,A70,H⟩:=H
      try dsimp only at H
      have A7:=Z A70
      clear A70
      by_cases c8:t251=true
      ·subst c8
       rw [if_pos rfl] at H
       by_cases c9:0≤(rd l0_1 x11_1)
       ·rw [if_pos c9] at H
        have c9b0:=eq_true c9
        have c9b1:decide (0≤(rd l0_1 x11_1))=true:=decide_eq_true c9
        clear c9
        obtain ⟨ji10,hji10⟩:∃ j_:Int,(shl .i64 1 (rd l0_1 x11_1))=j_:=⟨_,rfl⟩
        replace H:(threshold_Uses.l0 k1 (Go.bits .or .i64 x3_1 (ji10)) l0_1 (l0_1.length:Int) (wrap64 (x11_1+1)) a0_0 l0_1 l0_2)=some r:=by first|(rw [hji10] at H;exact H)|(simp only [hji10] at H ⊢;exact H)
        (try rw [hji10] at A7)
        have hji10_:(IntKind.i64.wrap (1 * 2 ^ min (rd l0_1 x11_1).toNat 64))=ji10:=hji10
        have hji10z:(rd l0_1 x11_1)≤64→(IntKind.i64.wrap (1 * 2 ^ (rd l0_1 x11_1).toNat))=ji10:=shl_small hji10
        have hji10u:(IntKind.i64.wrap (2 ^ min (rd l0_1 x11_1).toNat 64))=ji10:=by have h_:=hji10_;rw [Int.one_mul] at h_;exact h_
        have hji10v:(rd l0_1 x11_1)≤64→(IntKind.i64.wrap (2 ^ (rd l0_1 x11_1).toNat))=ji10:=fun hle_=>by have h_:=hji10z hle_;rw [Int.one_mul] at h_;exact h_
        have hji10y:(wrap64 (1 * 2 ^ min (rd l0_1 x11_1).toNat 64))=ji10:=(i64_w _).symm.trans hji10_
        have hji10x:(rd l0_1 x11_1)≤64→(wrap64 (1 * 2 ^ (rd l0_1 x11_1).toNat))=ji10:=fun h_=>(i64_w _).symm.trans (hji10z h_)
        have H':=Z H
        clear H
        have p250:0≤(x11_1:Int):=of_decide_eq_true (by first|(with_reducible assumption)|assumption)
        have q250:x11_1 < (l0_1.length:Int):=of_decide_eq_true (by first|(with_reducible assumption)|assumption)
        obtain ⟨ad250,e250,hx250_0⟩:=Kd.at_int HR0_1.out x11_1 p250 q250
        cases e250
        replace hx250_0:=(HB.out.cell (World.block_lt_of_cell? w _ hx250_0)).trans hx250_0
        replace p250:=eq_true p250
        replace q250:=eq_true q250
        go_wp2_with (first|((with_reducible refine gate_callee (f:=95) rfl ?_);refine goesL_ (some 16) rfl rfl Try.func95 (by kernel_rfl) rfl #[.int .i64 (rd l0_1 x11_1)] rfl pG ?_;(with_reducible refine (threshold_node.calls (rd l0_1 x11_1) true _ A7.out).mono ?_);rintro e w' ⟨rfl,⟨nd,rfl⟩⟩;refine ⟨_,rfl,?_⟩))
        go_roundg k1
        case measure=>have:=HK1.out;omega
        case rel=>exact ⟨(Go.bits .or .i64 x3_1 (ji10)),(wrap64 (x11_1+1)),(by first|exact pE|(simp only [← hji10] <;> (first|rfl|simp))),pE,H',⟨by have:=HK1.out;omega⟩,⟨pK BK249⟩,⟨pB⟩⟩
       ·rw [if_neg c9] at H
        exact absurd H (by simp)
      ·replace c8:=Bool.eq_false_iff.mpr c8
       subst c8
       rw [if_neg (show ¬ (false=true) by decide)] at H
       have H':=Z H
       clear H
       have p250:0≤(x11_1:Int):=of_decide_eq_true (by first|(with_reducible assumption)|assumption)
       have q250:x11_1 < (l0_1.length:Int):=of_decide_eq_true (by first|(with_reducible assumption)|assumption)
       obtain ⟨ad250,e250,hx250_0⟩:=Kd.at_int HR0_1.out x11_1 p250 q250
       cases e250
       replace hx250_0:=(HB.out.cell (World.block_lt_of_cell? w _ hx250_0)).trans hx250_0
       replace p250:=eq_true p250
       replace q250:=eq_true q250
       go_wp2_with (first|((with_reducible refine gate_callee (f:=95) rfl ?_);refine goesL_ (some 16) rfl rfl Try.func95 (by kernel_rfl) rfl #[.int .i64 (rd l0_1 x11_1)] rfl pG ?_;(with_reducible refine (threshold_node.calls (rd l0_1 x11_1) false _ A7.out).mono ?_);rintro e w' ⟨rfl,⟨nd,rfl⟩⟩;refine ⟨_,rfl,?_⟩))
       go_roundg k1
       case measure=>have:=HK1.out;omega
       case rel=>exact ⟨(x3_1),(wrap64 (x11_1+1)),pE,pE,H',⟨by have:=HK1.out;omega⟩,⟨pK BK249⟩,⟨pB⟩⟩
     ·rw [if_neg c6] at H
      exact absurd H (by simp)
    ·rw [if_neg c5] at H
     exact absurd H (by simp)
   ·rw [if_neg c4] at H
    have c4b0:decide (x11_1 < (l0_1.length:Int))=false:=decide_eq_false c4
    clear c4
    have H':=Z H
    clear H
    have hcz11_0:wr.cell? ⟨gb249,0,none⟩=some (.int .i64 a0_0):=(kC BK249.out 0).trans rfl
    have hcz11_1:wr.cell? ⟨gb249,1,none⟩=some (.slice A0_1 l0_1.length c0_1):=(kC BK249.out 1).trans rfl
    have hcz11_2:wr.cell? ⟨gb249,2,none⟩=some (.slice A0_2 l0_2.length c0_2):=(kC BK249.out 2).trans rfl
    have hfz11_0:=kF BK249.out 0
    have hfz11_1:=kF BK249.out 1
    have hfz11_2:=kF BK249.out 2
    go_wp2
    go_loopg [3,25] k1 (fun kq v3 v25 w'=>∃ (x3_2:Int) (x25_2:Int),v3=.int .i64 x3_2∧v25=.int .i64 x25_2∧Aside0 (threshold_Uses.l1 kq x3_2 l0_2 (l0_2.length:Int) x25_2=some r)∧Aside0 (kq≤k1)∧Aside0 (w'.heap[gb249]?=some (.cells #[.int .i64 a0_0,(.slice A0_1 l0_1.length c0_1),(.slice A0_2 l0_2.length c0_2)] 32 (0,0)))∧Aside0 (Below w.heap.size w w'))
    case atStart=>exact ⟨(x3_1),(0),pE,pE,H',⟨Nat.le_refl _⟩,⟨pK BK249⟩,⟨pB⟩⟩
    case round =>
     clear H'
     try clear p2
     try clear q2
     try clear hx2
     try clear c4
     try clear c4b0
     try clear c5
     try clear c5b0
     try clear c6
     try clear c6b0
     try clear p6
     try clear c8
     try clear c9
     try clear c9b0
     try clear c9b1
     try clear hcz11_0
     try clear hcz11_1
     try clear hcz11_2
     try clear hcz3_0
     try clear hcz3_1
     try clear hcz3_2
     try clear hfz11_0
     try clear hfz11_1
     try clear hfz11_2
     try clear hfz3_0
     try clear hfz3_1
     try clear hfz3_2
     try clear hx250_0
     try clear p250
     try clear q250
     obtain ⟨x3_2,x25_2,rfl,rfl,HA,HK2,BK249,HB⟩:=hrel
     cases gk with
     | zero=>exact absurd HA.out (by simp [threshold_Uses.l1])
     | succ k2 =>
      have H:=HA.out
      clear HA
      simp only [threshold_Uses.l1] at H
      by_cases c12:x25_2 < (l0_2.length:Int)
      ·rw [if_pos c12] at H
       have c12b0:decide (x25_2 < (l0_2.length:Int))=true:=decide_eq_true c12
       clear c12
       by_cases c13:0≤x25_2
       ·rw [if_pos c13] at H
        have c13b0:decide (0≤x25_2)=true:=decide_eq_true c13
        clear c13
        by_cases c14:x25_2 < (l0_2.length:Int)
        ·rw [if_pos c14] at H
         have c14b0:decide (x25_2 < (l0_2.length:Int))=true:=decide_eq_true c14
         clear c14
         replace H:=Option.bind_eq_some_iff.mp H
         obtain ⟨t254,A150,H⟩:=H
         try dsimp only at H
         have A15:=Z A150
         clear A150
         have H':=Z H
         clear H
         have p252:0≤(x25_2:Int):=of_decide_eq_true (by first|(with_reducible assumption)|assumption)
         have q252:x25_2 < (l0_2.length:Int):=of_decide_eq_true (by first|(with_reducible assumption)|assumption)
         obtain ⟨ad252,A252_1,c252_1,A252_2,c252_2,e252,hx252_0,hx252_1,hx252_2,hl252_1,hi252_1,hl252_2,hi252_2⟩:=at_T32 HR0_2.out x25_2 p252 q252
         cases e252
         replace hx252_0:=(HB.out.cell (World.block_lt_of_cell? w _ hx252_0)).trans hx252_0
         replace hx252_1:=(HB.out.cell (World.block_lt_of_cell? w _ hx252_1)).trans hx252_1
         replace hx252_2:=(HB.out.cell (World.block_lt_of_cell? w _ hx252_2)).trans hx252_2
         have HR252_1:=Z hi252_1
         have HC252_1:=Z hl252_1
         clear hi252_1 hl252_1
         have HR252_2:=Z hi252_2
         have HC252_2:=Z hl252_2
         clear hi252_2 hl252_2
         replace p252:=eq_true p252
         replace q252:=eq_true q252
         go_wp2_with (first|((with_reducible refine gate_dst (N:=7) rfl ?_);refine box_event ?hg (N:=7) ?hd (cs:=#[.int .i64 0,.slice none 0 0,.slice none 0 0]) (t:=32) ?hr ?_;(case hd=>rfl);(case hg=>rfl);(case hr=>first|(go_simp;done)|(go_simp;rfl));intro gb253 hg w16 hbox hb;have n0_:=Z (blk_below (g:=gb249) (o:=.cells #[.int .i64 a0_0,.slice A0_1 l0_1.length c0_1,.slice (some ad252) l0_2.length c0_2] 32 (0,0)) (pK BK249) hb);have n1_:=Z (below_step pB hb);have n2_:=Z (hbox);have n3_:=Z ((pT hg:w.heap.size≤gb253));have n4_:=Z ((pT hg:w.heap.size≤gb253));have n5_:=Z ((pL hg (pK BK249):gb249 ≠ gb253));have n6_:=Z ((pM hg (pK BK249):gb253 ≠ gb249));clear BK249;clear HB;have BK249:=n0_;have HB:=n1_;have BK253:=n2_;have GW253:=n3_;have GE253:=n4_;have NB249_253:=n5_;have NB253_249:=n6_;clear n0_ n1_ n2_ n3_ n4_ n5_ n6_;clear hb hbox hg;have hnb17:=NB253_249.out;have hnc17:=NB249_253.out;have hcz18_0:w16.cell? ⟨gb253,0,none⟩=some (.int .i64 0):=(kC BK253.out 0).trans rfl;have hcz18_1:w16.cell? ⟨gb253,1,none⟩=some (.slice none 0 0):=(kC BK253.out 1).trans rfl;have hcz18_2:w16.cell? ⟨gb253,2,none⟩=some (.slice none 0 0):=(kC BK253.out 2).trans rfl;have hfz18_0:=kF BK253.out 0;have hfz18_1:=kF BK253.out 1;have hfz18_2:=kF BK253.out 2)|((with_reducible refine gate_callee (f:=65) rfl ?_);refine goesL_ (some 31) rfl rfl Try.func65 (by kernel_rfl) rfl #[.agg #[.int .i64 ((rd_T32 l0_2 x25_2).f0),.slice A252_1 ((rd_T32 l0_2 x25_2).f1).length c252_1,.slice A252_2 ((rd_T32 l0_2 x25_2).f2).length c252_2]] rfl pG ?_;(with_reducible refine (ih k2 (by have:=HK1.out;have:=HK2.out;omega) ((rd_T32 l0_2 x25_2).f0) _ _ ((rd_T32 l0_2 x25_2).f1) _ _ ((rd_T32 l0_2 x25_2).f2) t254 _ ?side1 ?side2 ?side3 ?side4 A15.out).mono ?_);(case side1=>exact Kd.C_below HR252_1.out pB);(case side2=>exact HC252_1.out);(case side3=>exact Kd.C_below HR252_2.out pB);(case side4=>exact HC252_2.out);rintro e w19 ⟨rfl,hb⟩;refine ⟨_,rfl,?_⟩;have n0_:=Z (blk_below (g:=gb249) (o:=.cells #[.int .i64 a0_0,.slice A0_1 l0_1.length c0_1,.slice (some ad252) l0_2.length c0_2] 32 (0,0)) (by (with_reducible repeat (first|refine kN ?_ _|refine kD ?_|refine kA ?_ _));refine blk_far ?_ NB249_253.out _;(with_reducible repeat (first|refine kN ?_ _|refine kD ?_|refine kA ?_ _));refine blk_far ?_ NB249_253.out _;(with_reducible repeat (first|refine kN ?_ _|refine kD ?_|refine kA ?_ _));refine blk_far ?_ NB249_253.out _;(with_reducible repeat (first|refine kN ?_ _|refine kD ?_|refine kA ?_ _));exact BK249.out) hb);have n1_:=Z (blk_below (g:=gb253) (o:=.cells #[.int .i64 ((rd_T32 l0_2 x25_2).f0),.slice A252_1 ((rd_T32 l0_2 x25_2).f1).length c252_1,.slice A252_2 ((rd_T32 l0_2 x25_2).f2).length c252_2] 32 (0,0)) (by (with_reducible repeat (first|refine kN ?_ _|refine kD ?_|refine kA ?_ _));refine blk_put (cs:=#[.int .i64 ((rd_T32 l0_2 x25_2).f0),.slice A252_1 ((rd_T32 l0_2 x25_2).f1).length c252_1,.slice none 0 0]) ?_ 2 _ rfl;(with_reducible repeat (first|refine kN ?_ _|refine kD ?_|refine kA ?_ _));refine blk_put (cs:=#[.int .i64 ((rd_T32 l0_2 x25_2).f0),.slice none 0 0,.slice none 0 0]) ?_ 1 _ rfl;(with_reducible repeat (first|refine kN ?_ _|refine kD ?_|refine kA ?_ _));refine blk_put (cs:=#[.int .i64 0,.slice none 0 0,.slice none 0 0]) ?_ 0 _ rfl;(with_reducible repeat (first|refine kN ?_ _|refine kD ?_|refine kA ?_ _));exact BK253.out) hb);have n2_:=Z (below_step pB hb);clear BK249;clear BK253;clear HB;have BK249:=n0_;have BK253:=n1_;have HB:=n2_;clear n0_ n1_ n2_;(try clear hb);(try clear hb2);(try clear hk);(try clear hi)))
         go_roundg k2
         case measure=>have:=HK1.out;have:=HK2.out;omega
         case rel=>exact ⟨(Go.bits .or .i64 x3_2 t254),(wrap64 (x25_2+1)),pE,pE,H',⟨by have:=HK1.out;have:=HK2.out;omega⟩,⟨pK BK249⟩,⟨pB⟩⟩
        ·rw [if_neg c14] at H
         exact absurd H (by simp)
       ·rw [if_neg c13] at H
        exact absurd H (by simp)
      ·rw [if_neg c12] at H
       have c12b0:decide (x25_2 < (l0_2.length:Int))=false:=decide_eq_false c12
       clear c12
       obtain rfl:=Option.some.inj H
       go_wp2
       go_ret
       exact ⟨pF,pB⟩
def configuration_blank.f (a0_0:Int) (l0_1:List Int) (l0_2:List (S32)):Option (Bool):=if a0_0=0 then (if (l0_1.length:Int)=0 then (some ((l0_2.length:Int) == 0)) else (some false)) else (some false)
set_option maxHeartbeats 8000000 in
set_option maxRecDepth 100000 in
theorem configuration_blank.calls (a0_0:Int) (A0_1:Option Addr) (c0_1:Nat) (l0_1:List Int) (A0_2:Option Addr) (c0_2:Nat) (l0_2:List (S32)) (r:Bool) (w:World) (hr0_1:Kd.C (Kd.int .i64) w A0_1 l0_1.length l0_1) (hc0_1:l0_1.length≤c0_1) (hr0_2:Kd.C k32 w A0_2 l0_2.length l0_2) (hc0_2:l0_2.length≤c0_2) (h:configuration_blank.f a0_0 l0_1 l0_2=some r) :
  Calls Try.prog 110 #[.agg #[.int .i64 a0_0,.slice A0_1 l0_1.length c0_1,.slice A0_2 l0_2.length c0_2]] w fun e w'=>e=.returned (.bool r)∧Below w.heap.size w w':=by
 have hu32:=Try.underlying32
 have HR0_1:=Z hr0_1
 have HC0_1:=Z hc0_1
 clear hr0_1 hc0_1
 have HR0_2:=Z hr0_2
 have HC0_2:=Z hc0_2
 clear hr0_2 hc0_2
 have HB:=Z (Below.refl w.heap.size w)
 have H:(if a0_0=0 then (if (l0_1.length:Int)=0 then (some ((l0_2.length:Int) == 0)) else (some false)) else (some false))=some r:=h
 clear h
 by_cases c2:a0_0=0
 ·rw [if_pos c2] at H
  have c2b0:(a0_0 == 0)=true:=beq_iff_eq.mpr c2
  have c2b1:(a0_0 != 0)=false:=bne_eq_false_iff_eq.mpr c2
  clear c2
  by_cases c3:(l0_1.length:Int)=0
  ·rw [if_pos c3] at H
   have c3b0:((l0_1.length:Int) == 0)=true:=beq_iff_eq.mpr c3
   have c3b1:((l0_1.length:Int) != 0)=false:=bne_eq_false_iff_eq.mpr c3
   clear c3
   obtain rfl:=Option.some.inj H
   go_enter Try.func110,Try.ntmps110
   go_wp2_with (first|((with_reducible refine gate_dst (N:=1) rfl ?_);(try (refine gate_guard (by rfl) ?_;dsimp only));refine box_event ?hg (N:=1) ?hd (cs:=#[.int .i64 a0_0,.slice A0_1 l0_1.length c0_1,.slice A0_2 l0_2.length c0_2]) (t:=32) ?hr ?_;(case hd=>rfl);(case hg=>rfl);(case hr=>first|(go_simp;done)|(go_simp;rfl));intro gb255 hg w4 hbox hb;have n0_:=Z (below_step pB hb);have n1_:=Z (hbox);have n2_:=Z ((pT hg:w.heap.size≤gb255));have n3_:=Z ((pT hg:w.heap.size≤gb255));clear HB;have HB:=n0_;have BK255:=n1_;have GW255:=n2_;have GE255:=n3_;clear n0_ n1_ n2_ n3_;clear hb hbox hg;have hcz5_0:w4.cell? ⟨gb255,0,none⟩=some (.int .i64 a0_0):=(kC BK255.out 0).trans rfl;have hcz5_1:w4.cell? ⟨gb255,1,none⟩=some (.slice A0_1 l0_1.length c0_1):=(kC BK255.out 1).trans rfl;have hcz5_2:w4.cell? ⟨gb255,2,none⟩=some (.slice A0_2 l0_2.length c0_2):=(kC BK255.out 2).trans rfl;have hfz5_0:=kF BK255.out 0;have hfz5_1:=kF BK255.out 1;have hfz5_2:=kF BK255.out 2))
   go_ret
   exact ⟨pF,pB⟩
  ·rw [if_neg c3] at H
   have c3b0:((l0_1.length:Int) == 0)=false:=beq_eq_false_iff_ne.mpr c3
   have c3b1:((l0_1.length:Int) != 0)=true:=bne_iff_ne.mpr c3
   have c3b2:¬ (l0_1=[]):=fun h_=>c3 (by rw [h_];rfl)
   obtain rfl:=Option.some.inj H
   go_enter Try.func110,Try.ntmps110
   go_wp2_with (first|((with_reducible refine gate_dst (N:=1) rfl ?_);(try (refine gate_guard (by rfl) ?_;dsimp only));refine box_event ?hg (N:=1) ?hd (cs:=#[.int .i64 a0_0,.slice A0_1 l0_1.length c0_1,.slice A0_2 l0_2.length c0_2]) (t:=32) ?hr ?_;(case hd=>rfl);(case hg=>rfl);(case hr=>first|(go_simp;done)|(go_simp;rfl));intro gb255 hg w6 hbox hb;have n0_:=Z (below_step pB hb);have n1_:=Z (hbox);have n2_:=Z ((pT hg:w.heap.size≤gb255));have n3_:=Z ((pT hg:w.heap.size≤gb255));clear HB;have HB:=n0_;have BK255:=n1_;have GW255:=n2_;have GE255:=n3_;clear n0_ n1_ n2_ n3_;clear hb hbox hg;have hcz7_0:w6.cell? ⟨gb255,0,none⟩=some (.int .i64 a0_0):=(kC BK255.out 0).trans rfl;have hcz7_1:w6.cell? ⟨gb255,1,none⟩=some (.slice A0_1 l0_1.length c0_1):=(kC BK255.out 1).trans rfl;have hcz7_2:w6.cell? ⟨gb255,2,none⟩=some (.slice A0_2 l0_2.length c0_2):=(kC BK255.out 2).trans rfl;have hfz7_0:=kF BK255.out 0;have hfz7_1:=kF BK255.out 1;have hfz7_2:=kF BK255.out 2))
   go_ret
   exact ⟨pF,pB⟩
 ·rw [if_neg c2] at H
  have c2b0:(a0_0 == 0)=false:=beq_eq_false_iff_ne.mpr c2
  have c2b1:(a0_0 != 0)=true:=bne_iff_ne.mpr c2
  obtain rfl:=Option.some.inj H
  go_enter Try.func110,Try.ntmps110
  go_wp2_with (first|((with_reducible refine gate_dst (N:=1) rfl ?_);(try (refine gate_guard (by rfl) ?_;dsimp only));refine box_event ?hg (N:=1) ?hd (cs:=#[.int .i64 a0_0,.slice A0_1 l0_1.length c0_1,.slice A0_2 l0_2.length c0_2]) (t:=32) ?hr ?_;(case hd=>rfl);(case hg=>rfl);(case hr=>first|(go_simp;done)|(go_simp;rfl));intro gb255 hg w8 hbox hb;have n0_:=Z (below_step pB hb);have n1_:=Z (hbox);have n2_:=Z ((pT hg:w.heap.size≤gb255));have n3_:=Z ((pT hg:w.heap.size≤gb255));clear HB;have HB:=n0_;have BK255:=n1_;have GW255:=n2_;have GE255:=n3_;clear n0_ n1_ n2_ n3_;clear hb hbox hg;have hcz9_0:w8.cell? ⟨gb255,0,none⟩=some (.int .i64 a0_0):=(kC BK255.out 0).trans rfl;have hcz9_1:w8.cell? ⟨gb255,1,none⟩=some (.slice A0_1 l0_1.length c0_1):=(kC BK255.out 1).trans rfl;have hcz9_2:w8.cell? ⟨gb255,2,none⟩=some (.slice A0_2 l0_2.length c0_2):=(kC BK255.out 2).trans rfl;have hfz9_0:=kF BK255.out 0;have hfz9_1:=kF BK255.out 1;have hfz9_2:=kF BK255.out 2))
  go_ret
  exact ⟨pF,pB⟩
mutual
def threshold_Depth.l0:Nat→Int→List (S32)→Int→Int→Option (Int)
 | 0,_,_,_,_=>none
 | k+1,x3,x7,x8,x9=>if x9 < x8 then (if 0≤x9 then (if x9 < (x7.length:Int) then ((threshold_Depth.f k ((rd_T32 x7 x9).f0) ((rd_T32 x7 x9).f1) ((rd_T32 x7 x9).f2)).bind fun t259=>(threshold_Depth.l0 k (mx x3 t259) x7 x8 (wrap64 (x9+1)))) else (none)) else (none)) else (some (wrap64 (x3+1)))
def threshold_Depth.f:Nat→Int→List Int→List (S32)→Option (Int)
 | 0,_,_,_=>none
 | k+1,a0_0,l0_1,l0_2=>threshold_Depth.l0 k 0 l0_2 (l0_2.length:Int) 0
end
set_option maxHeartbeats 8000000 in
set_option maxRecDepth 100000 in
theorem threshold_Depth.calls (k:Nat):∀ (a0_0:Int) (A0_1:Option Addr) (c0_1:Nat) (l0_1:List Int) (A0_2:Option Addr) (c0_2:Nat) (l0_2:List (S32)) (r:Int) (w:World) (hr0_1:Kd.C (Kd.int .i64) w A0_1 l0_1.length l0_1) (hc0_1:l0_1.length≤c0_1) (hr0_2:Kd.C k32 w A0_2 l0_2.length l0_2) (hc0_2:l0_2.length≤c0_2) (h:threshold_Depth.f k a0_0 l0_1 l0_2=some r),
  Calls Try.prog 126 #[.agg #[.int .i64 a0_0,.slice A0_1 l0_1.length c0_1,.slice A0_2 l0_2.length c0_2]] w fun e w'=>e=.returned (.int .i64 r)∧Below w.heap.size w w':=by
 induction k using Nat.strongRecOn with
 | _ k ih =>
 intro a0_0 A0_1 c0_1 l0_1 A0_2 c0_2 l0_2 r w hr0_1 hc0_1 hr0_2 hc0_2 h
 cases k with
 | zero=>exact absurd h (by simp [threshold_Depth.f])
 | succ k =>
 simp only [threshold_Depth.f] at h
 have hu32:=Try.underlying32
 have HR0_1:=Z hr0_1
 have HC0_1:=Z hc0_1
 clear hr0_1 hc0_1
 have HR0_2:=Z hr0_2
 have HC0_2:=Z hc0_2
 clear hr0_2 hc0_2
 have HB:=Z (Below.refl w.heap.size w)
 have H:(threshold_Depth.l0 k 0 l0_2 (l0_2.length:Int) 0)=some r:=h
 clear h
 have H':=Z H
 clear H
 go_enter Try.func126,Try.ntmps126
 go_wp2_with (first|((with_reducible refine gate_dst (N:=1) rfl ?_);refine box_event ?hg (N:=1) ?hd (cs:=#[.int .i64 a0_0,.slice A0_1 l0_1.length c0_1,.slice A0_2 l0_2.length c0_2]) (t:=32) ?hr ?_;(case hd=>rfl);(case hg=>rfl);(case hr=>first|(go_simp;done)|(go_simp;rfl));intro gb256 hg w2 hbox hb;have n0_:=Z (below_step pB hb);have n1_:=Z (hbox);have n2_:=Z ((pT hg:w.heap.size≤gb256));have n3_:=Z ((pT hg:w.heap.size≤gb256));clear HB;have HB:=n0_;have BK256:=n1_;have GW256:=n2_;have GE256:=n3_;clear n0_ n1_ n2_ n3_;clear hb hbox hg;have hcz3_0:w2.cell? ⟨gb256,0,none⟩=some (.int .i64 a0_0):=(kC BK256.out 0).trans rfl;have hcz3_1:w2.cell? ⟨gb256,1,none⟩=some (.slice A0_1 l0_1.length c0_1):=(kC BK256.out 1).trans rfl;have hcz3_2:w2.cell? ⟨gb256,2,none⟩=some (.slice A0_2 l0_2.length c0_2):=(kC BK256.out 2).trans rfl;have hfz3_0:=kF BK256.out 0;have hfz3_1:=kF BK256.out 1;have hfz3_2:=kF BK256.out 2))
 go_loopg [3,9] k (fun kq v3 v9 w'=>∃ (x3_1:Int) (x9_1:Int),v3=.int .i64 x3_1∧v9=.int .i64 x9_1∧Aside0 (threshold_Depth.l0 kq x3_1 l0_2 (l0_2.length:Int) x9_1=some r)∧Aside0 (kq≤k)∧Aside0 (w'.heap[gb256]?=some (.cells #[.int .i64 a0_0,(.slice A0_1 l0_1.length c0_1),(.slice A0_2 l0_2.length c0_2)] 32 (0,0)))∧Aside0 (Below w.heap.size w w'))
 case atStart=>exact ⟨(0),(0),pE,pE,H',⟨Nat.le_refl _⟩,⟨pK BK256⟩,⟨pB⟩⟩
 case round =>
  clear H'
  try clear c1
  try clear p2
  try clear hcz3_0
  try clear hcz3_1
  try clear hcz3_2
  try clear hfz3_0
  try clear hfz3_1
  try clear hfz3_2
  obtain ⟨x3_1,x9_1,rfl,rfl,HA,HK1,BK256,HB⟩:=hrel
  cases gk with
  | zero=>exact absurd HA.out (by simp [threshold_Depth.l0])
  | succ k1 =>
   have H:=HA.out
   clear HA
   simp only [threshold_Depth.l0] at H
   by_cases c4:x9_1 < (l0_2.length:Int)
   ·rw [if_pos c4] at H
    have c4b0:decide (x9_1 < (l0_2.length:Int))=true:=decide_eq_true c4
    clear c4
    by_cases c5:0≤x9_1
    ·rw [if_pos c5] at H
     have c5b0:decide (0≤x9_1)=true:=decide_eq_true c5
     clear c5
     by_cases c6:x9_1 < (l0_2.length:Int)
     ·rw [if_pos c6] at H
      have c6b0:decide (x9_1 < (l0_2.length:Int))=true:=decide_eq_true c6
      clear c6
      replace H:=Option.bind_eq_some_iff.mp H
      obtain ⟨t259,A70,H⟩:=H
      try dsimp only at H
      have A7:=Z A70
      clear A70
      obtain ⟨ji8,hji8⟩:∃ j_:Int,(mx x3_1 t259)=j_:=⟨_,rfl⟩
      replace H:(threshold_Depth.l0 k1 ji8 l0_2 (l0_2.length:Int) (wrap64 (x9_1+1)))=some r:=by first|(rw [hji8] at H;exact H)|(simp only [hji8] at H ⊢;exact H)
      (try rw [hji8] at A7)
      have hji8_:(if x3_1 < t259 then t259 else x3_1)=ji8:=hji8
      have H':=Z H
      clear H
      have p257:0≤(x9_1:Int):=of_decide_eq_true (by first|(with_reducible assumption)|assumption)
      have q257:x9_1 < (l0_2.length:Int):=of_decide_eq_true (by first|(with_reducible assumption)|assumption)
      obtain ⟨ad257,A257_1,c257_1,A257_2,c257_2,e257,hx257_0,hx257_1,hx257_2,hl257_1,hi257_1,hl257_2,hi257_2⟩:=at_T32 HR0_2.out x9_1 p257 q257
      cases e257
      replace hx257_0:=(HB.out.cell (World.block_lt_of_cell? w _ hx257_0)).trans hx257_0
      replace hx257_1:=(HB.out.cell (World.block_lt_of_cell? w _ hx257_1)).trans hx257_1
      replace hx257_2:=(HB.out.cell (World.block_lt_of_cell? w _ hx257_2)).trans hx257_2
      have HR257_1:=Z hi257_1
      have HC257_1:=Z hl257_1
      clear hi257_1 hl257_1
      have HR257_2:=Z hi257_2
      have HC257_2:=Z hl257_2
      clear hi257_2 hl257_2
      replace p257:=eq_true p257
      replace q257:=eq_true q257
      go_wp2_with (first|((with_reducible refine gate_dst (N:=5) rfl ?_);refine box_event ?hg (N:=5) ?hd (cs:=#[.int .i64 0,.slice none 0 0,.slice none 0 0]) (t:=32) ?hr ?_;(case hd=>rfl);(case hg=>rfl);(case hr=>first|(go_simp;done)|(go_simp;rfl));intro gb258 hg w9 hbox hb;have n0_:=Z (blk_below (g:=gb256) (o:=.cells #[.int .i64 a0_0,.slice A0_1 l0_1.length c0_1,.slice (some ad257) l0_2.length c0_2] 32 (0,0)) (pK BK256) hb);have n1_:=Z (below_step pB hb);have n2_:=Z (hbox);have n3_:=Z ((pT hg:w.heap.size≤gb258));have n4_:=Z ((pT hg:w.heap.size≤gb258));have n5_:=Z ((pL hg (pK BK256):gb256 ≠ gb258));have n6_:=Z ((pM hg (pK BK256):gb258 ≠ gb256));clear BK256;clear HB;have BK256:=n0_;have HB:=n1_;have BK258:=n2_;have GW258:=n3_;have GE258:=n4_;have NB256_258:=n5_;have NB258_256:=n6_;clear n0_ n1_ n2_ n3_ n4_ n5_ n6_;clear hb hbox hg;have hnb10:=NB258_256.out;have hnc10:=NB256_258.out;have hcz11_0:w9.cell? ⟨gb258,0,none⟩=some (.int .i64 0):=(kC BK258.out 0).trans rfl;have hcz11_1:w9.cell? ⟨gb258,1,none⟩=some (.slice none 0 0):=(kC BK258.out 1).trans rfl;have hcz11_2:w9.cell? ⟨gb258,2,none⟩=some (.slice none 0 0):=(kC BK258.out 2).trans rfl;have hfz11_0:=kF BK258.out 0;have hfz11_1:=kF BK258.out 1;have hfz11_2:=kF BK258.out 2)|((with_reducible refine gate_callee (f:=126) rfl ?_);refine goesL_ (some 15) rfl rfl Try.func126 (by kernel_rfl) rfl #[.agg #[.int .i64 ((rd_T32 l0_2 x9_1).f0),.slice A257_1 ((rd_T32 l0_2 x9_1).f1).length c257_1,.slice A257_2 ((rd_T32 l0_2 x9_1).f2).length c257_2]] rfl pG ?_;(with_reducible refine (ih k1 (by have:=HK1.out;omega) ((rd_T32 l0_2 x9_1).f0) _ _ ((rd_T32 l0_2 x9_1).f1) _ _ ((rd_T32 l0_2 x9_1).f2) t259 _ ?side1 ?side2 ?side3 ?side4 A7.out).mono ?_);(case side1=>exact Kd.C_below HR257_1.out pB);(case side2=>exact HC257_1.out);(case side3=>exact Kd.C_below HR257_2.out pB);(case side4=>exact HC257_2.out);rintro e w12 ⟨rfl,hb⟩;refine ⟨_,rfl,?_⟩;have n0_:=Z (blk_below (g:=gb256) (o:=.cells #[.int .i64 a0_0,.slice A0_1 l0_1.length c0_1,.slice (some ad257) l0_2.length c0_2] 32 (0,0)) (by (with_reducible repeat (first|refine kN ?_ _|refine kD ?_|refine kA ?_ _));refine blk_far ?_ NB256_258.out _;(with_reducible repeat (first|refine kN ?_ _|refine kD ?_|refine kA ?_ _));refine blk_far ?_ NB256_258.out _;(with_reducible repeat (first|refine kN ?_ _|refine kD ?_|refine kA ?_ _));refine blk_far ?_ NB256_258.out _;(with_reducible repeat (first|refine kN ?_ _|refine kD ?_|refine kA ?_ _));exact BK256.out) hb);have n1_:=Z (blk_below (g:=gb258) (o:=.cells #[.int .i64 ((rd_T32 l0_2 x9_1).f0),.slice A257_1 ((rd_T32 l0_2 x9_1).f1).length c257_1,.slice A257_2 ((rd_T32 l0_2 x9_1).f2).length c257_2] 32 (0,0)) (by (with_reducible repeat (first|refine kN ?_ _|refine kD ?_|refine kA ?_ _));refine blk_put (cs:=#[.int .i64 ((rd_T32 l0_2 x9_1).f0),.slice A257_1 ((rd_T32 l0_2 x9_1).f1).length c257_1,.slice none 0 0]) ?_ 2 _ rfl;(with_reducible repeat (first|refine kN ?_ _|refine kD ?_|refine kA ?_ _));refine blk_put (cs:=#[.int .i64 ((rd_T32 l0_2 x9_1).f0),.slice none 0 0,.slice none 0 0]) ?_ 1 _ rfl;(with_reducible repeat (first|refine kN ?_ _|refine kD ?_|refine kA ?_ _));refine blk_put (cs:=#[.int .i64 0,.slice none 0 0,.slice none 0 0]) ?_ 0 _ rfl;(with_reducible repeat (first|refine kN ?_ _|refine kD ?_|refine kA ?_ _));exact BK258.out) hb);have n2_:=Z (below_step pB hb);clear BK256;clear BK258;clear HB;have BK256:=n0_;have BK258:=n1_;have HB:=n2_;clear n0_ n1_ n2_;(try clear hb);(try clear hb2);(try clear hk);(try clear hi)))
      go_roundg k1
      case measure=>have:=HK1.out;omega
      case rel=>exact ⟨(ji8),(wrap64 (x9_1+1)),(by first|exact pE|(simp only [← hji8] <;> (first|rfl|simp))),pE,H',⟨by have:=HK1.out;omega⟩,⟨pK BK256⟩,⟨pB⟩⟩
     ·rw [if_neg c6] at H
      exact absurd H (by simp)
    ·rw [if_neg c5] at H
     exact absurd H (by simp)
   ·rw [if_neg c4] at H
    have c4b0:decide (x9_1 < (l0_2.length:Int))=false:=decide_eq_false c4
    clear c4
    obtain rfl:=Option.some.inj H
    go_wp2
    go_ret
    exact ⟨pF,pB⟩
mutual
def threshold_Size.l0:Nat→Int→List (S32)→Int→Int→Option (Int)
 | 0,_,_,_,_=>none
 | k+1,x3,x14,x15,x16=>if x16 < x15 then (if 0≤x16 then (if x16 < (x14.length:Int) then ((threshold_Size.f k ((rd_T32 x14 x16).f0) ((rd_T32 x14 x16).f1) ((rd_T32 x14 x16).f2)).bind fun t263=>(threshold_Size.l0 k (wrap64 (x3+t263)) x14 x15 (wrap64 (x16+1)))) else (none)) else (none)) else (some x3)
def threshold_Size.f:Nat→Int→List Int→List (S32)→Option (Int)
 | 0,_,_,_=>none
 | k+1,a0_0,l0_1,l0_2=>threshold_Size.l0 k (wrap64 ((l0_1.length:Int)+(l0_2.length:Int))) l0_2 (l0_2.length:Int) 0
end
set_option maxHeartbeats 8000000 in
set_option maxRecDepth 100000 in
theorem threshold_Size.calls (k:Nat):∀ (a0_0:Int) (A0_1:Option Addr) (c0_1:Nat) (l0_1:List Int) (A0_2:Option Addr) (c0_2:Nat) (l0_2:List (S32)) (r:Int) (w:World) (hr0_1:Kd.C (Kd.int .i64) w A0_1 l0_1.length l0_1) (hc0_1:l0_1.length≤c0_1) (hr0_2:Kd.C k32 w A0_2 l0_2.length l0_2) (hc0_2:l0_2.length≤c0_2) (h:threshold_Size.f k a0_0 l0_1 l0_2=some r),
  Calls Try.prog 127 #[.agg #[.int .i64 a0_0,.slice A0_1 l0_1.length c0_1,.slice A0_2 l0_2.length c0_2]] w fun e w'=>e=.returned (.int .i64 r)∧Below w.heap.size w w':=by
 induction k using Nat.strongRecOn with
 | _ k ih =>
 intro a0_0 A0_1 c0_1 l0_1 A0_2 c0_2 l0_2 r w hr0_1 hc0_1 hr0_2 hc0_2 h
 cases k with
 | zero=>exact absurd h (by simp [threshold_Size.f])
 | succ k =>
 simp only [threshold_Size.f] at h
 have hu32:=Try.underlying32
 have HR0_1:=Z hr0_1
 have HC0_1:=Z hc0_1
 clear hr0_1 hc0_1
 have HR0_2:=Z hr0_2
 have HC0_2:=Z hc0_2
 clear hr0_2 hc0_2
 have HB:=Z (Below.refl w.heap.size w)
 have H:(threshold_Size.l0 k (wrap64 ((l0_1.length:Int)+(l0_2.length:Int))) l0_2 (l0_2.length:Int) 0)=some r:=h
 clear h
 have H':=Z H
 clear H
 go_enter Try.func127,Try.ntmps127
 go_wp2_with (first|((with_reducible refine gate_dst (N:=1) rfl ?_);refine box_event ?hg (N:=1) ?hd (cs:=#[.int .i64 a0_0,.slice A0_1 l0_1.length c0_1,.slice A0_2 l0_2.length c0_2]) (t:=32) ?hr ?_;(case hd=>rfl);(case hg=>rfl);(case hr=>first|(go_simp;done)|(go_simp;rfl));intro gb260 hg w2 hbox hb;have n0_:=Z (below_step pB hb);have n1_:=Z (hbox);have n2_:=Z ((pT hg:w.heap.size≤gb260));have n3_:=Z ((pT hg:w.heap.size≤gb260));clear HB;have HB:=n0_;have BK260:=n1_;have GW260:=n2_;have GE260:=n3_;clear n0_ n1_ n2_ n3_;clear hb hbox hg;have hcz3_0:w2.cell? ⟨gb260,0,none⟩=some (.int .i64 a0_0):=(kC BK260.out 0).trans rfl;have hcz3_1:w2.cell? ⟨gb260,1,none⟩=some (.slice A0_1 l0_1.length c0_1):=(kC BK260.out 1).trans rfl;have hcz3_2:w2.cell? ⟨gb260,2,none⟩=some (.slice A0_2 l0_2.length c0_2):=(kC BK260.out 2).trans rfl;have hfz3_0:=kF BK260.out 0;have hfz3_1:=kF BK260.out 1;have hfz3_2:=kF BK260.out 2))
 go_loopg [3,16] k (fun kq v3 v16 w'=>∃ (x3_1:Int) (x16_1:Int),v3=.int .i64 x3_1∧v16=.int .i64 x16_1∧Aside0 (threshold_Size.l0 kq x3_1 l0_2 (l0_2.length:Int) x16_1=some r)∧Aside0 (kq≤k)∧Aside0 (w'.heap[gb260]?=some (.cells #[.int .i64 a0_0,(.slice A0_1 l0_1.length c0_1),(.slice A0_2 l0_2.length c0_2)] 32 (0,0)))∧Aside0 (Below w.heap.size w w'))
 case atStart=>exact ⟨(wrap64 ((l0_1.length:Int)+(l0_2.length:Int))),(0),pE,pE,H',⟨Nat.le_refl _⟩,⟨pK BK260⟩,⟨pB⟩⟩
 case round =>
  clear H'
  try clear c1
  try clear p2
  try clear hcz3_0
  try clear hcz3_1
  try clear hcz3_2
  try clear hfz3_0
  try clear hfz3_1
  try clear hfz3_2
  obtain ⟨x3_1,x16_1,rfl,rfl,HA,HK1,BK260,HB⟩:=hrel
  cases gk with
  | zero=>exact absurd HA.out (by simp [threshold_Size.l0])
  | succ k1 =>
   have H:=HA.out
   clear HA
   simp only [threshold_Size.l0] at H
   by_cases c4:x16_1 < (l0_2.length:Int)
   ·rw [if_pos c4] at H
    have c4b0:decide (x16_1 < (l0_2.length:Int))=true:=decide_eq_true c4
    clear c4
    by_cases c5:0≤x16_1
    ·rw [if_pos c5] at H
     have c5b0:decide (0≤x16_1)=true:=decide_eq_true c5
     clear c5
     by_cases c6:x16_1 < (l0_2.length:Int)
     ·rw [if_pos c6] at H
      have c6b0:decide (x16_1 < (l0_2.length:Int))=true:=decide_eq_true c6
      clear c6
      replace H:=Option.bind_eq_some_iff.mp H
      obtain ⟨t263,A70,H⟩:=H
      try dsimp only at H
      have A7:=Z A70
      clear A70
      have H':=Z H
      clear H
      have p261:0≤(x16_1:Int):=of_decide_eq_true (by first|(with_reducible assumption)|assumption)
      have q261:x16_1 < (l0_2.length:Int):=of_decide_eq_true (by first|(with_reducible assumption)|assumption)
      obtain ⟨ad261,A261_1,c261_1,A261_2,c261_2,e261,hx261_0,hx261_1,hx261_2,hl261_1,hi261_1,hl261_2,hi261_2⟩:=at_T32 HR0_2.out x16_1 p261 q261
      cases e261
      replace hx261_0:=(HB.out.cell (World.block_lt_of_cell? w _ hx261_0)).trans hx261_0
      replace hx261_1:=(HB.out.cell (World.block_lt_of_cell? w _ hx261_1)).trans hx261_1
      replace hx261_2:=(HB.out.cell (World.block_lt_of_cell? w _ hx261_2)).trans hx261_2
      have HR261_1:=Z hi261_1
      have HC261_1:=Z hl261_1
      clear hi261_1 hl261_1
      have HR261_2:=Z hi261_2
      have HC261_2:=Z hl261_2
      clear hi261_2 hl261_2
      replace p261:=eq_true p261
      replace q261:=eq_true q261
      go_wp2_with (first|((with_reducible refine gate_dst (N:=5) rfl ?_);refine box_event ?hg (N:=5) ?hd (cs:=#[.int .i64 0,.slice none 0 0,.slice none 0 0]) (t:=32) ?hr ?_;(case hd=>rfl);(case hg=>rfl);(case hr=>first|(go_simp;done)|(go_simp;rfl));intro gb262 hg w8 hbox hb;have n0_:=Z (blk_below (g:=gb260) (o:=.cells #[.int .i64 a0_0,.slice A0_1 l0_1.length c0_1,.slice (some ad261) l0_2.length c0_2] 32 (0,0)) (pK BK260) hb);have n1_:=Z (below_step pB hb);have n2_:=Z (hbox);have n3_:=Z ((pT hg:w.heap.size≤gb262));have n4_:=Z ((pT hg:w.heap.size≤gb262));have n5_:=Z ((pL hg (pK BK260):gb260 ≠ gb262));have n6_:=Z ((pM hg (pK BK260):gb262 ≠ gb260));clear BK260;clear HB;have BK260:=n0_;have HB:=n1_;have BK262:=n2_;have GW262:=n3_;have GE262:=n4_;have NB260_262:=n5_;have NB262_260:=n6_;clear n0_ n1_ n2_ n3_ n4_ n5_ n6_;clear hb hbox hg;have hnb9:=NB262_260.out;have hnc9:=NB260_262.out;have hcz10_0:w8.cell? ⟨gb262,0,none⟩=some (.int .i64 0):=(kC BK262.out 0).trans rfl;have hcz10_1:w8.cell? ⟨gb262,1,none⟩=some (.slice none 0 0):=(kC BK262.out 1).trans rfl;have hcz10_2:w8.cell? ⟨gb262,2,none⟩=some (.slice none 0 0):=(kC BK262.out 2).trans rfl;have hfz10_0:=kF BK262.out 0;have hfz10_1:=kF BK262.out 1;have hfz10_2:=kF BK262.out 2)|((with_reducible refine gate_callee (f:=127) rfl ?_);refine goesL_ (some 22) rfl rfl Try.func127 (by kernel_rfl) rfl #[.agg #[.int .i64 ((rd_T32 l0_2 x16_1).f0),.slice A261_1 ((rd_T32 l0_2 x16_1).f1).length c261_1,.slice A261_2 ((rd_T32 l0_2 x16_1).f2).length c261_2]] rfl pG ?_;(with_reducible refine (ih k1 (by have:=HK1.out;omega) ((rd_T32 l0_2 x16_1).f0) _ _ ((rd_T32 l0_2 x16_1).f1) _ _ ((rd_T32 l0_2 x16_1).f2) t263 _ ?side1 ?side2 ?side3 ?side4 A7.out).mono ?_);(case side1=>exact Kd.C_below HR261_1.out pB);(case side2=>exact HC261_1.out);(case side3=>exact Kd.C_below HR261_2.out pB);(case side4=>exact HC261_2.out);rintro e w11 ⟨rfl,hb⟩;refine ⟨_,rfl,?_⟩;have n0_:=Z (blk_below (g:=gb260) (o:=.cells #[.int .i64 a0_0,.slice A0_1 l0_1.length c0_1,.slice (some ad261) l0_2.length c0_2] 32 (0,0)) (by (with_reducible repeat (first|refine kN ?_ _|refine kD ?_|refine kA ?_ _));refine blk_far ?_ NB260_262.out _;(with_reducible repeat (first|refine kN ?_ _|refine kD ?_|refine kA ?_ _));refine blk_far ?_ NB260_262.out _;(with_reducible repeat (first|refine kN ?_ _|refine kD ?_|refine kA ?_ _));refine blk_far ?_ NB260_262.out _;(with_reducible repeat (first|refine kN ?_ _|refine kD ?_|refine kA ?_ _));exact BK260.out) hb);have n1_:=Z (blk_below (g:=gb262) (o:=.cells #[.int .i64 ((rd_T32 l0_2 x16_1).f0),.slice A261_1 ((rd_T32 l0_2 x16_1).f1).length c261_1,.slice A261_2 ((rd_T32 l0_2 x16_1).f2).length c261_2] 32 (0,0)) (by (with_reducible repeat (first|refine kN ?_ _|refine kD ?_|refine kA ?_ _));refine blk_put (cs:=#[.int .i64 ((rd_T32 l0_2 x16_1).f0),.slice A261_1 ((rd_T32 l0_2 x16_1).f1).length c261_1,.slice none 0 0]) ?_ 2 _ rfl;(with_reducible repeat (first|refine kN ?_ _|refine kD ?_|refine kA ?_ _));refine blk_put (cs:=#[.int .i64 ((rd_T32 l0_2 x16_1).f0),.slice none 0 0,.slice none 0 0]) ?_ 1 _ rfl;(with_reducible repeat (first|refine kN ?_ _|refine kD ?_|refine kA ?_ _));refine blk_put (cs:=#[.int .i64 0,.slice none 0 0,.slice none 0 0]) ?_ 0 _ rfl;(with_reducible repeat (first|refine kN ?_ _|refine kD ?_|refine kA ?_ _));exact BK262.out) hb);have n2_:=Z (below_step pB hb);clear BK260;clear BK262;clear HB;have BK260:=n0_;have BK262:=n1_;have HB:=n2_;clear n0_ n1_ n2_;(try clear hb);(try clear hb2);(try clear hk);(try clear hi)))
      go_roundg k1
      case measure=>have:=HK1.out;omega
      case rel=>exact ⟨(wrap64 (x3_1+t263)),(wrap64 (x16_1+1)),pE,pE,H',⟨by have:=HK1.out;omega⟩,⟨pK BK260⟩,⟨pB⟩⟩
     ·rw [if_neg c6] at H
      exact absurd H (by simp)
    ·rw [if_neg c5] at H
     exact absurd H (by simp)
   ·rw [if_neg c4] at H
    have c4b0:decide (x16_1 < (l0_2.length:Int))=false:=decide_eq_false c4
    clear c4
    obtain rfl:=Option.some.inj H
    go_wp2
    go_ret
    exact ⟨pF,pB⟩
def nodeset_below.f (a0:Int) (a1:Int):Option (Bool):=if a0 ≥ 0 then (if 0≤a1 then (some (decide (a0 < (shl .i64 1 a1)))) else (none)) else (some false)
set_option maxHeartbeats 8000000 in
set_option maxRecDepth 100000 in
theorem nodeset_below.calls (a0:Int) (a1:Int) (r:Bool) (w:World) (h:nodeset_below.f a0 a1=some r) :
  Calls Try.prog 91 #[.int .i64 a0,.int .i64 a1] w fun e w'=>e=.returned (.bool r)∧Drawn0 w w':=by
 have H:(if a0 ≥ 0 then (if 0≤a1 then (some (decide (a0 < (shl .i64 1 a1)))) else (none)) else (some false))=some r:=h
 clear h
 by_cases c3:a0 ≥ 0
 ·rw [if_pos c3] at H
  have c3b0:decide (0≤a0)=true:=decide_eq_true c3
  clear c3
  by_cases c4:0≤a1
  ·rw [if_pos c4] at H
   have c4b0:=eq_true c4
   have c4b1:decide (0≤a1)=true:=decide_eq_true c4
   clear c4
   obtain ⟨ji5,hji5⟩:∃ j_:Int,(shl .i64 1 a1)=j_:=⟨_,rfl⟩
   replace H:(some (decide (a0 < (ji5))))=some r:=by first|(rw [hji5] at H;exact H)|(simp only [hji5] at H ⊢;exact H)
   have hji5_:(IntKind.i64.wrap (1 * 2 ^ min a1.toNat 64))=ji5:=hji5
   have hji5z:a1≤64→(IntKind.i64.wrap (1 * 2 ^ a1.toNat))=ji5:=shl_small hji5
   have hji5u:(IntKind.i64.wrap (2 ^ min a1.toNat 64))=ji5:=by have h_:=hji5_;rw [Int.one_mul] at h_;exact h_
   have hji5v:a1≤64→(IntKind.i64.wrap (2 ^ a1.toNat))=ji5:=fun hle_=>by have h_:=hji5z hle_;rw [Int.one_mul] at h_;exact h_
   have hji5y:(wrap64 (1 * 2 ^ min a1.toNat 64))=ji5:=(i64_w _).symm.trans hji5_
   have hji5x:a1≤64→(wrap64 (1 * 2 ^ a1.toNat))=ji5:=fun h_=>(i64_w _).symm.trans (hji5z h_)
   obtain rfl:=Option.some.inj H
   go_enter Try.func91,Try.ntmps91
   go_wp2
   go_ret
   exact ⟨by first|rfl|(simp;done)|(simp only [← hji5] <;> (first|rfl|simp))|(simp [*];done),by repeat (first|exact Drawn0.refl _|apply Drawn0.step)⟩
  ·rw [if_neg c4] at H
   exact absurd H (by simp)
 ·rw [if_neg c3] at H
  have c3b0:decide (0≤a0)=false:=decide_eq_false c3
  clear c3
  obtain rfl:=Option.some.inj H
  go_enter Try.func91,Try.ntmps91
  go_wp2
  go_ret
  exact ⟨by first|rfl|(simp;done)|(simp [*];done),by repeat (first|exact Drawn0.refl _|apply Drawn0.step)⟩
def nodeset_Valid.f (a0:Int):Option (Bool):=(nodeset_below.f a0 10).bind fun t231=>(some t231)
set_option maxHeartbeats 8000000 in
set_option maxRecDepth 100000 in
theorem nodeset_Valid.calls (a0:Int) (r:Bool) (w:World) (h:nodeset_Valid.f a0=some r) :
  Calls Try.prog 59 #[.int .i64 a0] w fun e w'=>e=.returned (.bool r)∧Drawn0 w w':=by
 have H:((nodeset_below.f a0 10).bind fun t231=>(some t231))=some r:=h
 clear h
 replace H:=Option.bind_eq_some_iff.mp H
 obtain ⟨t231,A20,H⟩:=H
 try dsimp only at H
 have A2:=Z A20
 clear A20
 obtain rfl:=Option.some.inj H
 go_enter Try.func59,Try.ntmps59
 go_wp2_with (first|((with_reducible refine gate_callee (f:=91) rfl ?_);refine goesL_ (some 4) rfl rfl Try.func91 (by kernel_rfl) rfl #[.int .i64 a0,.int .i64 10] rfl pG ?_;(with_reducible refine (nodeset_below.calls a0 10 t231 _ A2.out).mono ?_);rintro e w' ⟨rfl,⟨nd,rfl⟩⟩;refine ⟨_,rfl,?_⟩))
 go_ret
 exact ⟨by first|rfl|(simp;done)|(simp [*];done),by repeat (first|exact Drawn0.refl _|apply Drawn0.step)⟩
def nodeset_Has.f (a0:Int) (a1:Int):Option (Bool):=(nodeset_Valid.f a0).bind fun t232=>(if t232=true then (if a1 ≥ 0 then (if a1 < 10 then (if 0≤a1 then (some ((Go.bits .and .i64 a0 (shl .i64 1 a1)) != 0)) else (none)) else (some false)) else (some false)) else (some false))
set_option maxHeartbeats 8000000 in
set_option maxRecDepth 100000 in
theorem nodeset_Has.calls (a0:Int) (a1:Int) (r:Bool) (w:World) (h:nodeset_Has.f a0 a1=some r) :
  Calls Try.prog 60 #[.int .i64 a0,.int .i64 a1] w fun e w'=>e=.returned (.bool r)∧Drawn0 w w':=by
 have H:((nodeset_Valid.f a0).bind fun t232=>(if t232=true then (if a1 ≥ 0 then (if a1 < 10 then (if 0≤a1 then (some ((Go.bits .and .i64 a0 (shl .i64 1 a1)) != 0)) else (none)) else (some false)) else (some false)) else (some false)))=some r:=h
 clear h
 replace H:=Option.bind_eq_some_iff.mp H
 obtain ⟨t232,A30,H⟩:=H
 try dsimp only at H
 have A3:=Z A30
 clear A30
 by_cases c4:t232=true
 ·subst c4
  rw [if_pos rfl] at H
  by_cases c5:a1 ≥ 0
  ·rw [if_pos c5] at H
   have c5b0:decide (0≤a1)=true:=decide_eq_true c5
   clear c5
   by_cases c6:a1 < 10
   ·rw [if_pos c6] at H
    have c6b0:decide (a1 < 10)=true:=decide_eq_true c6
    clear c6
    by_cases c7:0≤a1
    ·rw [if_pos c7] at H
     have c7b0:=eq_true c7
     have c7b1:decide (0≤a1)=true:=decide_eq_true c7
     clear c7
     obtain ⟨ji8,hji8⟩:∃ j_:Int,(shl .i64 1 a1)=j_:=⟨_,rfl⟩
     replace H:(some ((Go.bits .and .i64 a0 (ji8)) != 0))=some r:=by first|(rw [hji8] at H;exact H)|(simp only [hji8] at H ⊢;exact H)
     (try rw [hji8] at A3)
     have hji8_:(IntKind.i64.wrap (1 * 2 ^ min a1.toNat 64))=ji8:=hji8
     have hji8z:a1≤64→(IntKind.i64.wrap (1 * 2 ^ a1.toNat))=ji8:=shl_small hji8
     have hji8u:(IntKind.i64.wrap (2 ^ min a1.toNat 64))=ji8:=by have h_:=hji8_;rw [Int.one_mul] at h_;exact h_
     have hji8v:a1≤64→(IntKind.i64.wrap (2 ^ a1.toNat))=ji8:=fun hle_=>by have h_:=hji8z hle_;rw [Int.one_mul] at h_;exact h_
     have hji8y:(wrap64 (1 * 2 ^ min a1.toNat 64))=ji8:=(i64_w _).symm.trans hji8_
     have hji8x:a1≤64→(wrap64 (1 * 2 ^ a1.toNat))=ji8:=fun h_=>(i64_w _).symm.trans (hji8z h_)
     obtain rfl:=Option.some.inj H
     go_enter Try.func60,Try.ntmps60
     go_wp2_with (first|((with_reducible refine gate_callee (f:=59) rfl ?_);refine goesL_ (some 6) rfl rfl Try.func59 (by kernel_rfl) rfl #[.int .i64 a0] rfl pG ?_;(with_reducible refine (nodeset_Valid.calls a0 true _ A3.out).mono ?_);rintro e w' ⟨rfl,⟨nd,rfl⟩⟩;refine ⟨_,rfl,?_⟩))
     go_ret
     exact ⟨by first|rfl|(simp;done)|(simp only [← hji8] <;> (first|rfl|simp))|(simp [*];done),by repeat (first|exact Drawn0.refl _|apply Drawn0.step)⟩
    ·rw [if_neg c7] at H
     exact absurd H (by simp)
   ·rw [if_neg c6] at H
    have c6b0:decide (a1 < 10)=false:=decide_eq_false c6
    clear c6
    obtain rfl:=Option.some.inj H
    go_enter Try.func60,Try.ntmps60
    go_wp2_with (first|((with_reducible refine gate_callee (f:=59) rfl ?_);refine goesL_ (some 6) rfl rfl Try.func59 (by kernel_rfl) rfl #[.int .i64 a0] rfl pG ?_;(with_reducible refine (nodeset_Valid.calls a0 true _ A3.out).mono ?_);rintro e w' ⟨rfl,⟨nd,rfl⟩⟩;refine ⟨_,rfl,?_⟩))
    go_ret
    exact ⟨by first|rfl|(simp;done)|(simp [*];done),by repeat (first|exact Drawn0.refl _|apply Drawn0.step)⟩
  ·rw [if_neg c5] at H
   have c5b0:decide (0≤a1)=false:=decide_eq_false c5
   clear c5
   obtain rfl:=Option.some.inj H
   go_enter Try.func60,Try.ntmps60
   go_wp2_with (first|((with_reducible refine gate_callee (f:=59) rfl ?_);refine goesL_ (some 6) rfl rfl Try.func59 (by kernel_rfl) rfl #[.int .i64 a0] rfl pG ?_;(with_reducible refine (nodeset_Valid.calls a0 true _ A3.out).mono ?_);rintro e w' ⟨rfl,⟨nd,rfl⟩⟩;refine ⟨_,rfl,?_⟩))
   go_ret
   exact ⟨by first|rfl|(simp;done)|(simp [*];done),by repeat (first|exact Drawn0.refl _|apply Drawn0.step)⟩
 ·replace c4:=Bool.eq_false_iff.mpr c4
  subst c4
  rw [if_neg (show ¬ (false=true) by decide)] at H
  obtain rfl:=Option.some.inj H
  go_enter Try.func60,Try.ntmps60
  go_wp2_with (first|((with_reducible refine gate_callee (f:=59) rfl ?_);refine goesL_ (some 6) rfl rfl Try.func59 (by kernel_rfl) rfl #[.int .i64 a0] rfl pG ?_;(with_reducible refine (nodeset_Valid.calls a0 false _ A3.out).mono ?_);rintro e w' ⟨rfl,⟨nd,rfl⟩⟩;refine ⟨_,rfl,?_⟩))
  go_ret
  exact ⟨by first|rfl|(simp;done)|(simp [*];done),by repeat (first|exact Drawn0.refl _|apply Drawn0.step)⟩
mutual
def nodeset_Of.l0:Nat→Int→List Int→Int→Int→Option (Int × Int)
 | 0,_,_,_,_=>none
 | k+1,x4,x7,x8,x9=>if x9 < x8 then (if 0≤x9 then (if x9 < (x7.length:Int) then (if (rd x7 x9) < 0 then (nodeset_Of.j1 k x4 (rd x7 x9) x7 x8 x9 true) else (nodeset_Of.j1 k x4 (rd x7 x9) x7 x8 x9 (decide ((rd x7 x9) ≥ 10)))) else (none)) else (none)) else (some (x4,0))
def nodeset_Of.j1:Nat→Int→Int→List Int→Int→Int→Bool→Option (Int × Int)
 | 0,_,_,_,_,_,_=>none
 | k+1,x4,x6,x7,x8,x9,x18=>if x18=true then (some (0,5)) else ((nodeset_Has.f x4 x6).bind fun t265=>(if t265=true then (some (0,6)) else (if 0≤x6 then (nodeset_Of.l0 k (Go.bits .or .i64 x4 (shl .i64 1 x6)) x7 x8 (wrap64 (x9+1))) else (none))))
end
def nodeset_Of.f (k:Nat) (l0:List Int):Option (Int × Int):=nodeset_Of.l0 k 0 l0 (l0.length:Int) 0
set_option maxHeartbeats 8000000 in
set_option maxRecDepth 100000 in
theorem nodeset_Of.calls (k:Nat) (A0:Option Addr) (c0:Nat) (l0:List Int) (r1:Int) (r2:Int) (w:World) (hr0:Kd.C (Kd.int .i64) w A0 l0.length l0) (hc0:l0.length≤c0) (h:nodeset_Of.f k l0=some (r1,r2)) :
  Calls Try.prog 147 #[.slice A0 l0.length c0] w fun e w'=>e=.returned (.tuple #[.int .i64 r1,.int .i64 r2])∧Drawn0 w w':=by
 have HR0:=Z hr0
 have HC0:=Z hc0
 clear hr0 hc0
 have H:(nodeset_Of.l0 k 0 l0 (l0.length:Int) 0)=some (r1,r2):=h
 clear h
 have H':=Z H
 clear H
 go_enter Try.func147,Try.ntmps147
 go_wp2
 go_loopg [4,9] k (fun kq v4 v9 w'=>∃ (x4_1:Int) (x9_1:Int),v4=.int .i64 x4_1∧v9=.int .i64 x9_1∧Aside0 (nodeset_Of.l0 kq x4_1 l0 (l0.length:Int) x9_1=some (r1,r2))∧Aside0 (kq≤k)∧Drawn0 w w')
 case atStart=>exact ⟨(0),(0),pE,pE,H',⟨Nat.le_refl _⟩,by repeat (first|exact Drawn0.refl _|apply Drawn0.step)⟩
 case round =>
  clear H'
  try clear c1
  obtain ⟨x4_1,x9_1,rfl,rfl,HA,HK1,⟨m1,rfl⟩⟩:=hrel
  cases gk with
  | zero=>exact absurd HA.out (by simp [nodeset_Of.l0])
  | succ k1 =>
   have H:=HA.out
   clear HA
   simp only [nodeset_Of.l0] at H
   by_cases c2:x9_1 < (l0.length:Int)
   ·rw [if_pos c2] at H
    have c2b0:decide (x9_1 < (l0.length:Int))=true:=decide_eq_true c2
    clear c2
    by_cases c3:0≤x9_1
    ·rw [if_pos c3] at H
     have c3b0:decide (0≤x9_1)=true:=decide_eq_true c3
     clear c3
     by_cases c4:x9_1 < (l0.length:Int)
     ·rw [if_pos c4] at H
      have c4b0:decide (x9_1 < (l0.length:Int))=true:=decide_eq_true c4
      clear c4
      have HC5:=Z H
      clear H
      have p264:0≤(x9_1:Int):=of_decide_eq_true (by first|(with_reducible assumption)|assumption)
      have q264:x9_1 < (l0.length:Int):=of_decide_eq_true (by first|(with_reducible assumption)|assumption)
      obtain ⟨ad264,e264,hx264_0⟩:=Kd.at_int HR0.out x9_1 p264 q264
      cases e264
      replace p264:=eq_true p264
      replace q264:=eq_true q264
      go_upto_region 5 with (fail)
      go_cut [18] (fun v18 wc=>∃ (kq:Nat) (x18_4:Bool),v18=.bool x18_4∧Aside0 (nodeset_Of.j1 kq x4_1 (rd l0 x9_1) l0 (l0.length:Int) x9_1 x18_4=some (r1,r2))∧Aside0 (kq≤k1)∧Drawn0 w wc)
      case first =>
       have H:=HC5.out
       clear HC5
       by_cases c6:(rd l0 x9_1) < 0
       ·rw [if_pos c6] at H
        have c6b0:decide ((rd l0 x9_1) < 0)=true:=decide_eq_true c6
        clear c6
        (first|rw [c6b0]|(simp only [i64_w,i32_w];rw [c6b0])|skip)
        have H':=Z H
        clear H
        go_wp2
        go_meet
        case rel=>exact ⟨_,(true),pE,H',⟨by have:=HK1.out;first|omega|exact Nat.le_refl _⟩,by repeat (first|exact Drawn0.refl _|apply Drawn0.step)⟩
       ·rw [if_neg c6] at H
        have c6b0:decide ((rd l0 x9_1) < 0)=false:=decide_eq_false c6
        clear c6
        (first|rw [c6b0]|(simp only [i64_w,i32_w];rw [c6b0])|skip)
        have H':=Z H
        clear H
        go_wp2
        go_meet
        case rel=>exact ⟨_,(decide ((rd l0 x9_1) ≥ 10)),pE,H',⟨by have:=HK1.out;first|omega|exact Nat.le_refl _⟩,by repeat (first|exact Drawn0.refl _|apply Drawn0.step)⟩
      case rest =>
       clear HC5
       try clear c1
       try clear c2
       try clear c2b0
       try clear p2
       try clear q2
       try clear hx2
       try clear c3
       try clear c3b0
       try clear c4
       try clear c4b0
       try clear c6
       try clear c6b0
       try clear hx264_0
       try clear p264
       try clear q264
       obtain ⟨kq,x18_4,rfl,HA,HJ4,⟨mc4,rfl⟩⟩:=hcut
       cases kq with
       | zero=>exact absurd HA.out (by simp [nodeset_Of.j1])
       | succ kj4 =>
        have H:=HA.out
        clear HA
        simp only [nodeset_Of.j1] at H
        by_cases c7:x18_4=true
        ·subst c7
         rw [if_pos rfl] at H
         simp only [Option.some.injEq,Prod.mk.injEq] at H
         obtain ⟨rfl,rfl⟩:=H
         go_wp2
         go_ret2
         exact ⟨by first|rfl|(simp;done)|(simp [*];done),by repeat (first|exact Drawn0.refl _|apply Drawn0.step)⟩
        ·replace c7:=Bool.eq_false_iff.mpr c7
         subst c7
         rw [if_neg (show ¬ (false=true) by decide)] at H
         replace H:=Option.bind_eq_some_iff.mp H
         obtain ⟨t265,A80,H⟩:=H
         try dsimp only at H
         have A8:=Z A80
         clear A80
         by_cases c9:t265=true
         ·subst c9
          rw [if_pos rfl] at H
          simp only [Option.some.injEq,Prod.mk.injEq] at H
          obtain ⟨rfl,rfl⟩:=H
          go_wp2_with (first|((with_reducible refine gate_callee (f:=60) rfl ?_);refine goesL_ (some 21) rfl rfl Try.func60 (by kernel_rfl) rfl #[.int .i64 x4_1,.int .i64 (rd l0 x9_1)] rfl pG ?_;(with_reducible refine (nodeset_Has.calls x4_1 (rd l0 x9_1) true _ A8.out).mono ?_);rintro e w' ⟨rfl,⟨nd,rfl⟩⟩;refine ⟨_,rfl,?_⟩))
          go_ret2
          exact ⟨by first|rfl|(simp;done)|(simp [*];done),by repeat (first|exact Drawn0.refl _|apply Drawn0.step)⟩
         ·replace c9:=Bool.eq_false_iff.mpr c9
          subst c9
          rw [if_neg (show ¬ (false=true) by decide)] at H
          by_cases c10:0≤(rd l0 x9_1)
          ·rw [if_pos c10] at H
           have c10b0:=eq_true c10
           have c10b1:decide (0≤(rd l0 x9_1))=true:=decide_eq_true c10
           clear c10
           obtain ⟨ji11,hji11⟩:∃ j_:Int,(shl .i64 1 (rd l0 x9_1))=j_:=⟨_,rfl⟩
           replace H:(nodeset_Of.l0 kj4 (Go.bits .or .i64 x4_1 (ji11)) l0 (l0.length:Int) (wrap64 (x9_1+1)))=some (r1,r2):=by first|(rw [hji11] at H;exact H)|(simp only [hji11] at H ⊢;exact H)
           (try rw [hji11] at A8)
           have hji11_:(IntKind.i64.wrap (1 * 2 ^ min (rd l0 x9_1).toNat 64))=ji11:=hji11
           have hji11z:(rd l0 x9_1)≤64→(IntKind.i64.wrap (1 * 2 ^ (rd l0 x9_1).toNat))=ji11:=shl_small hji11
           have hji11u:(IntKind.i64.wrap (2 ^ min (rd l0 x9_1).toNat 64))=ji11:=by have h_:=hji11_;rw [Int.one_mul] at h_;exact h_
           have hji11v:(rd l0 x9_1)≤64→(IntKind.i64.wrap (2 ^ (rd l0 x9_1).toNat))=ji11:=fun hle_=>by have h_:=hji11z hle_;rw [Int.one_mul] at h_;exact h_
           have hji11y:(wrap64 (1 * 2 ^ min (rd l0 x9_1).toNat 64))=ji11:=(i64_w _).symm.trans hji11_
           have hji11x:(rd l0 x9_1)≤64→(wrap64 (1 * 2 ^ (rd l0 x9_1).toNat))=ji11:=fun h_=>(i64_w _).symm.trans (hji11z h_)
           have H':=Z H
           clear H
           go_wp2_with (first|((with_reducible refine gate_callee (f:=60) rfl ?_);refine goesL_ (some 21) rfl rfl Try.func60 (by kernel_rfl) rfl #[.int .i64 x4_1,.int .i64 (rd l0 x9_1)] rfl pG ?_;(with_reducible refine (nodeset_Has.calls x4_1 (rd l0 x9_1) false _ A8.out).mono ?_);rintro e w' ⟨rfl,⟨nd,rfl⟩⟩;refine ⟨_,rfl,?_⟩))
           go_roundg kj4
           case measure=>have:=HK1.out;have:=HJ4.out;omega
           case rel=>exact ⟨(Go.bits .or .i64 x4_1 (ji11)),(wrap64 (x9_1+1)),(by first|exact pE|(simp only [← hji11] <;> (first|rfl|simp))),pE,H',⟨by have:=HK1.out;have:=HJ4.out;omega⟩,by repeat (first|exact Drawn0.refl _|apply Drawn0.step)⟩
          ·rw [if_neg c10] at H
           exact absurd H (by simp)
     ·rw [if_neg c4] at H
      exact absurd H (by simp)
    ·rw [if_neg c3] at H
     exact absurd H (by simp)
   ·rw [if_neg c2] at H
    have c2b0:decide (x9_1 < (l0.length:Int))=false:=decide_eq_false c2
    clear c2
    simp only [Option.some.injEq,Prod.mk.injEq] at H
    obtain ⟨rfl,rfl⟩:=H
    go_wp2
    go_ret2
    exact ⟨by first|rfl|(simp;done)|(simp [*];done),by repeat (first|exact Drawn0.refl _|apply Drawn0.step)⟩
def configuration_Declared.l0:Nat→Int→List (S34)→Int→Int→Option (Int)
 | 0,_,_,_,_=>none
 | k+1,x3,x7,x8,x9=>if x9 < x8 then (if 0≤x9 then (if x9 < (x7.length:Int) then (if (rd_T34 x7 x9).f0=true then (if x9 < 10 then (configuration_Declared.l0 k (Go.bits .or .i64 x3 (shl .i64 1 x9)) x7 x8 (wrap64 (x9+1))) else (configuration_Declared.l0 k x3 x7 x8 (wrap64 (x9+1)))) else (configuration_Declared.l0 k x3 x7 x8 (wrap64 (x9+1)))) else (none)) else (none)) else (some x3)
def configuration_Declared.f (k:Nat) (l0_0:List (S34)):Option (Int):=configuration_Declared.l0 k 0 l0_0 (l0_0.length:Int) 0
set_option maxHeartbeats 8000000 in
set_option maxRecDepth 100000 in
theorem configuration_Declared.calls (k:Nat) (A0_0:Option Addr) (c0_0:Nat) (l0_0:List (S34)) (r:Int) (w:World) (hr0_0:Kd.C k34 w A0_0 l0_0.length l0_0) (hc0_0:l0_0.length≤c0_0) (h:configuration_Declared.f k l0_0=some r) :
  Calls Try.prog 61 #[.agg #[.slice A0_0 l0_0.length c0_0]] w fun e w'=>e=.returned (.int .i64 r)∧Below w.heap.size w w':=by
 have hu27:=Try.underlying27
 have hu34:=Try.underlying34
 have HR0_0:=Z hr0_0
 have HC0_0:=Z hc0_0
 clear hr0_0 hc0_0
 have HB:=Z (Below.refl w.heap.size w)
 have H:(configuration_Declared.l0 k 0 l0_0 (l0_0.length:Int) 0)=some r:=h
 clear h
 have H':=Z H
 clear H
 go_enter Try.func61,Try.ntmps61
 go_wp2_with (first|((with_reducible refine gate_dst (N:=1) rfl ?_);refine box_event ?hg (N:=1) ?hd (cs:=#[.slice A0_0 l0_0.length c0_0]) (t:=27) ?hr ?_;(case hd=>rfl);(case hg=>rfl);(case hr=>first|(go_simp;done)|(go_simp;rfl));intro gb233 hg w2 hbox hb;have n0_:=Z (below_step pB hb);have n1_:=Z (hbox);have n2_:=Z ((pT hg:w.heap.size≤gb233));have n3_:=Z ((pT hg:w.heap.size≤gb233));clear HB;have HB:=n0_;have BK233:=n1_;have GW233:=n2_;have GE233:=n3_;clear n0_ n1_ n2_ n3_;clear hb hbox hg;have hcz3_0:w2.cell? ⟨gb233,0,none⟩=some (.slice A0_0 l0_0.length c0_0):=(kC BK233.out 0).trans rfl;have hfz3_0:=kF BK233.out 0))
 go_loopg [3,9] k (fun kq v3 v9 w'=>∃ (x3_1:Int) (x9_1:Int),v3=.int .i64 x3_1∧v9=.int .i64 x9_1∧Aside0 (configuration_Declared.l0 kq x3_1 l0_0 (l0_0.length:Int) x9_1=some r)∧Aside0 (kq≤k)∧Aside0 (w'.heap[gb233]?=some (.cells #[(.slice A0_0 l0_0.length c0_0)] 27 (0,0)))∧Aside0 (Below w.heap.size w w'))
 case atStart=>exact ⟨(0),(0),pE,pE,H',⟨Nat.le_refl _⟩,⟨pK BK233⟩,⟨pB⟩⟩
 case round =>
  clear H'
  try clear p2
  try clear hcz3_0
  try clear hfz3_0
  obtain ⟨x3_1,x9_1,rfl,rfl,HA,HK1,BK233,HB⟩:=hrel
  cases gk with
  | zero=>exact absurd HA.out (by simp [configuration_Declared.l0])
  | succ k1 =>
   have H:=HA.out
   clear HA
   simp only [configuration_Declared.l0] at H
   by_cases c4:x9_1 < (l0_0.length:Int)
   ·rw [if_pos c4] at H
    have c4b0:decide (x9_1 < (l0_0.length:Int))=true:=decide_eq_true c4
    clear c4
    by_cases c5:0≤x9_1
    ·rw [if_pos c5] at H
     have c5b0:decide (0≤x9_1)=true:=decide_eq_true c5
     clear c5
     by_cases c6:x9_1 < (l0_0.length:Int)
     ·rw [if_pos c6] at H
      have c6b0:decide (x9_1 < (l0_0.length:Int))=true:=decide_eq_true c6
      clear c6
      obtain ⟨bq7,hbq7⟩:∃ b_:Bool,b_=((rd_T34 l0_0 x9_1).f0):=⟨_,rfl⟩
      replace H:(if bq7=true then (if x9_1 < 10 then (configuration_Declared.l0 k1 (Go.bits .or .i64 x3_1 (shl .i64 1 x9_1)) l0_0 (l0_0.length:Int) (wrap64 (x9_1+1))) else (configuration_Declared.l0 k1 x3_1 l0_0 (l0_0.length:Int) (wrap64 (x9_1+1)))) else (configuration_Declared.l0 k1 x3_1 l0_0 (l0_0.length:Int) (wrap64 (x9_1+1))))=some r:=by rw [← hbq7] at H;exact H
      have Nbq7:=Z hbq7
      clear hbq7
      by_cases c8:bq7=true
      ·subst c8
       rw [if_pos rfl] at H
       by_cases c9:x9_1 < 10
       ·rw [if_pos c9] at H
        have c9b0:decide (x9_1 < 10)=true:=decide_eq_true c9
        clear c9
        have c10b0:=eq_true (of_decide_eq_true (by first|(with_reducible assumption)|assumption):0≤x9_1)
        obtain ⟨ji11,hji11⟩:∃ j_:Int,(shl .i64 1 x9_1)=j_:=⟨_,rfl⟩
        replace H:(configuration_Declared.l0 k1 (Go.bits .or .i64 x3_1 (ji11)) l0_0 (l0_0.length:Int) (wrap64 (x9_1+1)))=some r:=by first|(rw [hji11] at H;exact H)|(simp only [hji11] at H ⊢;exact H)
        have hji11_:(IntKind.i64.wrap (1 * 2 ^ min x9_1.toNat 64))=ji11:=hji11
        have hji11z:x9_1≤64→(IntKind.i64.wrap (1 * 2 ^ x9_1.toNat))=ji11:=shl_small hji11
        have hji11u:(IntKind.i64.wrap (2 ^ min x9_1.toNat 64))=ji11:=by have h_:=hji11_;rw [Int.one_mul] at h_;exact h_
        have hji11v:x9_1≤64→(IntKind.i64.wrap (2 ^ x9_1.toNat))=ji11:=fun hle_=>by have h_:=hji11z hle_;rw [Int.one_mul] at h_;exact h_
        have hji11y:(wrap64 (1 * 2 ^ min x9_1.toNat 64))=ji11:=(i64_w _).symm.trans hji11_
        have hji11x:x9_1≤64→(wrap64 (1 * 2 ^ x9_1.toNat))=ji11:=fun h_=>(i64_w _).symm.trans (hji11z h_)
        have H':=Z H
        clear H
        have p234:0≤(x9_1:Int):=of_decide_eq_true (by first|(with_reducible assumption)|assumption)
        have q234:x9_1 < (l0_0.length:Int):=of_decide_eq_true (by first|(with_reducible assumption)|assumption)
        obtain ⟨ad234,A234_2,c234_2,A234_3,c234_3,e234,hx234_0,hx234_1,hx234_2,hx234_3,hl234_2,hi234_2,hl234_3,hi234_3⟩:=at_T34 HR0_0.out x9_1 p234 q234
        (try rw [← Nbq7.out] at hx234_0)
        cases e234
        replace hx234_0:=(HB.out.cell (World.block_lt_of_cell? w _ hx234_0)).trans hx234_0
        replace hx234_1:=(HB.out.cell (World.block_lt_of_cell? w _ hx234_1)).trans hx234_1
        replace hx234_2:=(HB.out.cell (World.block_lt_of_cell? w _ hx234_2)).trans hx234_2
        replace hx234_3:=(HB.out.cell (World.block_lt_of_cell? w _ hx234_3)).trans hx234_3
        have HR234_2:=Z hi234_2
        have HC234_2:=Z hl234_2
        clear hi234_2 hl234_2
        have HR234_3:=Z hi234_3
        have HC234_3:=Z hl234_3
        clear hi234_3 hl234_3
        replace p234:=eq_true p234
        replace q234:=eq_true q234
        go_wp2_with (first|((with_reducible refine gate_dst (N:=5) rfl ?_);refine box_event ?hg (N:=5) ?hd (cs:=#[.bool false,.int .i64 0,.slice none 0 0,.slice none 0 0]) (t:=34) ?hr ?_;(case hd=>rfl);(case hg=>rfl);(case hr=>first|(go_simp;done)|(go_simp;rfl));intro gb235 hg w12 hbox hb;have n0_:=Z (blk_below (g:=gb233) (o:=.cells #[.slice (some ad234) l0_0.length c0_0] 27 (0,0)) (pK BK233) hb);have n1_:=Z (below_step pB hb);have n2_:=Z (hbox);have n3_:=Z ((pT hg:w.heap.size≤gb235));have n4_:=Z ((pT hg:w.heap.size≤gb235));have n5_:=Z ((pL hg (pK BK233):gb233 ≠ gb235));have n6_:=Z ((pM hg (pK BK233):gb235 ≠ gb233));clear BK233;clear HB;have BK233:=n0_;have HB:=n1_;have BK235:=n2_;have GW235:=n3_;have GE235:=n4_;have NB233_235:=n5_;have NB235_233:=n6_;clear n0_ n1_ n2_ n3_ n4_ n5_ n6_;clear hb hbox hg;have hnb13:=NB235_233.out;have hnc13:=NB233_235.out;have hcz14_0:w12.cell? ⟨gb235,0,none⟩=some (.bool false):=(kC BK235.out 0).trans rfl;have hcz14_1:w12.cell? ⟨gb235,1,none⟩=some (.int .i64 0):=(kC BK235.out 1).trans rfl;have hcz14_2:w12.cell? ⟨gb235,2,none⟩=some (.slice none 0 0):=(kC BK235.out 2).trans rfl;have hcz14_3:w12.cell? ⟨gb235,3,none⟩=some (.slice none 0 0):=(kC BK235.out 3).trans rfl;have hfz14_0:=kF BK235.out 0;have hfz14_1:=kF BK235.out 1;have hfz14_2:=kF BK235.out 2;have hfz14_3:=kF BK235.out 3))
        go_roundg k1
        case measure=>have:=HK1.out;omega
        case rel=>exact ⟨(Go.bits .or .i64 x3_1 (ji11)),(wrap64 (x9_1+1)),(by first|exact pE|(simp only [← hji11] <;> (first|rfl|simp))),pE,H',⟨by have:=HK1.out;omega⟩,⟨by (with_reducible repeat (first|refine kN ?_ _|refine kD ?_|refine kA ?_ _));refine blk_far ?_ NB233_235.out _;(with_reducible repeat (first|refine kN ?_ _|refine kD ?_|refine kA ?_ _));refine blk_far ?_ NB233_235.out _;(with_reducible repeat (first|refine kN ?_ _|refine kD ?_|refine kA ?_ _));refine blk_far ?_ NB233_235.out _;(with_reducible repeat (first|refine kN ?_ _|refine kD ?_|refine kA ?_ _));refine blk_far ?_ NB233_235.out _;(with_reducible repeat (first|refine kN ?_ _|refine kD ?_|refine kA ?_ _));exact BK233.out⟩,⟨pB⟩⟩
       ·rw [if_neg c9] at H
        have c9b0:decide (x9_1 < 10)=false:=decide_eq_false c9
        clear c9
        have H':=Z H
        clear H
        have p234:0≤(x9_1:Int):=of_decide_eq_true (by first|(with_reducible assumption)|assumption)
        have q234:x9_1 < (l0_0.length:Int):=of_decide_eq_true (by first|(with_reducible assumption)|assumption)
        obtain ⟨ad234,A234_2,c234_2,A234_3,c234_3,e234,hx234_0,hx234_1,hx234_2,hx234_3,hl234_2,hi234_2,hl234_3,hi234_3⟩:=at_T34 HR0_0.out x9_1 p234 q234
        (try rw [← Nbq7.out] at hx234_0)
        cases e234
        replace hx234_0:=(HB.out.cell (World.block_lt_of_cell? w _ hx234_0)).trans hx234_0
        replace hx234_1:=(HB.out.cell (World.block_lt_of_cell? w _ hx234_1)).trans hx234_1
        replace hx234_2:=(HB.out.cell (World.block_lt_of_cell? w _ hx234_2)).trans hx234_2
        replace hx234_3:=(HB.out.cell (World.block_lt_of_cell? w _ hx234_3)).trans hx234_3
        have HR234_2:=Z hi234_2
        have HC234_2:=Z hl234_2
        clear hi234_2 hl234_2
        have HR234_3:=Z hi234_3
        have HC234_3:=Z hl234_3
        clear hi234_3 hl234_3
        replace p234:=eq_true p234
        replace q234:=eq_true q234
        go_wp2_with (first|((with_reducible refine gate_dst (N:=5) rfl ?_);refine box_event ?hg (N:=5) ?hd (cs:=#[.bool false,.int .i64 0,.slice none 0 0,.slice none 0 0]) (t:=34) ?hr ?_;(case hd=>rfl);(case hg=>rfl);(case hr=>first|(go_simp;done)|(go_simp;rfl));intro gb235 hg w15 hbox hb;have n0_:=Z (blk_below (g:=gb233) (o:=.cells #[.slice (some ad234) l0_0.length c0_0] 27 (0,0)) (pK BK233) hb);have n1_:=Z (below_step pB hb);have n2_:=Z (hbox);have n3_:=Z ((pT hg:w.heap.size≤gb235));have n4_:=Z ((pT hg:w.heap.size≤gb235));have n5_:=Z ((pL hg (pK BK233):gb233 ≠ gb235));have n6_:=Z ((pM hg (pK BK233):gb235 ≠ gb233));clear BK233;clear HB;have BK233:=n0_;have HB:=n1_;have BK235:=n2_;have GW235:=n3_;have GE235:=n4_;have NB233_235:=n5_;have NB235_233:=n6_;clear n0_ n1_ n2_ n3_ n4_ n5_ n6_;clear hb hbox hg;have hnb16:=NB235_233.out;have hnc16:=NB233_235.out;have hcz17_0:w15.cell? ⟨gb235,0,none⟩=some (.bool false):=(kC BK235.out 0).trans rfl;have hcz17_1:w15.cell? ⟨gb235,1,none⟩=some (.int .i64 0):=(kC BK235.out 1).trans rfl;have hcz17_2:w15.cell? ⟨gb235,2,none⟩=some (.slice none 0 0):=(kC BK235.out 2).trans rfl;have hcz17_3:w15.cell? ⟨gb235,3,none⟩=some (.slice none 0 0):=(kC BK235.out 3).trans rfl;have hfz17_0:=kF BK235.out 0;have hfz17_1:=kF BK235.out 1;have hfz17_2:=kF BK235.out 2;have hfz17_3:=kF BK235.out 3))
        go_roundg k1
        case measure=>have:=HK1.out;omega
        case rel=>exact ⟨(x3_1),(wrap64 (x9_1+1)),pE,pE,H',⟨by have:=HK1.out;omega⟩,⟨by (with_reducible repeat (first|refine kN ?_ _|refine kD ?_|refine kA ?_ _));refine blk_far ?_ NB233_235.out _;(with_reducible repeat (first|refine kN ?_ _|refine kD ?_|refine kA ?_ _));refine blk_far ?_ NB233_235.out _;(with_reducible repeat (first|refine kN ?_ _|refine kD ?_|refine kA ?_ _));refine blk_far ?_ NB233_235.out _;(with_reducible repeat (first|refine kN ?_ _|refine kD ?_|refine kA ?_ _));refine blk_far ?_ NB233_235.out _;(with_reducible repeat (first|refine kN ?_ _|refine kD ?_|refine kA ?_ _));exact BK233.out⟩,⟨pB⟩⟩
      ·replace c8:=Bool.eq_false_iff.mpr c8
       subst c8
       rw [if_neg (show ¬ (false=true) by decide)] at H
       have H':=Z H
       clear H
       have p234:0≤(x9_1:Int):=of_decide_eq_true (by first|(with_reducible assumption)|assumption)
       have q234:x9_1 < (l0_0.length:Int):=of_decide_eq_true (by first|(with_reducible assumption)|assumption)
       obtain ⟨ad234,A234_2,c234_2,A234_3,c234_3,e234,hx234_0,hx234_1,hx234_2,hx234_3,hl234_2,hi234_2,hl234_3,hi234_3⟩:=at_T34 HR0_0.out x9_1 p234 q234
       (try rw [← Nbq7.out] at hx234_0)
       cases e234
       replace hx234_0:=(HB.out.cell (World.block_lt_of_cell? w _ hx234_0)).trans hx234_0
       replace hx234_1:=(HB.out.cell (World.block_lt_of_cell? w _ hx234_1)).trans hx234_1
       replace hx234_2:=(HB.out.cell (World.block_lt_of_cell? w _ hx234_2)).trans hx234_2
       replace hx234_3:=(HB.out.cell (World.block_lt_of_cell? w _ hx234_3)).trans hx234_3
       have HR234_2:=Z hi234_2
       have HC234_2:=Z hl234_2
       clear hi234_2 hl234_2
       have HR234_3:=Z hi234_3
       have HC234_3:=Z hl234_3
       clear hi234_3 hl234_3
       replace p234:=eq_true p234
       replace q234:=eq_true q234
       go_wp2_with (first|((with_reducible refine gate_dst (N:=5) rfl ?_);refine box_event ?hg (N:=5) ?hd (cs:=#[.bool false,.int .i64 0,.slice none 0 0,.slice none 0 0]) (t:=34) ?hr ?_;(case hd=>rfl);(case hg=>rfl);(case hr=>first|(go_simp;done)|(go_simp;rfl));intro gb235 hg w18 hbox hb;have n0_:=Z (blk_below (g:=gb233) (o:=.cells #[.slice (some ad234) l0_0.length c0_0] 27 (0,0)) (pK BK233) hb);have n1_:=Z (below_step pB hb);have n2_:=Z (hbox);have n3_:=Z ((pT hg:w.heap.size≤gb235));have n4_:=Z ((pT hg:w.heap.size≤gb235));have n5_:=Z ((pL hg (pK BK233):gb233 ≠ gb235));have n6_:=Z ((pM hg (pK BK233):gb235 ≠ gb233));clear BK233;clear HB;have BK233:=n0_;have HB:=n1_;have BK235:=n2_;have GW235:=n3_;have GE235:=n4_;have NB233_235:=n5_;have NB235_233:=n6_;clear n0_ n1_ n2_ n3_ n4_ n5_ n6_;clear hb hbox hg;have hnb19:=NB235_233.out;have hnc19:=NB233_235.out;have hcz20_0:w18.cell? ⟨gb235,0,none⟩=some (.bool false):=(kC BK235.out 0).trans rfl;have hcz20_1:w18.cell? ⟨gb235,1,none⟩=some (.int .i64 0):=(kC BK235.out 1).trans rfl;have hcz20_2:w18.cell? ⟨gb235,2,none⟩=some (.slice none 0 0):=(kC BK235.out 2).trans rfl;have hcz20_3:w18.cell? ⟨gb235,3,none⟩=some (.slice none 0 0):=(kC BK235.out 3).trans rfl;have hfz20_0:=kF BK235.out 0;have hfz20_1:=kF BK235.out 1;have hfz20_2:=kF BK235.out 2;have hfz20_3:=kF BK235.out 3))
       go_roundg k1
       case measure=>have:=HK1.out;omega
       case rel=>exact ⟨(x3_1),(wrap64 (x9_1+1)),pE,pE,H',⟨by have:=HK1.out;omega⟩,⟨by (with_reducible repeat (first|refine kN ?_ _|refine kD ?_|refine kA ?_ _));refine blk_far ?_ NB233_235.out _;(with_reducible repeat (first|refine kN ?_ _|refine kD ?_|refine kA ?_ _));refine blk_far ?_ NB233_235.out _;(with_reducible repeat (first|refine kN ?_ _|refine kD ?_|refine kA ?_ _));refine blk_far ?_ NB233_235.out _;(with_reducible repeat (first|refine kN ?_ _|refine kD ?_|refine kA ?_ _));refine blk_far ?_ NB233_235.out _;(with_reducible repeat (first|refine kN ?_ _|refine kD ?_|refine kA ?_ _));exact BK233.out⟩,⟨pB⟩⟩
     ·rw [if_neg c6] at H
      exact absurd H (by simp)
    ·rw [if_neg c5] at H
     exact absurd H (by simp)
   ·rw [if_neg c4] at H
    have c4b0:decide (x9_1 < (l0_0.length:Int))=false:=decide_eq_false c4
    clear c4
    obtain rfl:=Option.some.inj H
    go_wp2
    go_ret
    exact ⟨pF,pB⟩
def closure_inside.f (k:Nat) (l0_0:List (S34)) (a1:Int):Option (Bool):=(configuration_Declared.f k l0_0).bind fun t627=>(some ((Go.bits .andNot .i64 a1 t627) == 0))
set_option maxHeartbeats 8000000 in
set_option maxRecDepth 100000 in
theorem closure_inside.calls (k:Nat) (A0_0:Option Addr) (c0_0:Nat) (l0_0:List (S34)) (a1:Int) (r:Bool) (w:World) (hr0_0:Kd.C k34 w A0_0 l0_0.length l0_0) (hc0_0:l0_0.length≤c0_0) (h:closure_inside.f k l0_0 a1=some r) :
  Calls Try.prog 119 #[.agg #[.slice A0_0 l0_0.length c0_0],.int .i64 a1] w fun e w'=>e=.returned (.bool r)∧Below w.heap.size w w':=by
 have hu27:=Try.underlying27
 have HR0_0:=Z hr0_0
 have HC0_0:=Z hc0_0
 clear hr0_0 hc0_0
 have HB:=Z (Below.refl w.heap.size w)
 have H:((configuration_Declared.f k l0_0).bind fun t627=>(some ((Go.bits .andNot .i64 a1 t627) == 0)))=some r:=h
 clear h
 replace H:=Option.bind_eq_some_iff.mp H
 obtain ⟨t627,A30,H⟩:=H
 try dsimp only at H
 have A3:=Z A30
 clear A30
 obtain rfl:=Option.some.inj H
 go_enter Try.func119,Try.ntmps119
 go_wp2_with (first|((with_reducible refine gate_dst (N:=2) rfl ?_);refine box_event ?hg (N:=2) ?hd (cs:=#[.slice A0_0 l0_0.length c0_0]) (t:=27) ?hr ?_;(case hd=>rfl);(case hg=>rfl);(case hr=>first|(go_simp;done)|(go_simp;rfl));intro gb626 hg w4 hbox hb;have n0_:=Z (below_step pB hb);have n1_:=Z (hbox);have n2_:=Z ((pT hg:w.heap.size≤gb626));have n3_:=Z ((pT hg:w.heap.size≤gb626));clear HB;have HB:=n0_;have BK626:=n1_;have GW626:=n2_;have GE626:=n3_;clear n0_ n1_ n2_ n3_;clear hb hbox hg;have hcz5_0:w4.cell? ⟨gb626,0,none⟩=some (.slice A0_0 l0_0.length c0_0):=(kC BK626.out 0).trans rfl;have hfz5_0:=kF BK626.out 0)|((with_reducible refine gate_callee (f:=61) rfl ?_);refine goesL_ (some 7) rfl rfl Try.func61 (by kernel_rfl) rfl #[.agg #[.slice A0_0 l0_0.length c0_0]] rfl pG ?_;(with_reducible refine (configuration_Declared.calls k _ _ l0_0 t627 _ ?side1 ?side2 A3.out).mono ?_);(case side1=>repeat (first|exact (Kd.C_below HR0_0.out HB.out)|(with_reducible refine Kd.C_alloc ?_ _)|(with_reducible refine Kd.C_drewN ?_ _)|(with_reducible refine Kd.C_drew ?_)));(case side2=>exact HC0_0.out);rintro e w6 ⟨rfl,hb⟩;refine ⟨_,rfl,?_⟩;have n0_:=Z (blk_below (g:=gb626) (o:=.cells #[.slice A0_0 l0_0.length c0_0] 27 (0,0)) (pK BK626) hb);have n1_:=Z (below_step pB hb);clear BK626;clear HB;have BK626:=n0_;have HB:=n1_;clear n0_ n1_;(try clear hb);(try clear hb2);(try clear hk);(try clear hi)))
 go_ret
 exact ⟨pF,pB⟩
def nodeset_Nodes.l0:Nat→Int→List Int→Int→Option (List Int)
 | 0,_,_,_=>none
 | k+1,x0,x3,x5=>if x5 < 10 then ((nodeset_Has.f x0 x5).bind fun t311=>(if t311=true then (if x3.length < 17592186044416 then (nodeset_Nodes.l0 k x0 (x3++[x5]) (wrap64 (x5+1))) else (none)) else (nodeset_Nodes.l0 k x0 x3 (wrap64 (x5+1))))) else (some x3)
def nodeset_Nodes.f (k:Nat) (a0:Int):Option (List Int):=nodeset_Nodes.l0 k a0 ([]:List Int) 0
set_option maxHeartbeats 8000000 in
set_option maxRecDepth 100000 in
theorem nodeset_Nodes.calls (k:Nat) (a0:Int) (r:List Int) (w:World) (h:nodeset_Nodes.f k a0=some r) :
  Calls Try.prog 77 #[.int .i64 a0] w fun e w'=>∃ v0_:Value,e=.returned (v0_)∧Kd.R (Kd.int .i64) 3 w' w.heap.size (fun _=>True) v0_ r∧Below w.heap.size w w':=by
 have HB:=Z (Below.refl w.heap.size w)
 have H:(nodeset_Nodes.l0 k a0 ([]:List Int) 0)=some r:=h
 clear h
 have H':=Z H
 clear H
 go_enter Try.func77,Try.ntmps77
 go_wp2
 go_loopg [3,5] k (fun kq v3 v5 w'=>∃ (x3_1:List Int) (x5_1:Int),v5=.int .i64 x5_1∧Aside0 (nodeset_Nodes.l0 kq a0 x3_1 x5_1=some r)∧Aside0 (kq≤k)∧Aside0 (Kd.R (Kd.int .i64) 3 w' w.heap.size (fun _=>True) v3 x3_1)∧Aside0 (Below w.heap.size w w'))
 case atStart=>exact ⟨(([]:List Int)),(0),pE,H',⟨Nat.le_refl _⟩,⟨pN⟩,⟨pB⟩⟩
 case round =>
  clear H'
  obtain ⟨x3_1,x5_1,rfl,HA,HK1,HO_3,HB⟩:=hrel
  cases gk with
  | zero=>exact absurd HA.out (by simp [nodeset_Nodes.l0])
  | succ k1 =>
   have H:=HA.out
   clear HA
   simp only [nodeset_Nodes.l0] at H
   by_cases c2:x5_1 < 10
   ·rw [if_pos c2] at H
    have c2b0:decide (x5_1 < 10)=true:=decide_eq_true c2
    clear c2
    replace H:=Option.bind_eq_some_iff.mp H
    obtain ⟨t311,A30,H⟩:=H
    try dsimp only at H
    have A3:=Z A30
    clear A30
    by_cases c4:t311=true
    ·subst c4
     rw [if_pos rfl] at H
     by_cases c5:x3_1.length < 17592186044416
     ·rw [if_pos c5] at H
      have LMc5:=Z c5
      clear c5
      obtain ⟨y312,hy312⟩:∃ y_:List Int,y_=(x3_1++[x5_1]):=⟨_,rfl⟩
      first|rw [← hy312] at H|(replace H:=(Option.bind_some _ _).symm.trans H;rw [← hy312] at H)
      have Ny312:=Z hy312
      clear hy312
      have H':=Z H
      clear H
      go_wp2_with (first|((with_reducible refine gate_callee (f:=60) rfl ?_);refine goesL_ (some 10) rfl rfl Try.func60 (by kernel_rfl) rfl #[.int .i64 a0,.int .i64 x5_1] rfl pG ?_;(with_reducible refine (nodeset_Has.calls a0 x5_1 true _ A3.out).mono ?_);rintro e w' ⟨rfl,⟨nd,rfl⟩⟩;refine ⟨_,rfl,?_⟩)|((with_reducible refine gate_builtin (b:=.append) (xs:=#[.tmp 11,.tmp 13]) rfl ?_);at_builtin;refine Kd.R_append (Kd.int .i64) (w0:=w) w.heap.size rfl (.tmp 11) (.tmp 13) 22 3 (.int .i64 0) 8 rfl Try.underlying22 info3 rfl (by decide) (by omega) u3 x3_1 x5_1 [.int .i64 x5_1] (fun _=>True) (fun _=>False) rfl rfl ?aP (fun _ hk=>hk.elim) ?aF ?aO ?aB ?aS ?aL ?_;(case aP=>exact rfl);(case aB=>exact pB);(case aF=>exact (fun _ _=>trivial));(case aO=>exact (pR HO_3));(case aS=>exact (below_size pB));(case aL=>have:=LMc5.out;omega);intro v313 w6 ho hb hg hat;rw [← Ny312.out] at ho;have n0_:=Z (hb);have n1_:=Z (ho);clear HB;clear HO_3;have HB:=n0_;have HO314:=n1_;clear n0_ n1_;clear ho hb hg hat))
      go_roundg k1
      case measure=>have:=HK1.out;omega
      case rel=>exact ⟨(y312),(wrap64 (x5_1+1)),pE,H',⟨by have:=HK1.out;omega⟩,⟨pR HO314⟩,⟨pB⟩⟩
     ·rw [if_neg c5] at H
      exact absurd H (by simp)
    ·replace c4:=Bool.eq_false_iff.mpr c4
     subst c4
     rw [if_neg (show ¬ (false=true) by decide)] at H
     have H':=Z H
     clear H
     go_wp2_with (first|((with_reducible refine gate_callee (f:=60) rfl ?_);refine goesL_ (some 10) rfl rfl Try.func60 (by kernel_rfl) rfl #[.int .i64 a0,.int .i64 x5_1] rfl pG ?_;(with_reducible refine (nodeset_Has.calls a0 x5_1 false _ A3.out).mono ?_);rintro e w' ⟨rfl,⟨nd,rfl⟩⟩;refine ⟨_,rfl,?_⟩))
     go_roundg k1
     case measure=>have:=HK1.out;omega
     case rel=>exact ⟨(x3_1),(wrap64 (x5_1+1)),pE,H',⟨by have:=HK1.out;omega⟩,⟨pR HO_3⟩,⟨pB⟩⟩
   ·rw [if_neg c2] at H
    have c2b0:decide (x5_1 < 10)=false:=decide_eq_false c2
    clear c2
    obtain rfl:=Option.some.inj H
    go_wp2
    go_ret
    exact ⟨_,pF,pR HO_3,pB⟩
end Go.Proofs.Ytkjlcbfjllpcnaa.X
namespace Go.Proofs.Ytkjlcbfjllpcnaa.X
open Go.RowKit Go.Proofs.YtkjlcbfjllpcnaaW.PrintWords Go.Proofs.YtkjlcbfjllpcnaaW.PrintLast Go.Proofs.YtkjlcbfjllpcnaaW.PrintMore
attribute [local go_sem] max2_int min2_int max_two min_two max_three min_three max_four min_four
set_option linter.unusedVariables false
set_option linter.unusedSimpArgs false
mutual
def threshold_Satisfied.l0:Nat→Int→Int→List Int→Int→Int→Int→List Int→List (S32)→Option (Bool)
 | 0,_,_,_,_,_,_,_,_=>none
 | k+1,x1,x5,x14,x15,x16,x237000,x237001,x237002=>if x16 < x15 then (if 0≤x16 then (if x16 < (x14.length:Int) then ((nodeset_Has.f x1 (rd x14 x16)).bind fun t239=>(if t239=true then (threshold_Satisfied.l0 k x1 (wrap64 (x5+1)) x14 x15 (wrap64 (x16+1)) x237000 x237001 x237002) else (threshold_Satisfied.l0 k x1 x5 x14 x15 (wrap64 (x16+1)) x237000 x237001 x237002))) else (none)) else (none)) else (threshold_Satisfied.l1 k x1 x5 x237002 (x237002.length:Int) 0 x237000 x237001 x237002)
def threshold_Satisfied.l1:Nat→Int→Int→List (S32)→Int→Int→Int→List Int→List (S32)→Option (Bool)
 | 0,_,_,_,_,_,_,_,_=>none
 | k+1,x1,x5,x27,x28,x29,x237000,x237001,x237002=>if x29 < x28 then (if 0≤x29 then (if x29 < (x27.length:Int) then ((threshold_Satisfied.f k ((rd_T32 x27 x29).f0) ((rd_T32 x27 x29).f1) ((rd_T32 x27 x29).f2) x1).bind fun t242=>(if t242=true then (threshold_Satisfied.l1 k x1 (wrap64 (x5+1)) x27 x28 (wrap64 (x29+1)) x237000 x237001 x237002) else (threshold_Satisfied.l1 k x1 x5 x27 x28 (wrap64 (x29+1)) x237000 x237001 x237002))) else (none)) else (none)) else (some (decide (x5 ≥ x237000)))
def threshold_Satisfied.f:Nat→Int→List Int→List (S32)→Int→Option (Bool)
 | 0,_,_,_,_=>none
 | k+1,a0_0,l0_1,l0_2,a1=>(nodeset_Valid.f a1).bind fun t237=>(if t237=true then (threshold_Satisfied.l0 k a1 0 l0_1 (l0_1.length:Int) 0 a0_0 l0_1 l0_2) else (some false))
end
set_option maxHeartbeats 8000000 in
set_option maxRecDepth 100000 in
theorem threshold_Satisfied.calls (k:Nat):∀ (a0_0:Int) (A0_1:Option Addr) (c0_1:Nat) (l0_1:List Int) (A0_2:Option Addr) (c0_2:Nat) (l0_2:List (S32)) (a1:Int) (r:Bool) (w:World) (hr0_1:Kd.C (Kd.int .i64) w A0_1 l0_1.length l0_1) (hc0_1:l0_1.length≤c0_1) (hr0_2:Kd.C k32 w A0_2 l0_2.length l0_2) (hc0_2:l0_2.length≤c0_2) (h:threshold_Satisfied.f k a0_0 l0_1 l0_2 a1=some r),
  Calls Try.prog 62 #[.agg #[.int .i64 a0_0,.slice A0_1 l0_1.length c0_1,.slice A0_2 l0_2.length c0_2],.int .i64 a1] w fun e w'=>e=.returned (.bool r)∧Below w.heap.size w w':=by
 induction k using Nat.strongRecOn with
 | _ k ih =>
 intro a0_0 A0_1 c0_1 l0_1 A0_2 c0_2 l0_2 a1 r w hr0_1 hc0_1 hr0_2 hc0_2 h
 cases k with
 | zero=>exact absurd h (by simp [threshold_Satisfied.f])
 | succ k =>
 simp only [threshold_Satisfied.f] at h
 have hu32:=Try.underlying32
 have HR0_1:=Z hr0_1
 have HC0_1:=Z hc0_1
 clear hr0_1 hc0_1
 have HR0_2:=Z hr0_2
 have HC0_2:=Z hc0_2
 clear hr0_2 hc0_2
 have HB:=Z (Below.refl w.heap.size w)
 have H:((nodeset_Valid.f a1).bind fun t237=>(if t237=true then (threshold_Satisfied.l0 k a1 0 l0_1 (l0_1.length:Int) 0 a0_0 l0_1 l0_2) else (some false)))=some r:=h
 clear h
 replace H:=Option.bind_eq_some_iff.mp H
 obtain ⟨t237,A30,H⟩:=H
 try dsimp only at H
 have A3:=Z A30
 clear A30
 by_cases c4:t237=true
 ·subst c4
  rw [if_pos rfl] at H
  have H':=Z H
  clear H
  go_enter Try.func62,Try.ntmps62
  go_wp2_with (first|((with_reducible refine gate_dst (N:=2) rfl ?_);refine box_event ?hg (N:=2) ?hd (cs:=#[.int .i64 a0_0,.slice A0_1 l0_1.length c0_1,.slice A0_2 l0_2.length c0_2]) (t:=32) ?hr ?_;(case hd=>rfl);(case hg=>rfl);(case hr=>first|(go_simp;done)|(go_simp;rfl));intro gb236 hg w5 hbox hb;have n0_:=Z (below_step pB hb);have n1_:=Z (hbox);have n2_:=Z ((pT hg:w.heap.size≤gb236));have n3_:=Z ((pT hg:w.heap.size≤gb236));clear HB;have HB:=n0_;have BK236:=n1_;have GW236:=n2_;have GE236:=n3_;clear n0_ n1_ n2_ n3_;clear hb hbox hg)|((with_reducible refine gate_callee (f:=59) rfl ?_);refine goesL_ (some 11) rfl rfl Try.func59 (by kernel_rfl) rfl #[.int .i64 a1] rfl pG ?_;(with_reducible refine (nodeset_Valid.calls a1 true _ A3.out).mono ?_);rintro e w' ⟨rfl,⟨nd,rfl⟩⟩;refine ⟨_,rfl,?_⟩;have hcz6_0:w5.cell? ⟨gb236,0,none⟩=some (.int .i64 a0_0):=(kC BK236.out 0).trans rfl;have hcz6_1:w5.cell? ⟨gb236,1,none⟩=some (.slice A0_1 l0_1.length c0_1):=(kC BK236.out 1).trans rfl;have hcz6_2:w5.cell? ⟨gb236,2,none⟩=some (.slice A0_2 l0_2.length c0_2):=(kC BK236.out 2).trans rfl;have hfz6_0:=kF BK236.out 0;have hfz6_1:=kF BK236.out 1;have hfz6_2:=kF BK236.out 2))
  go_loopg [5,16] k (fun kq v5 v16 w'=>∃ (x5_1:Int) (x16_1:Int),v5=.int .i64 x5_1∧v16=.int .i64 x16_1∧Aside0 (threshold_Satisfied.l0 kq a1 x5_1 l0_1 (l0_1.length:Int) x16_1 a0_0 l0_1 l0_2=some r)∧Aside0 (kq≤k)∧Aside0 (w'.heap[gb236]?=some (.cells #[.int .i64 a0_0,(.slice A0_1 l0_1.length c0_1),(.slice A0_2 l0_2.length c0_2)] 32 (0,0)))∧Aside0 (Below w.heap.size w w'))
  case atStart=>exact ⟨(0),(0),pE,pE,H',⟨Nat.le_refl _⟩,⟨pK BK236⟩,⟨pB⟩⟩
  case round =>
   clear H'
   try clear p2
   try clear c4
   try clear c5
   try clear c6
   try clear hcz6_0
   try clear hcz6_1
   try clear hcz6_2
   try clear hfz6_0
   try clear hfz6_1
   try clear hfz6_2
   obtain ⟨x5_1,x16_1,rfl,rfl,HA,HK1,BK236,HB⟩:=hrel
   cases gk with
   | zero=>exact absurd HA.out (by simp [threshold_Satisfied.l0])
   | succ k1 =>
    have H:=HA.out
    clear HA
    simp only [threshold_Satisfied.l0] at H
    by_cases c7:x16_1 < (l0_1.length:Int)
    ·rw [if_pos c7] at H
     have c7b0:decide (x16_1 < (l0_1.length:Int))=true:=decide_eq_true c7
     clear c7
     by_cases c8:0≤x16_1
     ·rw [if_pos c8] at H
      have c8b0:decide (0≤x16_1)=true:=decide_eq_true c8
      clear c8
      by_cases c9:x16_1 < (l0_1.length:Int)
      ·rw [if_pos c9] at H
       have c9b0:decide (x16_1 < (l0_1.length:Int))=true:=decide_eq_true c9
       clear c9
       replace H:=Option.bind_eq_some_iff.mp H
       obtain ⟨t239,A100,H⟩:=H
       try dsimp only at H
       have A10:=Z A100
       clear A100
       by_cases c11:t239=true
       ·subst c11
        rw [if_pos rfl] at H
        have H':=Z H
        clear H
        have p238:0≤(x16_1:Int):=of_decide_eq_true (by first|(with_reducible assumption)|assumption)
        have q238:x16_1 < (l0_1.length:Int):=of_decide_eq_true (by first|(with_reducible assumption)|assumption)
        obtain ⟨ad238,e238,hx238_0⟩:=Kd.at_int HR0_1.out x16_1 p238 q238
        cases e238
        replace hx238_0:=(HB.out.cell (World.block_lt_of_cell? w _ hx238_0)).trans hx238_0
        replace p238:=eq_true p238
        replace q238:=eq_true q238
        go_wp2_with (first|((with_reducible refine gate_callee (f:=60) rfl ?_);refine goesL_ (some 22) rfl rfl Try.func60 (by kernel_rfl) rfl #[.int .i64 a1,.int .i64 (rd l0_1 x16_1)] rfl pG ?_;(with_reducible refine (nodeset_Has.calls a1 (rd l0_1 x16_1) true _ A10.out).mono ?_);rintro e w' ⟨rfl,⟨nd,rfl⟩⟩;refine ⟨_,rfl,?_⟩))
        go_roundg k1
        case measure=>have:=HK1.out;omega
        case rel=>exact ⟨(wrap64 (x5_1+1)),(wrap64 (x16_1+1)),pE,pE,H',⟨by have:=HK1.out;omega⟩,⟨pK BK236⟩,⟨pB⟩⟩
       ·replace c11:=Bool.eq_false_iff.mpr c11
        subst c11
        rw [if_neg (show ¬ (false=true) by decide)] at H
        have H':=Z H
        clear H
        have p238:0≤(x16_1:Int):=of_decide_eq_true (by first|(with_reducible assumption)|assumption)
        have q238:x16_1 < (l0_1.length:Int):=of_decide_eq_true (by first|(with_reducible assumption)|assumption)
        obtain ⟨ad238,e238,hx238_0⟩:=Kd.at_int HR0_1.out x16_1 p238 q238
        cases e238
        replace hx238_0:=(HB.out.cell (World.block_lt_of_cell? w _ hx238_0)).trans hx238_0
        replace p238:=eq_true p238
        replace q238:=eq_true q238
        go_wp2_with (first|((with_reducible refine gate_callee (f:=60) rfl ?_);refine goesL_ (some 22) rfl rfl Try.func60 (by kernel_rfl) rfl #[.int .i64 a1,.int .i64 (rd l0_1 x16_1)] rfl pG ?_;(with_reducible refine (nodeset_Has.calls a1 (rd l0_1 x16_1) false _ A10.out).mono ?_);rintro e w' ⟨rfl,⟨nd,rfl⟩⟩;refine ⟨_,rfl,?_⟩))
        go_roundg k1
        case measure=>have:=HK1.out;omega
        case rel=>exact ⟨(x5_1),(wrap64 (x16_1+1)),pE,pE,H',⟨by have:=HK1.out;omega⟩,⟨pK BK236⟩,⟨pB⟩⟩
      ·rw [if_neg c9] at H
       exact absurd H (by simp)
     ·rw [if_neg c8] at H
      exact absurd H (by simp)
    ·rw [if_neg c7] at H
     have c7b0:decide (x16_1 < (l0_1.length:Int))=false:=decide_eq_false c7
     clear c7
     have H':=Z H
     clear H
     have hcz12_0:wr.cell? ⟨gb236,0,none⟩=some (.int .i64 a0_0):=(kC BK236.out 0).trans rfl
     have hcz12_1:wr.cell? ⟨gb236,1,none⟩=some (.slice A0_1 l0_1.length c0_1):=(kC BK236.out 1).trans rfl
     have hcz12_2:wr.cell? ⟨gb236,2,none⟩=some (.slice A0_2 l0_2.length c0_2):=(kC BK236.out 2).trans rfl
     have hfz12_0:=kF BK236.out 0
     have hfz12_1:=kF BK236.out 1
     have hfz12_2:=kF BK236.out 2
     go_wp2
     go_loopg [5,29] k1 (fun kq v5 v29 w'=>∃ (x5_2:Int) (x29_2:Int),v5=.int .i64 x5_2∧v29=.int .i64 x29_2∧Aside0 (threshold_Satisfied.l1 kq a1 x5_2 l0_2 (l0_2.length:Int) x29_2 a0_0 l0_1 l0_2=some r)∧Aside0 (kq≤k1)∧Aside0 (w'.heap[gb236]?=some (.cells #[.int .i64 a0_0,(.slice A0_1 l0_1.length c0_1),(.slice A0_2 l0_2.length c0_2)] 32 (0,0)))∧Aside0 (Below w.heap.size w w'))
     case atStart=>exact ⟨(x5_1),(0),pE,pE,H',⟨Nat.le_refl _⟩,⟨pK BK236⟩,⟨pB⟩⟩
     case round =>
      clear H'
      try clear c1
      try clear p2
      try clear q2
      try clear hx2
      try clear c4
      try clear c5
      try clear c6
      try clear p6
      try clear c7
      try clear c7b0
      try clear c8
      try clear c8b0
      try clear c9
      try clear c9b0
      try clear c11
      try clear hcz12_0
      try clear hcz12_1
      try clear hcz12_2
      try clear hcz6_0
      try clear hcz6_1
      try clear hcz6_2
      try clear hfz12_0
      try clear hfz12_1
      try clear hfz12_2
      try clear hfz6_0
      try clear hfz6_1
      try clear hfz6_2
      try clear hx238_0
      try clear p238
      try clear q238
      obtain ⟨x5_2,x29_2,rfl,rfl,HA,HK2,BK236,HB⟩:=hrel
      cases gk with
      | zero=>exact absurd HA.out (by simp [threshold_Satisfied.l1])
      | succ k2 =>
       have H:=HA.out
       clear HA
       simp only [threshold_Satisfied.l1] at H
       by_cases c13:x29_2 < (l0_2.length:Int)
       ·rw [if_pos c13] at H
        have c13b0:decide (x29_2 < (l0_2.length:Int))=true:=decide_eq_true c13
        clear c13
        by_cases c14:0≤x29_2
        ·rw [if_pos c14] at H
         have c14b0:decide (0≤x29_2)=true:=decide_eq_true c14
         clear c14
         by_cases c15:x29_2 < (l0_2.length:Int)
         ·rw [if_pos c15] at H
          have c15b0:decide (x29_2 < (l0_2.length:Int))=true:=decide_eq_true c15
          clear c15
          replace H:=Option.bind_eq_some_iff.mp H
          obtain ⟨t242,A160,H⟩:=H
          try dsimp only at H
          have A16:=Z A160
          clear A160
          by_cases c17:t242=true
          ·subst c17
           rw [if_pos rfl] at H
           have H':=Z H
           clear H
           have p240:0≤(x29_2:Int):=of_decide_eq_true (by first|(with_reducible assumption)|assumption)
           have q240:x29_2 < (l0_2.length:Int):=of_decide_eq_true (by first|(with_reducible assumption)|assumption)
           obtain ⟨ad240,A240_1,c240_1,A240_2,c240_2,e240,hx240_0,hx240_1,hx240_2,hl240_1,hi240_1,hl240_2,hi240_2⟩:=at_T32 HR0_2.out x29_2 p240 q240
           cases e240
           replace hx240_0:=(HB.out.cell (World.block_lt_of_cell? w _ hx240_0)).trans hx240_0
           replace hx240_1:=(HB.out.cell (World.block_lt_of_cell? w _ hx240_1)).trans hx240_1
           replace hx240_2:=(HB.out.cell (World.block_lt_of_cell? w _ hx240_2)).trans hx240_2
           have HR240_1:=Z hi240_1
           have HC240_1:=Z hl240_1
           clear hi240_1 hl240_1
           have HR240_2:=Z hi240_2
           have HC240_2:=Z hl240_2
           clear hi240_2 hl240_2
           replace p240:=eq_true p240
           replace q240:=eq_true q240
           go_wp2_with (first|((with_reducible refine gate_dst (N:=9) rfl ?_);refine box_event ?hg (N:=9) ?hd (cs:=#[.int .i64 0,.slice none 0 0,.slice none 0 0]) (t:=32) ?hr ?_;(case hd=>rfl);(case hg=>rfl);(case hr=>first|(go_simp;done)|(go_simp;rfl));intro gb241 hg w18 hbox hb;have n0_:=Z (blk_below (g:=gb236) (o:=.cells #[.int .i64 a0_0,.slice A0_1 l0_1.length c0_1,.slice (some ad240) l0_2.length c0_2] 32 (0,0)) (pK BK236) hb);have n1_:=Z (below_step pB hb);have n2_:=Z (hbox);have n3_:=Z ((pT hg:w.heap.size≤gb241));have n4_:=Z ((pT hg:w.heap.size≤gb241));have n5_:=Z ((pL hg (pK BK236):gb236 ≠ gb241));have n6_:=Z ((pM hg (pK BK236):gb241 ≠ gb236));clear BK236;clear HB;have BK236:=n0_;have HB:=n1_;have BK241:=n2_;have GW241:=n3_;have GE241:=n4_;have NB236_241:=n5_;have NB241_236:=n6_;clear n0_ n1_ n2_ n3_ n4_ n5_ n6_;clear hb hbox hg;have hnb19:=NB241_236.out;have hnc19:=NB236_241.out;have hcz20_0:w18.cell? ⟨gb241,0,none⟩=some (.int .i64 0):=(kC BK241.out 0).trans rfl;have hcz20_1:w18.cell? ⟨gb241,1,none⟩=some (.slice none 0 0):=(kC BK241.out 1).trans rfl;have hcz20_2:w18.cell? ⟨gb241,2,none⟩=some (.slice none 0 0):=(kC BK241.out 2).trans rfl;have hfz20_0:=kF BK241.out 0;have hfz20_1:=kF BK241.out 1;have hfz20_2:=kF BK241.out 2)|((with_reducible refine gate_callee (f:=62) rfl ?_);refine goesL_ (some 35) rfl rfl Try.func62 (by kernel_rfl) rfl #[.agg #[.int .i64 ((rd_T32 l0_2 x29_2).f0),.slice A240_1 ((rd_T32 l0_2 x29_2).f1).length c240_1,.slice A240_2 ((rd_T32 l0_2 x29_2).f2).length c240_2],.int .i64 a1] rfl pG ?_;(with_reducible refine (ih k2 (by have:=HK1.out;have:=HK2.out;omega) ((rd_T32 l0_2 x29_2).f0) _ _ ((rd_T32 l0_2 x29_2).f1) _ _ ((rd_T32 l0_2 x29_2).f2) a1 true _ ?side1 ?side2 ?side3 ?side4 A16.out).mono ?_);(case side1=>exact Kd.C_below HR240_1.out pB);(case side2=>exact HC240_1.out);(case side3=>exact Kd.C_below HR240_2.out pB);(case side4=>exact HC240_2.out);rintro e w21 ⟨rfl,hb⟩;refine ⟨_,rfl,?_⟩;have n0_:=Z (blk_below (g:=gb236) (o:=.cells #[.int .i64 a0_0,.slice A0_1 l0_1.length c0_1,.slice (some ad240) l0_2.length c0_2] 32 (0,0)) (by (with_reducible repeat (first|refine kN ?_ _|refine kD ?_|refine kA ?_ _));refine blk_far ?_ NB236_241.out _;(with_reducible repeat (first|refine kN ?_ _|refine kD ?_|refine kA ?_ _));refine blk_far ?_ NB236_241.out _;(with_reducible repeat (first|refine kN ?_ _|refine kD ?_|refine kA ?_ _));refine blk_far ?_ NB236_241.out _;(with_reducible repeat (first|refine kN ?_ _|refine kD ?_|refine kA ?_ _));exact BK236.out) hb);have n1_:=Z (blk_below (g:=gb241) (o:=.cells #[.int .i64 ((rd_T32 l0_2 x29_2).f0),.slice A240_1 ((rd_T32 l0_2 x29_2).f1).length c240_1,.slice A240_2 ((rd_T32 l0_2 x29_2).f2).length c240_2] 32 (0,0)) (by (with_reducible repeat (first|refine kN ?_ _|refine kD ?_|refine kA ?_ _));refine blk_put (cs:=#[.int .i64 ((rd_T32 l0_2 x29_2).f0),.slice A240_1 ((rd_T32 l0_2 x29_2).f1).length c240_1,.slice none 0 0]) ?_ 2 _ rfl;(with_reducible repeat (first|refine kN ?_ _|refine kD ?_|refine kA ?_ _));refine blk_put (cs:=#[.int .i64 ((rd_T32 l0_2 x29_2).f0),.slice none 0 0,.slice none 0 0]) ?_ 1 _ rfl;(with_reducible repeat (first|refine kN ?_ _|refine kD ?_|refine kA ?_ _));refine blk_put (cs:=#[.int .i64 0,.slice none 0 0,.slice none 0 0]) ?_ 0 _ rfl;(with_reducible repeat (first|refine kN ?_ _|refine kD ?_|refine kA ?_ _));exact BK241.out) hb);have n2_:=Z (below_step pB hb);clear BK236;clear BK241;clear HB;have BK236:=n0_;have BK241:=n1_;have HB:=n2_;clear n0_ n1_ n2_;(try clear hb);(try clear hb2);(try clear hk);(try clear hi)))
           go_roundg k2
           case measure=>have:=HK1.out;have:=HK2.out;omega
           case rel=>exact ⟨(wrap64 (x5_2+1)),(wrap64 (x29_2+1)),pE,pE,H',⟨by have:=HK1.out;have:=HK2.out;omega⟩,⟨pK BK236⟩,⟨pB⟩⟩
          ·replace c17:=Bool.eq_false_iff.mpr c17
           subst c17
           rw [if_neg (show ¬ (false=true) by decide)] at H
           have H':=Z H
           clear H
           have p240:0≤(x29_2:Int):=of_decide_eq_true (by first|(with_reducible assumption)|assumption)
           have q240:x29_2 < (l0_2.length:Int):=of_decide_eq_true (by first|(with_reducible assumption)|assumption)
           obtain ⟨ad240,A240_1,c240_1,A240_2,c240_2,e240,hx240_0,hx240_1,hx240_2,hl240_1,hi240_1,hl240_2,hi240_2⟩:=at_T32 HR0_2.out x29_2 p240 q240
           cases e240
           replace hx240_0:=(HB.out.cell (World.block_lt_of_cell? w _ hx240_0)).trans hx240_0
           replace hx240_1:=(HB.out.cell (World.block_lt_of_cell? w _ hx240_1)).trans hx240_1
           replace hx240_2:=(HB.out.cell (World.block_lt_of_cell? w _ hx240_2)).trans hx240_2
           have HR240_1:=Z hi240_1
           have HC240_1:=Z hl240_1
           clear hi240_1 hl240_1
           have HR240_2:=Z hi240_2
           have HC240_2:=Z hl240_2
           clear hi240_2 hl240_2
           replace p240:=eq_true p240
           replace q240:=eq_true q240
           go_wp2_with (first|((with_reducible refine gate_dst (N:=9) rfl ?_);refine box_event ?hg (N:=9) ?hd (cs:=#[.int .i64 0,.slice none 0 0,.slice none 0 0]) (t:=32) ?hr ?_;(case hd=>rfl);(case hg=>rfl);(case hr=>first|(go_simp;done)|(go_simp;rfl));intro gb241 hg w22 hbox hb;have n0_:=Z (blk_below (g:=gb236) (o:=.cells #[.int .i64 a0_0,.slice A0_1 l0_1.length c0_1,.slice (some ad240) l0_2.length c0_2] 32 (0,0)) (pK BK236) hb);have n1_:=Z (below_step pB hb);have n2_:=Z (hbox);have n3_:=Z ((pT hg:w.heap.size≤gb241));have n4_:=Z ((pT hg:w.heap.size≤gb241));have n5_:=Z ((pL hg (pK BK236):gb236 ≠ gb241));have n6_:=Z ((pM hg (pK BK236):gb241 ≠ gb236));clear BK236;clear HB;have BK236:=n0_;have HB:=n1_;have BK241:=n2_;have GW241:=n3_;have GE241:=n4_;have NB236_241:=n5_;have NB241_236:=n6_;clear n0_ n1_ n2_ n3_ n4_ n5_ n6_;clear hb hbox hg;have hnb23:=NB241_236.out;have hnc23:=NB236_241.out;have hcz24_0:w22.cell? ⟨gb241,0,none⟩=some (.int .i64 0):=(kC BK241.out 0).trans rfl;have hcz24_1:w22.cell? ⟨gb241,1,none⟩=some (.slice none 0 0):=(kC BK241.out 1).trans rfl;have hcz24_2:w22.cell? ⟨gb241,2,none⟩=some (.slice none 0 0):=(kC BK241.out 2).trans rfl;have hfz24_0:=kF BK241.out 0;have hfz24_1:=kF BK241.out 1;have hfz24_2:=kF BK241.out 2)|((with_reducible refine gate_callee (f:=62) rfl ?_);refine goesL_ (some 35) rfl rfl Try.func62 (by kernel_rfl) rfl #[.agg #[.int .i64 ((rd_T32 l0_2 x29_2).f0),.slice A240_1 ((rd_T32 l0_2 x29_2).f1).length c240_1,.slice A240_2 ((rd_T32 l0_2 x29_2).f2).length c240_2],.int .i64 a1] rfl pG ?_;(with_reducible refine (ih k2 (by have:=HK1.out;have:=HK2.out;omega) ((rd_T32 l0_2 x29_2).f0) _ _ ((rd_T32 l0_2 x29_2).f1) _ _ ((rd_T32 l0_2 x29_2).f2) a1 false _ ?side1 ?side2 ?side3 ?side4 A16.out).mono ?_);(case side1=>exact Kd.C_below HR240_1.out pB);(case side2=>exact HC240_1.out);(case side3=>exact Kd.C_below HR240_2.out pB);(case side4=>exact HC240_2.out);rintro e w25 ⟨rfl,hb⟩;refine ⟨_,rfl,?_⟩;have n0_:=Z (blk_below (g:=gb236) (o:=.cells #[.int .i64 a0_0,.slice A0_1 l0_1.length c0_1,.slice (some ad240) l0_2.length c0_2] 32 (0,0)) (by (with_reducible repeat (first|refine kN ?_ _|refine kD ?_|refine kA ?_ _));refine blk_far ?_ NB236_241.out _;(with_reducible repeat (first|refine kN ?_ _|refine kD ?_|refine kA ?_ _));refine blk_far ?_ NB236_241.out _;(with_reducible repeat (first|refine kN ?_ _|refine kD ?_|refine kA ?_ _));refine blk_far ?_ NB236_241.out _;(with_reducible repeat (first|refine kN ?_ _|refine kD ?_|refine kA ?_ _));exact BK236.out) hb);have n1_:=Z (blk_below (g:=gb241) (o:=.cells #[.int .i64 ((rd_T32 l0_2 x29_2).f0),.slice A240_1 ((rd_T32 l0_2 x29_2).f1).length c240_1,.slice A240_2 ((rd_T32 l0_2 x29_2).f2).length c240_2] 32 (0,0)) (by (with_reducible repeat (first|refine kN ?_ _|refine kD ?_|refine kA ?_ _));refine blk_put (cs:=#[.int .i64 ((rd_T32 l0_2 x29_2).f0),.slice A240_1 ((rd_T32 l0_2 x29_2).f1).length c240_1,.slice none 0 0]) ?_ 2 _ rfl;(with_reducible repeat (first|refine kN ?_ _|refine kD ?_|refine kA ?_ _));refine blk_put (cs:=#[.int .i64 ((rd_T32 l0_2 x29_2).f0),.slice none 0 0,.slice none 0 0]) ?_ 1 _ rfl;(with_reducible repeat (first|refine kN ?_ _|refine kD ?_|refine kA ?_ _));refine blk_put (cs:=#[.int .i64 0,.slice none 0 0,.slice none 0 0]) ?_ 0 _ rfl;(with_reducible repeat (first|refine kN ?_ _|refine kD ?_|refine kA ?_ _));exact BK241.out) hb);have n2_:=Z (below_step pB hb);clear BK236;clear BK241;clear HB;have BK236:=n0_;have BK241:=n1_;have HB:=n2_;clear n0_ n1_ n2_;(try clear hb);(try clear hb2);(try clear hk);(try clear hi)))
           go_roundg k2
           case measure=>have:=HK1.out;have:=HK2.out;omega
           case rel=>exact ⟨(x5_2),(wrap64 (x29_2+1)),pE,pE,H',⟨by have:=HK1.out;have:=HK2.out;omega⟩,⟨pK BK236⟩,⟨pB⟩⟩
         ·rw [if_neg c15] at H
          exact absurd H (by simp)
        ·rw [if_neg c14] at H
         exact absurd H (by simp)
       ·rw [if_neg c13] at H
        have c13b0:decide (x29_2 < (l0_2.length:Int))=false:=decide_eq_false c13
        clear c13
        obtain rfl:=Option.some.inj H
        have hcz26_0:wr.cell? ⟨gb236,0,none⟩=some (.int .i64 a0_0):=(kC BK236.out 0).trans rfl
        have hcz26_1:wr.cell? ⟨gb236,1,none⟩=some (.slice A0_1 l0_1.length c0_1):=(kC BK236.out 1).trans rfl
        have hcz26_2:wr.cell? ⟨gb236,2,none⟩=some (.slice A0_2 l0_2.length c0_2):=(kC BK236.out 2).trans rfl
        have hfz26_0:=kF BK236.out 0
        have hfz26_1:=kF BK236.out 1
        have hfz26_2:=kF BK236.out 2
        go_wp2
        go_ret
        exact ⟨pF,pB⟩
 ·replace c4:=Bool.eq_false_iff.mpr c4
  subst c4
  rw [if_neg (show ¬ (false=true) by decide)] at H
  obtain rfl:=Option.some.inj H
  go_enter Try.func62,Try.ntmps62
  go_wp2_with (first|((with_reducible refine gate_dst (N:=2) rfl ?_);refine box_event ?hg (N:=2) ?hd (cs:=#[.int .i64 a0_0,.slice A0_1 l0_1.length c0_1,.slice A0_2 l0_2.length c0_2]) (t:=32) ?hr ?_;(case hd=>rfl);(case hg=>rfl);(case hr=>first|(go_simp;done)|(go_simp;rfl));intro gb236 hg w27 hbox hb;have n0_:=Z (below_step pB hb);have n1_:=Z (hbox);have n2_:=Z ((pT hg:w.heap.size≤gb236));have n3_:=Z ((pT hg:w.heap.size≤gb236));clear HB;have HB:=n0_;have BK236:=n1_;have GW236:=n2_;have GE236:=n3_;clear n0_ n1_ n2_ n3_;clear hb hbox hg)|((with_reducible refine gate_callee (f:=59) rfl ?_);refine goesL_ (some 11) rfl rfl Try.func59 (by kernel_rfl) rfl #[.int .i64 a1] rfl pG ?_;(with_reducible refine (nodeset_Valid.calls a1 false _ A3.out).mono ?_);rintro e w' ⟨rfl,⟨nd,rfl⟩⟩;refine ⟨_,rfl,?_⟩))
  go_ret
  exact ⟨pF,pB⟩
end Go.Proofs.Ytkjlcbfjllpcnaa.X
