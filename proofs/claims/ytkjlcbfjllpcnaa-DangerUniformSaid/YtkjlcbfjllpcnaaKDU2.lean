/- Proof of the statement DangerUniform: part 2 of 6, what it computes and why that answers true. -/
import Derived.Test.YtkjlcbfjllpcnaaKDU1
import Derived.Test.YtkjlcbfjllpcnaaProg
import Derived.Below
import Derived.Deep.Draws
import Derived.Deep.AppendLies
import Derived.Maps.AppendAt
import Derived.OwnWalk
import Derived.Laws.BytesArg
import Derived.Laws.MakeOwn
import Derived.Laws.OwnMore
import Derived.Deep.OwnRows
import Derived.Tactics
import Derived.Lib.ConvBytes
import Derived.Laws.Slices
import Derived.WalkKit
import Derived.KernelRfl
import Derived.RowKit3
import Derived.Deep.LoopGhost
import Derived.Deep.QuietTactic
import Derived.BigQuiet
import Derived.WideLaws
import Derived.Deep.DeepCutAuto
import Derived.Deep.CutBlock
import Derived.Deep.RegionHeld3
import Derived.Laws.Rows
import Derived.Lib.AppendStr
import Derived.ArgAppend
import Derived.Laws.IdiomCopy
import Derived.OrdersHeld
import Derived.Laws.BitsLemmas
import Derived.RowKit
import Derived.Deep.RegionLaw
set_option linter.unusedVariables false
set_option linter.unusedSimpArgs false
namespace Go.Proofs.Ytkjlcbfjllpcnaa.X
open Go.RowKit Go.Proofs.YtkjlcbfjllpcnaaW.PrintWords Go.Proofs.YtkjlcbfjllpcnaaW.PrintLast Go.Proofs.YtkjlcbfjllpcnaaW.PrintMore
attribute [local go_sem] max2_int min2_int max_two min_two max_three min_three max_four min_four
set_option linter.unusedVariables false
set_option linter.unusedSimpArgs false
def errW:Option Int→Value
 | none=>.nilIface
 | some c=>.iface 0 (.int .i64 c)
theorem errW_none:errW none=.nilIface:=rfl
theorem errW_some (c:Int):errW (some c)=.iface 0 (.int .i64 c):=rfl
theorem info3:(Try.prog.info? 3).map (fun i=>(i.zero,i.size,i.bytes))=some (some (.int .i64 0),1,8):=by kernel_rfl
theorem info32:(Try.prog.info? 32).map (fun i=>(i.zero,i.size,i.bytes))=some (some (.agg #[(.int .i64 0),(.slice none 0 0),(.slice none 0 0)]),3,56):=by kernel_rfl
theorem info34:(Try.prog.info? 34).map (fun i=>(i.zero,i.size,i.bytes))=some (some (.agg #[(.bool false),(.int .i64 0),(.slice none 0 0),(.slice none 0 0)]),4,64):=by kernel_rfl
structure S32 where
 f0:Int
 f1:(List Int)
 f2:(List S32)
def z32:S32:=⟨(0:Int),([]:List Int),([]:List S32)⟩
def F32 (d:Kd S32):Kd S32:=Kd.iso (Kd.pair (Kd.int .i64) (Kd.pair (Kd.slice 3 (Kd.int .i64)) (Kd.slice 32 d))) (fun x:S32=>(x.f0,x.f1,x.f2))
theorem mono32:Kd.Mono F32:=Kd.mono_iso _ (Kd.mono_pair (Kd.mono_const _) (Kd.mono_pair (Kd.mono_const _) (Kd.mono_slice 32 Kd.mono_id)))
theorem sub32:Kd.Sub F32 [3,32]:=Kd.sub_iso _ (Kd.sub_pair (Kd.sub_const _ (by decide)) (Kd.sub_pair (Kd.sub_const _ (by decide)) (Kd.sub_slice 32 (by decide) Kd.sub_id)))
theorem sz32:∀ n,(Kd.upto F32 3 [3,32] n).sz=3:=Kd.upto_sz (fun _=>rfl)
def k32:Kd S32:=Kd.fix F32 3 [3,32] sz32 (Kd.upto_E sub32)
theorem k32_open {w:World} {x:S32} {cs:List Value} (h:k32.K w x cs):∃ A1 c1 A2 c2,cs=[.int .i64 x.f0,.slice A1 x.f1.length c1,.slice A2 x.f2.length c2]∧x.f1.length≤c1∧(Kd.int .i64).C w A1 x.f1.length x.f1∧x.f2.length≤c2∧k32.C w A2 x.f2.length x.f2:=by
 obtain ⟨n,h⟩:=h
 cases n with
 | zero=>exact h.elim
 | succ n =>
  obtain ⟨_,_,rfl,rfl,⟨_,_,rfl,⟨A1,c1,rfl,l1,g1⟩,⟨A2,c2,rfl,l2,g2⟩⟩⟩:=h
  exact ⟨A1,c1,A2,c2,rfl,l1,g1,l2,Kd.fix_C g2⟩
theorem k32_mkM (w:World) (base:Nat) (ok:Nat→Prop) (x:S32) {v1:Value} (g1:(Kd.int .i64).R 3 w base ok v1 x.f1) {v2:Value} (g2:k32.R 32 w base ok v2 x.f2):k32.M w base ok x [.int .i64 x.f0,v1,v2]:=by
 obtain ⟨n2,q2⟩:=Kd.fix_R_back mono32 g2
 have r2:=Kd.upto_R_le mono32 sz32 (show n2≤n2 by omega) q2
 exact ⟨n2+1,⟨[.int .i64 x.f0],[v1,v2],rfl,rfl,⟨[v1],[v2],rfl,⟨v1,rfl,g1⟩,⟨v2,rfl,r2⟩⟩⟩⟩
def rd_T32 (xs:List S32) (i:Int):S32:=xs.getD i.toNat z32
theorem at_T32 {w:World} {A:Option Addr} {n:Nat} {xs:List S32} (h:Kd.C k32 w A n xs) (i:Int) (h0:0≤i) (h1:i < n):∃ ad A1 c1 A2 c2,A=some ad∧w.cell? (ad.add (i.toNat * 3))=some (.int .i64 (rd_T32 xs i).f0)∧w.cell? ⟨(ad.add (i.toNat * 3)).block,(ad.add (i.toNat * 3)).off+1,none⟩=some (.slice A1 (rd_T32 xs i).f1.length c1)∧w.cell? ⟨(ad.add (i.toNat * 3)).block,(ad.add (i.toNat * 3)).off+2,none⟩=some (.slice A2 (rd_T32 xs i).f2.length c2)∧(rd_T32 xs i).f1.length≤c1∧(Kd.int .i64).C w A1 (rd_T32 xs i).f1.length (rd_T32 xs i).f1∧(rd_T32 xs i).f2.length≤c2∧k32.C w A2 (rd_T32 xs i).f2.length (rd_T32 xs i).f2:=by
 obtain ⟨ad,c,e,_,hK,hc0⟩:=Kd.C_get h z32 i h0 h1
 have hc:∀ j u,c[j]?=some u→w.cell? (ad.add (i.toNat * 3+j))=some u:=hc0
 obtain ⟨A1,c1,A2,c2,rfl,l1,g1,l2,g2⟩:=k32_open hK
 exact ⟨ad,A1,c1,A2,c2,e,hc 0 _ rfl,by rw [← add_field _ _ 1 (by omega)];exact hc 1 _ rfl,by rw [← add_field _ _ 2 (by omega)];exact hc 2 _ rfl,l1,g1,l2,g2⟩
structure S34 where
 f0:Bool
 f1:S32
def z34:S34:=⟨false,z32⟩
def k34:Kd S34:=Kd.iso (Kd.pair Kd.bool k32) (fun x:S34=>(x.f0,x.f1))
theorem k34_open {w:World} {x:S34} {cs:List Value} (h:k34.K w x cs):∃ A2 c2 A3 c3,cs=[.bool x.f0,.int .i64 x.f1.f0,.slice A2 x.f1.f1.length c2,.slice A3 x.f1.f2.length c3]∧x.f1.f1.length≤c2∧(Kd.int .i64).C w A2 x.f1.f1.length x.f1.f1∧x.f1.f2.length≤c3∧k32.C w A3 x.f1.f2.length x.f1.f2:=by
 obtain ⟨_,_,rfl,rfl,s1⟩:=h
 obtain ⟨A2,c2,A3,c3,rfl,l2,g2,l3,g3⟩:=k32_open s1
 exact ⟨A2,c2,A3,c3,rfl,l2,g2,l3,g3⟩
theorem k34_mkM (w:World) (base:Nat) (ok:Nat→Prop) (x:S34) {v2:Value} (g2:(Kd.int .i64).R 3 w base ok v2 x.f1.f1) {v3:Value} (g3:k32.R 32 w base ok v3 x.f1.f2):k34.M w base ok x [.bool x.f0,.int .i64 x.f1.f0,v2,v3]:=⟨[.bool x.f0],[.int .i64 x.f1.f0,v2,v3],rfl,rfl,(k32_mkM w base ok x.f1 g2 g3)⟩
def rd_T34 (xs:List S34) (i:Int):S34:=xs.getD i.toNat z34
theorem at_T34 {w:World} {A:Option Addr} {n:Nat} {xs:List S34} (h:Kd.C k34 w A n xs) (i:Int) (h0:0≤i) (h1:i < n):∃ ad A2 c2 A3 c3,A=some ad∧w.cell? (ad.add (i.toNat * 4))=some (.bool (rd_T34 xs i).f0)∧w.cell? ⟨(ad.add (i.toNat * 4)).block,(ad.add (i.toNat * 4)).off+1,none⟩=some (.int .i64 (rd_T34 xs i).f1.f0)∧w.cell? ⟨(ad.add (i.toNat * 4)).block,(ad.add (i.toNat * 4)).off+2,none⟩=some (.slice A2 (rd_T34 xs i).f1.f1.length c2)∧w.cell? ⟨(ad.add (i.toNat * 4)).block,(ad.add (i.toNat * 4)).off+3,none⟩=some (.slice A3 (rd_T34 xs i).f1.f2.length c3)∧(rd_T34 xs i).f1.f1.length≤c2∧(Kd.int .i64).C w A2 (rd_T34 xs i).f1.f1.length (rd_T34 xs i).f1.f1∧(rd_T34 xs i).f1.f2.length≤c3∧k32.C w A3 (rd_T34 xs i).f1.f2.length (rd_T34 xs i).f1.f2:=by
 obtain ⟨ad,c,e,_,hK,hc0⟩:=Kd.C_get h z34 i h0 h1
 have hc:∀ j u,c[j]?=some u→w.cell? (ad.add (i.toNat * 4+j))=some u:=hc0
 obtain ⟨A2,c2,A3,c3,rfl,l2,g2,l3,g3⟩:=k34_open hK
 exact ⟨ad,A2,c2,A3,c3,e,hc 0 _ rfl,by rw [← add_field _ _ 1 (by omega)];exact hc 1 _ rfl,by rw [← add_field _ _ 2 (by omega)];exact hc 2 _ rfl,by rw [← add_field _ _ 3 (by omega)];exact hc 3 _ rfl,l2,g2,l3,g3⟩
structure S27 where
 f0:(List S34)
def IsS71 (w0 W:World) (g:Nat) (f0:List Int) (f1:Int):Prop:=∃ A0 c0,W.heap[g]?=some (.cells #[.slice A0 f0.length c0,.int .i64 f1] 71 (0,0))∧w0.heap.size≤g∧Kd.C (Kd.int .i64) w0 A0 f0.length f0
theorem IsS71.grown {w0 W:World} {g:Nat} {f0:List Int} {f1:Int} {W1:World} {row:Option Nat} (h:IsS71 w0 W g f0 f1) (hw:W.grownBy W1 row) (hne:some g ≠ row):IsS71 w0 W1 g f0 f1:=by
 obtain ⟨A0,c0,hb,hg,hr0⟩:=h
 exact ⟨A0,c0,blk_grown hb hw hne,hg,hr0⟩
theorem IsS71.kept {w0 W:World} {g:Nat} {f0:List Int} {f1:Int} {W1:World} {S:Nat→Prop} (h:IsS71 w0 W g f0 f1) (hk:Kept W W1 S) (hne:¬ S g):IsS71 w0 W1 g f0 f1:=by
 obtain ⟨A0,c0,hb,hg,hr0⟩:=h
 exact ⟨A0,c0,blk_kept hb hk hne,hg,hr0⟩
theorem IsS71.below {w0 W:World} {g:Nat} {f0:List Int} {f1:Int} {W1:World} (h:IsS71 w0 W g f0 f1) (hw:Below W.heap.size W W1):IsS71 w0 W1 g f0 f1:=h.grown (grown_of_below hw none) (by simp)
theorem IsS71.alloc {w0 W:World} {g:Nat} {f0:List Int} {f1:Int} (h:IsS71 w0 W g f0 f1) (o:Obj):IsS71 w0 (W.alloc o) g f0 f1:=h.below (wA (Below.refl _ _) o)
theorem IsS71.drewN {w0 W:World} {g:Nat} {f0:List Int} {f1:Int} (h:IsS71 w0 W g f0 f1) (m:Nat):IsS71 w0 (W.drewN m) g f0 f1:=h
theorem IsS71.drew {w0 W:World} {g:Nat} {f0:List Int} {f1:Int} (h:IsS71 w0 W g f0 f1):IsS71 w0 W.drew g f0 f1:=h
theorem IsS71.at_ {w0 W:World} {g:Nat} {f0:List Int} {f1:Int} {w':World} {m:Nat} (hq:W.drewN m=w') (h:IsS71 w0 W g f0 f1):IsS71 w0 w' g f0 f1:=by subst hq;exact IsS71.drewN h m
theorem IsS71.apart {w0 W:World} {g:Nat} {f0:List Int} {f1:Int} {α:Type} {d:Kd α} {e:Nat} {base:Nat} {ok:Nat→Prop} {v:Value} {xs:List α} (h:IsS71 w0 W g f0 f1) (ho:d.R e W base ok v xs) (ht:∀ q,q∈e :: d.E→q ≠ 71):d.R e W base (fun k=>ok k∧k ≠ g) v xs:=by
 obtain ⟨A0,c0,hb,hg,hr0⟩:=h
 exact Kd.R_types ho hb ht
theorem IsS71.own_ne {w0 W:World} {g:Nat} {f0:List Int} {f1:Int} {α:Type} {d:Kd α} {e:Nat} {base:Nat} {ok:Nat→Prop} {v:Value} {xs:List α} (h:IsS71 w0 W g f0 f1) (ho:d.R e W base ok v xs) (ht:e ≠ 71):some g ≠ v.ownBlock:=by
 obtain ⟨A0,c0,hb,hg,hr0⟩:=h
 exact Kd.R_ne ho hb ht
theorem IsS71.lt {w0 W:World} {g:Nat} {f0:List Int} {f1:Int} (h:IsS71 w0 W g f0 f1):g < W.heap.size:=by
 obtain ⟨A0,c0,hb,hg,hr0⟩:=h
 exact blk_lt hb
theorem IsS71.ge {w0 W:World} {g:Nat} {f0:List Int} {f1:Int} (h:IsS71 w0 W g f0 f1):w0.heap.size≤g:=by
 obtain ⟨A0,c0,hb,hg,hr0⟩:=h
 exact hg
end Go.Proofs.Ytkjlcbfjllpcnaa.X
namespace Go.Proofs.Ytkjlcbfjllpcnaa.X
open Go.RowKit Go.Proofs.YtkjlcbfjllpcnaaW.PrintWords Go.Proofs.YtkjlcbfjllpcnaaW.PrintLast Go.Proofs.YtkjlcbfjllpcnaaW.PrintMore
set_option linter.unusedVariables false
theorem Z {p:Prop} (h:p):Aside0 p:=⟨h⟩
theorem pB {P:Prop} (h:P:=by repeat (first|(with_reducible first|exact HB.out|apply wA|apply wN|apply wD|refine wS (w:=w0) ?_ (Aside0.out (by assumption))|refine wS (w:=w) ?_ (Aside0.out (by assumption))|refine wS ?_ (IsS71.ge HI0.out))|exact HB.out)):P:=h
theorem pR {P Q:Prop} (q:Aside0 Q) (h:Q→P:=by (intro h_;(with_reducible repeat (first|apply Kd.R_alloc|apply Kd.R_drewN|apply Kd.R_drew));exact h_)):P:=h q.out
theorem pK {P Q:Prop} (q:Aside0 Q) (h:Q→P:=by (intro h_;(with_reducible repeat (first|refine kN ?_ _|refine kD ?_|refine kA ?_ _));exact h_)):P:=h q.out
theorem pE {P:Prop} (h:P:=by first|rfl|(simp;done)|(simp [*];done)):P:=h
theorem pN {P:Prop} (h:P:=by first|exact Kd.R_nil _ _ _ _ _|exact Kd.N_nil _ _ _ _ _|exact Kd.V_nil _ _ _ _ _|exact Kd.Q_nil _ _ _ _ _|exact Kd.S_nil _ _ _ _ _):P:=h
theorem pF {P:Prop} (h:P:=by first|rfl|(simp [errW_none,errW_some] <;> rfl)|(simp [*,errW_none,errW_some] <;> rfl)):P:=h
theorem pG {P:Prop} (h:P:=by (try simp only [List.map_toArray,List.map_cons,List.map_nil]);first|done|rfl|(simp only [List.length_drop,List.length_take];rfl)):P:=h
theorem pC {α:Type} {d:Kd α} {w w1:World} {A:Option Addr} {n:Nat} {xs:List α} (q:Aside0 (d.C w A n xs)) (h:Below w.heap.size w w1:=by repeat (first|(with_reducible first|exact HB.out|apply wA|apply wN|apply wD|refine wS (w:=w0) ?_ (Aside0.out (by assumption))|refine wS (w:=w) ?_ (Aside0.out (by assumption))|refine wS ?_ (IsS71.ge HI0.out))|exact HB.out)):d.C w1 A n xs:=Kd.C_below q.out h
theorem pT {w W:World} {gb:Nat} (hg:gb=W.heap.size) (h:Below w.heap.size w W:=by repeat (first|(with_reducible first|exact HB.out|apply wA|apply wN|apply wD|refine wS (w:=w0) ?_ (Aside0.out (by assumption))|refine wS (w:=w) ?_ (Aside0.out (by assumption))|refine wS ?_ (IsS71.ge HI0.out))|exact HB.out)):w.heap.size≤gb:=by rw [hg];exact below_size h
theorem pL {W:World} {g gb:Nat} {o:Obj} (hg:gb=W.heap.size) (h:W.heap[g]?=some o):g ≠ gb:=by rw [hg];exact Nat.ne_of_lt (blk_lt h)
theorem pM {W:World} {g gb:Nat} {o:Obj} (hg:gb=W.heap.size) (h:W.heap[g]?=some o):gb ≠ g:=by rw [hg];exact Nat.ne_of_gt (blk_lt h)
end Go.Proofs.Ytkjlcbfjllpcnaa.X
namespace Go.Proofs.Ytkjlcbfjllpcnaa.X
open Go.RowKit Go.Proofs.YtkjlcbfjllpcnaaW.PrintWords Go.Proofs.YtkjlcbfjllpcnaaW.PrintLast Go.Proofs.YtkjlcbfjllpcnaaW.PrintMore
attribute [local go_sem] max2_int min2_int max_two min_two max_three min_three max_four min_four
set_option linter.unusedVariables false
set_option linter.unusedSimpArgs false
def trustquorumref01_Valid.f (a0:Int):Option (Bool):=if a0 ≥ 0 then (some (decide (a0≤1023))) else (some false)
set_option maxHeartbeats 8000000 in
set_option maxRecDepth 100000 in
theorem trustquorumref01_Valid.calls (a0:Int) (r:Bool) (w:World) (h:trustquorumref01_Valid.f a0=some r) :
  Calls Try.prog 69 #[.int .i64 a0] w fun e w'=>e=.returned (.bool r)∧Drawn0 w w':=by
 have H:(if a0 ≥ 0 then (some (decide (a0≤1023))) else (some false))=some r:=h
 clear h
 by_cases c2:a0 ≥ 0
 ·rw [if_pos c2] at H
  have c2b0:decide (0≤a0)=true:=decide_eq_true c2
  clear c2
  obtain rfl:=Option.some.inj H
  go_enter Try.func69,Try.ntmps69
  go_wp2
  go_ret
  exact ⟨by first|rfl|(simp;done)|(simp [*];done),by repeat (first|exact Drawn0.refl _|apply Drawn0.step)⟩
 ·rw [if_neg c2] at H
  have c2b0:decide (0≤a0)=false:=decide_eq_false c2
  clear c2
  obtain rfl:=Option.some.inj H
  go_enter Try.func69,Try.ntmps69
  go_wp2
  go_ret
  exact ⟨by first|rfl|(simp;done)|(simp [*];done),by repeat (first|exact Drawn0.refl _|apply Drawn0.step)⟩
def trustquorumref01_Size.l0:Nat→Int→Int→Int→Option (Int)
 | 0,_,_,_=>none
 | k+1,x0,x3,x4=>if x4 < 10 then ((trustquorumref01_Valid.f x0).bind fun t789=>(if t789=true then (if 0≤x4 then (trustquorumref01_Size.l0 k x0 (wrap64 (x3+(Go.bits .and .i64 (shr .i64 x0 x4) 1))) (wrap64 (x4+1))) else (none)) else (some x3))) else (some x3)
def trustquorumref01_Size.f (k:Nat) (a0:Int):Option (Int):=trustquorumref01_Size.l0 k a0 0 0
set_option maxHeartbeats 8000000 in
set_option maxRecDepth 100000 in
theorem trustquorumref01_Size.calls (k:Nat) (a0:Int) (r:Int) (w:World) (h:trustquorumref01_Size.f k a0=some r) :
  Calls Try.prog 43 #[.int .i64 a0] w fun e w'=>e=.returned (.int .i64 r)∧Drawn0 w w':=by
 have H:(trustquorumref01_Size.l0 k a0 0 0)=some r:=h
 clear h
 have H':=Z H
 clear H
 go_enter Try.func43,Try.ntmps43
 go_wp2
 go_loopg [3,4] k (fun kq v3 v4 w'=>∃ (x3_1:Int) (x4_1:Int),v3=.int .i64 x3_1∧v4=.int .i64 x4_1∧Aside0 (trustquorumref01_Size.l0 kq a0 x3_1 x4_1=some r)∧Aside0 (kq≤k)∧Drawn0 w w')
 case atStart=>exact ⟨(0),(0),pE,pE,H',⟨Nat.le_refl _⟩,by repeat (first|exact Drawn0.refl _|apply Drawn0.step)⟩
 case round =>
  clear H'
  obtain ⟨x3_1,x4_1,rfl,rfl,HA,HK1,⟨m1,rfl⟩⟩:=hrel
  cases gk with
  | zero=>exact absurd HA.out (by simp [trustquorumref01_Size.l0])
  | succ k1 =>
   have H:=HA.out
   clear HA
   simp only [trustquorumref01_Size.l0] at H
   by_cases c2:x4_1 < 10
   ·rw [if_pos c2] at H
    have c2b0:decide (x4_1 < 10)=true:=decide_eq_true c2
    clear c2
    replace H:=Option.bind_eq_some_iff.mp H
    obtain ⟨t789,A30,H⟩:=H
    try dsimp only at H
    have A3:=Z A30
    clear A30
    by_cases c4:t789=true
    ·subst c4
     rw [if_pos rfl] at H
     by_cases c5:0≤x4_1
     ·rw [if_pos c5] at H
      have c5b0:=eq_true c5
      have c5b1:decide (0≤x4_1)=true:=decide_eq_true c5
      clear c5
      obtain ⟨ji6,hji6⟩:∃ j_:Int,(shr .i64 a0 x4_1)=j_:=⟨_,rfl⟩
      replace H:(trustquorumref01_Size.l0 k1 a0 (wrap64 (x3_1+(Go.bits .and .i64 (ji6) 1))) (wrap64 (x4_1+1)))=some r:=by first|(rw [hji6] at H;exact H)|(simp only [hji6] at H ⊢;exact H)
      (try rw [hji6] at A3)
      have hji6_:(a0 / 2 ^ min x4_1.toNat 64)=ji6:=hji6
      have hji6z:x4_1≤64→(a0 / 2 ^ x4_1.toNat)=ji6:=shr_small hji6
      have H':=Z H
      clear H
      go_wp2_with (first|(go_at_call 69;(with_reducible refine (trustquorumref01_Valid.calls a0 true _ A3.out).mono ?_);rintro e w' ⟨rfl,⟨nd,rfl⟩⟩))
      go_roundg k1
      case measure=>have:=HK1.out;omega
      case rel=>exact ⟨(wrap64 (x3_1+(Go.bits .and .i64 (ji6) 1))),(wrap64 (x4_1+1)),(by first|exact pE|(simp only [← hji6] <;> (first|rfl|simp))),pE,H',⟨by have:=HK1.out;omega⟩,by repeat (first|exact Drawn0.refl _|apply Drawn0.step)⟩
     ·rw [if_neg c5] at H
      exact absurd H (by simp)
    ·replace c4:=Bool.eq_false_iff.mpr c4
     subst c4
     rw [if_neg (show ¬ (false=true) by decide)] at H
     obtain rfl:=Option.some.inj H
     go_wp2_with (first|(go_at_call 69;(with_reducible refine (trustquorumref01_Valid.calls a0 false _ A3.out).mono ?_);rintro e w' ⟨rfl,⟨nd,rfl⟩⟩))
     go_ret
     exact ⟨by first|rfl|(simp;done)|(simp [*];done),by repeat (first|exact Drawn0.refl _|apply Drawn0.step)⟩
   ·rw [if_neg c2] at H
    have c2b0:decide (x4_1 < 10)=false:=decide_eq_false c2
    clear c2
    obtain rfl:=Option.some.inj H
    go_wp2
    go_ret
    exact ⟨by first|rfl|(simp;done)|(simp [*];done),by repeat (first|exact Drawn0.refl _|apply Drawn0.step)⟩
def threshold_node.f (a0:Int):Option (Bool):=if a0 ≥ 0 then (some (decide (a0 < 10))) else (some false)
set_option maxHeartbeats 8000000 in
set_option maxRecDepth 100000 in
theorem threshold_node.calls (a0:Int) (r:Bool) (w:World) (h:threshold_node.f a0=some r) :
  Calls Try.prog 95 #[.int .i64 a0] w fun e w'=>e=.returned (.bool r)∧Drawn0 w w':=by
 have H:(if a0 ≥ 0 then (some (decide (a0 < 10))) else (some false))=some r:=h
 clear h
 by_cases c2:a0 ≥ 0
 ·rw [if_pos c2] at H
  have c2b0:decide (0≤a0)=true:=decide_eq_true c2
  clear c2
  obtain rfl:=Option.some.inj H
  go_enter Try.func95,Try.ntmps95
  go_wp2
  go_ret
  exact ⟨by first|rfl|(simp;done)|(simp [*];done),by repeat (first|exact Drawn0.refl _|apply Drawn0.step)⟩
 ·rw [if_neg c2] at H
  have c2b0:decide (0≤a0)=false:=decide_eq_false c2
  clear c2
  obtain rfl:=Option.some.inj H
  go_enter Try.func95,Try.ntmps95
  go_wp2
  go_ret
  exact ⟨by first|rfl|(simp;done)|(simp [*];done),by repeat (first|exact Drawn0.refl _|apply Drawn0.step)⟩
mutual
def threshold_Uses.l0:Nat→Int→List Int→Int→Int→Int→List Int→List (S32)→Option (Int)
 | 0,_,_,_,_,_,_,_=>none
 | k+1,x3,x9,x10,x11,x250000,x250001,x250002=>if x11 < x10 then (if 0≤x11 then (if x11 < (x9.length:Int) then ((threshold_node.f (rd x9 x11)).bind fun t251=>(if t251=true then (if 0≤(rd x9 x11) then (threshold_Uses.l0 k (Go.bits .or .i64 x3 (shl .i64 1 (rd x9 x11))) x9 x10 (wrap64 (x11+1)) x250000 x250001 x250002) else (none)) else (threshold_Uses.l0 k x3 x9 x10 (wrap64 (x11+1)) x250000 x250001 x250002))) else (none)) else (none)) else (threshold_Uses.l1 k x3 x250002 (x250002.length:Int) 0)
def threshold_Uses.l1:Nat→Int→List (S32)→Int→Int→Option (Int)
 | 0,_,_,_,_=>none
 | k+1,x3,x23,x24,x25=>if x25 < x24 then (if 0≤x25 then (if x25 < (x23.length:Int) then ((threshold_Uses.f k ((rd_T32 x23 x25).f0) ((rd_T32 x23 x25).f1) ((rd_T32 x23 x25).f2)).bind fun t254=>(threshold_Uses.l1 k (Go.bits .or .i64 x3 t254) x23 x24 (wrap64 (x25+1)))) else (none)) else (none)) else (some x3)
def threshold_Uses.f:Nat→Int→List Int→List (S32)→Option (Int)
 | 0,_,_,_=>none
 | k+1,a0_0,l0_1,l0_2=>threshold_Uses.l0 k 0 l0_1 (l0_1.length:Int) 0 a0_0 l0_1 l0_2
end
set_option maxHeartbeats 8000000 in
set_option maxRecDepth 100000 in
theorem threshold_Uses.calls (k:Nat):∀ (a0_0:Int) (A0_1:Option Addr) (c0_1:Nat) (l0_1:List Int) (A0_2:Option Addr) (c0_2:Nat) (l0_2:List (S32)) (r:Int) (w:World) (hr0_1:Kd.C (Kd.int .i64) w A0_1 l0_1.length l0_1) (hc0_1:l0_1.length≤c0_1) (hr0_2:Kd.C k32 w A0_2 l0_2.length l0_2) (hc0_2:l0_2.length≤c0_2) (h:threshold_Uses.f k a0_0 l0_1 l0_2=some r),
  Calls Try.prog 65 #[.agg #[.int .i64 a0_0,.slice A0_1 l0_1.length c0_1,.slice A0_2 l0_2.length c0_2]] w fun e w'=>e=.returned (.int .i64 r)∧Below w.heap.size w w':=by
 induction k using Nat.strongRecOn with
 | _ k ih =>
 intro a0_0 A0_1 c0_1 l0_1 A0_2 c0_2 l0_2 r w hr0_1 hc0_1 hr0_2 hc0_2 h
 cases k with
 | zero=>exact absurd h (by simp [threshold_Uses.f])
 | succ k =>
 simp only [threshold_Uses.f] at h
 have hu32:=Try.underlying32
 have HR0_1:=Z hr0_1
 have HC0_1:=Z hc0_1
 clear hr0_1 hc0_1
 have HR0_2:=Z hr0_2
 have HC0_2:=Z hc0_2
 clear hr0_2 hc0_2
 have HB:=Z (Below.refl w.heap.size w)
 have H:(threshold_Uses.l0 k 0 l0_1 (l0_1.length:Int) 0 a0_0 l0_1 l0_2)=some r:=h
 clear h
 have H':=Z H
 clear H
 go_enter Try.func65,Try.ntmps65
 go_wp2_with (first|((with_reducible refine gate_dst (N:=1) rfl ?_);refine box_event ?hg (N:=1) ?hd (cs:=#[.int .i64 a0_0,.slice A0_1 l0_1.length c0_1,.slice A0_2 l0_2.length c0_2]) (t:=32) ?hr ?_;(case hd=>rfl);(case hg=>rfl);(case hr=>first|(go_simp;done)|(go_simp;rfl));intro gb249 hg w2 hbox hb;have n0_:=Z (below_step pB hb);have n1_:=Z (hbox);have n2_:=Z ((pT hg:w.heap.size≤gb249));have n3_:=Z ((pT hg:w.heap.size≤gb249));clear HB;have HB:=n0_;have BK249:=n1_;have GW249:=n2_;have GE249:=n3_;clear n0_ n1_ n2_ n3_;clear hb hbox hg;have hcz3_0:w2.cell? ⟨gb249,0,none⟩=some (.int .i64 a0_0):=(kC BK249.out 0).trans rfl;have hcz3_1:w2.cell? ⟨gb249,1,none⟩=some (.slice A0_1 l0_1.length c0_1):=(kC BK249.out 1).trans rfl;have hcz3_2:w2.cell? ⟨gb249,2,none⟩=some (.slice A0_2 l0_2.length c0_2):=(kC BK249.out 2).trans rfl;have hfz3_0:=kF BK249.out 0;have hfz3_1:=kF BK249.out 1;have hfz3_2:=kF BK249.out 2))
 go_loopg [3,11] k (fun kq v3 v11 w'=>∃ (x3_1:Int) (x11_1:Int),v3=.int .i64 x3_1∧v11=.int .i64 x11_1∧Aside0 (threshold_Uses.l0 kq x3_1 l0_1 (l0_1.length:Int) x11_1 a0_0 l0_1 l0_2=some r)∧Aside0 (kq≤k)∧Aside0 (w'.heap[gb249]?=some (.cells #[.int .i64 a0_0,(.slice A0_1 l0_1.length c0_1),(.slice A0_2 l0_2.length c0_2)] 32 (0,0)))∧Aside0 (Below w.heap.size w w'))
 case atStart=>exact ⟨(0),(0),pE,pE,H',⟨Nat.le_refl _⟩,⟨pK BK249⟩,⟨pB⟩⟩
 case round =>
  clear H'
  try clear p2
  try clear hcz3_0
  try clear hcz3_1
  try clear hcz3_2
  try clear hfz3_0
  try clear hfz3_1
  try clear hfz3_2
  obtain ⟨x3_1,x11_1,rfl,rfl,HA,HK1,BK249,HB⟩:=hrel
  cases gk with
  | zero=>exact absurd HA.out (by simp [threshold_Uses.l0])
  | succ k1 =>
   have H:=HA.out
   clear HA
   simp only [threshold_Uses.l0] at H
   by_cases c4:x11_1 < (l0_1.length:Int)
   ·rw [if_pos c4] at H
    have c4b0:decide (x11_1 < (l0_1.length:Int))=true:=decide_eq_true c4
    clear c4
    by_cases c5:0≤x11_1
    ·rw [if_pos c5] at H
     have c5b0:decide (0≤x11_1)=true:=decide_eq_true c5
     clear c5
     by_cases c6:x11_1 < (l0_1.length:Int)
     ·rw [if_pos c6] at H
      have c6b0:decide (x11_1 < (l0_1.length:Int))=true:=decide_eq_true c6
      clear c6
      replace H:=Option.bind_eq_some_iff.mp H
      obtain ⟨t251,A70,H⟩:=H
      try dsimp only at H
      have A7:=Z A70
      clear A70
      by_cases c8:t251=true
      ·subst c8
       rw [if_pos rfl] at H
       by_cases c9:0≤(rd l0_1 x11_1)
       ·rw [if_pos c9] at H
        have c9b0:=eq_true c9
        have c9b1:decide (0≤(rd l0_1 x11_1))=true:=decide_eq_true c9
        clear c9
        obtain ⟨ji10,hji10⟩:∃ j_:Int,(shl .i64 1 (rd l0_1 x11_1))=j_:=⟨_,rfl⟩
        replace H:(threshold_Uses.l0 k1 (Go.bits .or .i64 x3_1 (ji10)) l0_1 (l0_1.length:Int) (wrap64 (x11_1+1)) a0_0 l0_1 l0_2)=some r:=by first|(rw [hji10] at H;exact H)|(simp only [hji10] at H ⊢;exact H)
        (try rw [hji10] at A7)
        have hji10_:(IntKind.i64.wrap (1 * 2 ^ min (rd l0_1 x11_1).toNat 64))=ji10:=hji10
        have hji10z:(rd l0_1 x11_1)≤64→(IntKind.i64.wrap (1 * 2 ^ (rd l0_1 x11_1).toNat))=ji10:=shl_small hji10
        have hji10u:(IntKind.i64.wrap (2 ^ min (rd l0_1 x11_1).toNat 64))=ji10:=by have h_:=hji10_;rw [Int.one_mul] at h_;exact h_
        have hji10v:(rd l0_1 x11_1)≤64→(IntKind.i64.wrap (2 ^ (rd l0_1 x11_1).toNat))=ji10:=fun hle_=>by have h_:=hji10z hle_;rw [Int.one_mul] at h_;exact h_
        have hji10y:(wrap64 (1 * 2 ^ min (rd l0_1 x11_1).toNat 64))=ji10:=(i64_w _).symm.trans hji10_
        have hji10x:(rd l0_1 x11_1)≤64→(wrap64 (1 * 2 ^ (rd l0_1 x11_1).toNat))=ji10:=fun h_=>(i64_w _).symm.trans (hji10z h_)
        have H':=Z H
        clear H
        have p250:0≤(x11_1:Int):=of_decide_eq_true (by first|(with_reducible assumption)|assumption)
        have q250:x11_1 < (l0_1.length:Int):=of_decide_eq_true (by first|(with_reducible assumption)|assumption)
        obtain ⟨ad250,e250,hx250_0⟩:=Kd.at_int HR0_1.out x11_1 p250 q250
        cases e250
        replace hx250_0:=(HB.out.cell (World.block_lt_of_cell? w _ hx250_0)).trans hx250_0
        replace p250:=eq_true p250
        replace q250:=eq_true q250
        go_wp2_with (first|((with_reducible refine gate_callee (f:=95) rfl ?_);refine goesL_ (some 16) rfl rfl Try.func95 (by kernel_rfl) rfl #[.int .i64 (rd l0_1 x11_1)] rfl pG ?_;(with_reducible refine (threshold_node.calls (rd l0_1 x11_1) true _ A7.out).mono ?_);rintro e w' ⟨rfl,⟨nd,rfl⟩⟩;refine ⟨_,rfl,?_⟩))
        go_roundg k1
        case measure=>have:=HK1.out;omega
        case rel=>exact ⟨(Go.bits .or .i64 x3_1 (ji10)),(wrap64 (x11_1+1)),(by first|exact pE|(simp only [← hji10] <;> (first|rfl|simp))),pE,H',⟨by have:=HK1.out;omega⟩,⟨pK BK249⟩,⟨pB⟩⟩
       ·rw [if_neg c9] at H
        exact absurd H (by simp)
      ·replace c8:=Bool.eq_false_iff.mpr c8
       subst c8
       rw [if_neg (show ¬ (false=true) by decide)] at H
       have H':=Z H
       clear H
       have p250:0≤(x11_1:Int):=of_decide_eq_true (by first|(with_reducible assumption)|assumption)
       have q250:x11_1 < (l0_1.length:Int):=of_decide_eq_true (by first|(with_reducible assumption)|assumption)
       obtain ⟨ad250,e250,hx250_0⟩:=Kd.at_int HR0_1.out x11_1 p250 q250
       cases e250
       replace hx250_0:=(HB.out.cell (World.block_lt_of_cell? w _ hx250_0)).trans hx250_0
       replace p250:=eq_true p250
       replace q250:=eq_true q250
       go_wp2_with (first|((with_reducible refine gate_callee (f:=95) rfl ?_);refine goesL_ (some 16) rfl rfl Try.func95 (by kernel_rfl) rfl #[.int .i64 (rd l0_1 x11_1)] rfl pG ?_;(with_reducible refine (threshold_node.calls (rd l0_1 x11_1) false _ A7.out).mono ?_);rintro e w' ⟨rfl,⟨nd,rfl⟩⟩;refine ⟨_,rfl,?_⟩))
       go_roundg k1
       case measure=>have:=HK1.out;omega
       case rel=>exact ⟨(x3_1),(wrap64 (x11_1+1)),pE,pE,H',⟨by have:=HK1.out;omega⟩,⟨pK BK249⟩,⟨pB⟩⟩
     ·rw [if_neg c6] at H
      exact absurd H (by simp)
    ·rw [if_neg c5] at H
     exact absurd H (by simp)
   ·rw [if_neg c4] at H
    have c4b0:decide (x11_1 < (l0_1.length:Int))=false:=decide_eq_false c4
    clear c4
    have H':=Z H
    clear H
    have hcz11_0:wr.cell? ⟨gb249,0,none⟩=some (.int .i64 a0_0):=(kC BK249.out 0).trans rfl
    have hcz11_1:wr.cell? ⟨gb249,1,none⟩=some (.slice A0_1 l0_1.length c0_1):=(kC BK249.out 1).trans rfl
    have hcz11_2:wr.cell? ⟨gb249,2,none⟩=some (.slice A0_2 l0_2.length c0_2):=(kC BK249.out 2).trans rfl
    have hfz11_0:=kF BK249.out 0
    have hfz11_1:=kF BK249.out 1
    have hfz11_2:=kF BK249.out 2
    go_wp2
    go_loopg [3,25] k1 (fun kq v3 v25 w'=>∃ (x3_2:Int) (x25_2:Int),v3=.int .i64 x3_2∧v25=.int .i64 x25_2∧Aside0 (threshold_Uses.l1 kq x3_2 l0_2 (l0_2.length:Int) x25_2=some r)∧Aside0 (kq≤k1)∧Aside0 (w'.heap[gb249]?=some (.cells #[.int .i64 a0_0,(.slice A0_1 l0_1.length c0_1),(.slice A0_2 l0_2.length c0_2)] 32 (0,0)))∧Aside0 (Below w.heap.size w w'))
    case atStart=>exact ⟨(x3_1),(0),pE,pE,H',⟨Nat.le_refl _⟩,⟨pK BK249⟩,⟨pB⟩⟩
    case round =>
     clear H'
     try clear p2
     try clear q2
     try clear hx2
     try clear c4
     try clear c4b0
     try clear c5
     try clear c5b0
     try clear c6
     try clear c6b0
     try clear p6
     try clear c8
     try clear c9
     try clear c9b0
     try clear c9b1
     try clear hcz11_0
     try clear hcz11_1
     try clear hcz11_2
     try clear hcz3_0
     try clear hcz3_1
     try clear hcz3_2
     try clear hfz11_0
     try clear hfz11_1
     try clear hfz11_2
     try clear hfz3_0
     try clear hfz3_1
     try clear hfz3_2
     try clear hx250_0
     try clear p250
     try clear q250
     obtain ⟨x3_2,x25_2,rfl,rfl,HA,HK2,BK249,HB⟩:=hrel
     cases gk with
     | zero=>exact absurd HA.out (by simp [threshold_Uses.l1])
     | succ k2 =>
      have H:=HA.out
      clear HA
      simp only [threshold_Uses.l1] at H
      by_cases c12:x25_2 < (l0_2.length:Int)
      ·rw [if_pos c12] at H
       have c12b0:decide (x25_2 < (l0_2.length:Int))=true:=decide_eq_true c12
       clear c12
       by_cases c13:0≤x25_2
       ·rw [if_pos c13] at H
        have c13b0:decide (0≤x25_2)=true:=decide_eq_true c13
        clear c13
        by_cases c14:x25_2 < (l0_2.length:Int)
        ·rw [if_pos c14] at H
         have c14b0:decide (x25_2 < (l0_2.length:Int))=true:=decide_eq_true c14
         clear c14
         replace H:=Option.bind_eq_some_iff.mp H
         obtain ⟨t254,A150,H⟩:=H
         try dsimp only at H
         have A15:=Z A150
         clear A150
         have H':=Z H
         clear H
         have p252:0≤(x25_2:Int):=of_decide_eq_true (by first|(with_reducible assumption)|assumption)
         have q252:x25_2 < (l0_2.length:Int):=of_decide_eq_true (by first|(with_reducible assumption)|assumption)
         obtain ⟨ad252,A252_1,c252_1,A252_2,c252_2,e252,hx252_0,hx252_1,hx252_2,hl252_1,hi252_1,hl252_2,hi252_2⟩:=at_T32 HR0_2.out x25_2 p252 q252
         cases e252
         replace hx252_0:=(HB.out.cell (World.block_lt_of_cell? w _ hx252_0)).trans hx252_0
         replace hx252_1:=(HB.out.cell (World.block_lt_of_cell? w _ hx252_1)).trans hx252_1
         replace hx252_2:=(HB.out.cell (World.block_lt_of_cell? w _ hx252_2)).trans hx252_2
         have HR252_1:=Z hi252_1
         have HC252_1:=Z hl252_1
         clear hi252_1 hl252_1
         have HR252_2:=Z hi252_2
         have HC252_2:=Z hl252_2
         clear hi252_2 hl252_2
         replace p252:=eq_true p252
         replace q252:=eq_true q252
         go_wp2_with (first|((with_reducible refine gate_dst (N:=7) rfl ?_);refine box_event ?hg (N:=7) ?hd (cs:=#[.int .i64 0,.slice none 0 0,.slice none 0 0]) (t:=32) ?hr ?_;(case hd=>rfl);(case hg=>rfl);(case hr=>first|(go_simp;done)|(go_simp;rfl));intro gb253 hg w16 hbox hb;have n0_:=Z (blk_below (g:=gb249) (o:=.cells #[.int .i64 a0_0,.slice A0_1 l0_1.length c0_1,.slice (some ad252) l0_2.length c0_2] 32 (0,0)) (pK BK249) hb);have n1_:=Z (below_step pB hb);have n2_:=Z (hbox);have n3_:=Z ((pT hg:w.heap.size≤gb253));have n4_:=Z ((pT hg:w.heap.size≤gb253));have n5_:=Z ((pL hg (pK BK249):gb249 ≠ gb253));have n6_:=Z ((pM hg (pK BK249):gb253 ≠ gb249));clear BK249;clear HB;have BK249:=n0_;have HB:=n1_;have BK253:=n2_;have GW253:=n3_;have GE253:=n4_;have NB249_253:=n5_;have NB253_249:=n6_;clear n0_ n1_ n2_ n3_ n4_ n5_ n6_;clear hb hbox hg;have hnb17:=NB253_249.out;have hnc17:=NB249_253.out;have hcz18_0:w16.cell? ⟨gb253,0,none⟩=some (.int .i64 0):=(kC BK253.out 0).trans rfl;have hcz18_1:w16.cell? ⟨gb253,1,none⟩=some (.slice none 0 0):=(kC BK253.out 1).trans rfl;have hcz18_2:w16.cell? ⟨gb253,2,none⟩=some (.slice none 0 0):=(kC BK253.out 2).trans rfl;have hfz18_0:=kF BK253.out 0;have hfz18_1:=kF BK253.out 1;have hfz18_2:=kF BK253.out 2)|((with_reducible refine gate_callee (f:=65) rfl ?_);refine goesL_ (some 31) rfl rfl Try.func65 (by kernel_rfl) rfl #[.agg #[.int .i64 ((rd_T32 l0_2 x25_2).f0),.slice A252_1 ((rd_T32 l0_2 x25_2).f1).length c252_1,.slice A252_2 ((rd_T32 l0_2 x25_2).f2).length c252_2]] rfl pG ?_;(with_reducible refine (ih k2 (by have:=HK1.out;have:=HK2.out;omega) ((rd_T32 l0_2 x25_2).f0) _ _ ((rd_T32 l0_2 x25_2).f1) _ _ ((rd_T32 l0_2 x25_2).f2) t254 _ ?side1 ?side2 ?side3 ?side4 A15.out).mono ?_);(case side1=>exact Kd.C_below HR252_1.out pB);(case side2=>exact HC252_1.out);(case side3=>exact Kd.C_below HR252_2.out pB);(case side4=>exact HC252_2.out);rintro e w19 ⟨rfl,hb⟩;refine ⟨_,rfl,?_⟩;have n0_:=Z (blk_below (g:=gb249) (o:=.cells #[.int .i64 a0_0,.slice A0_1 l0_1.length c0_1,.slice (some ad252) l0_2.length c0_2] 32 (0,0)) (by (with_reducible repeat (first|refine kN ?_ _|refine kD ?_|refine kA ?_ _));refine blk_far ?_ NB249_253.out _;(with_reducible repeat (first|refine kN ?_ _|refine kD ?_|refine kA ?_ _));refine blk_far ?_ NB249_253.out _;(with_reducible repeat (first|refine kN ?_ _|refine kD ?_|refine kA ?_ _));refine blk_far ?_ NB249_253.out _;(with_reducible repeat (first|refine kN ?_ _|refine kD ?_|refine kA ?_ _));exact BK249.out) hb);have n1_:=Z (blk_below (g:=gb253) (o:=.cells #[.int .i64 ((rd_T32 l0_2 x25_2).f0),.slice A252_1 ((rd_T32 l0_2 x25_2).f1).length c252_1,.slice A252_2 ((rd_T32 l0_2 x25_2).f2).length c252_2] 32 (0,0)) (by (with_reducible repeat (first|refine kN ?_ _|refine kD ?_|refine kA ?_ _));refine blk_put (cs:=#[.int .i64 ((rd_T32 l0_2 x25_2).f0),.slice A252_1 ((rd_T32 l0_2 x25_2).f1).length c252_1,.slice none 0 0]) ?_ 2 _ rfl;(with_reducible repeat (first|refine kN ?_ _|refine kD ?_|refine kA ?_ _));refine blk_put (cs:=#[.int .i64 ((rd_T32 l0_2 x25_2).f0),.slice none 0 0,.slice none 0 0]) ?_ 1 _ rfl;(with_reducible repeat (first|refine kN ?_ _|refine kD ?_|refine kA ?_ _));refine blk_put (cs:=#[.int .i64 0,.slice none 0 0,.slice none 0 0]) ?_ 0 _ rfl;(with_reducible repeat (first|refine kN ?_ _|refine kD ?_|refine kA ?_ _));exact BK253.out) hb);have n2_:=Z (below_step pB hb);clear BK249;clear BK253;clear HB;have BK249:=n0_;have BK253:=n1_;have HB:=n2_;clear n0_ n1_ n2_;(try clear hb);(try clear hb2);(try clear hk);(try clear hi)))
         go_roundg k2
         case measure=>have:=HK1.out;have:=HK2.out;omega
         case rel=>exact ⟨(Go.bits .or .i64 x3_2 t254),(wrap64 (x25_2+1)),pE,pE,H',⟨by have:=HK1.out;have:=HK2.out;omega⟩,⟨pK BK249⟩,⟨pB⟩⟩
        ·rw [if_neg c14] at H
         exact absurd H (by simp)
       ·rw [if_neg c13] at H
        exact absurd H (by simp)
      ·rw [if_neg c12] at H
       have c12b0:decide (x25_2 < (l0_2.length:Int))=false:=decide_eq_false c12
       clear c12
       obtain rfl:=Option.some.inj H
       go_wp2
       go_ret
       exact ⟨pF,pB⟩
def configuration_blank.f (a0_0:Int) (l0_1:List Int) (l0_2:List (S32)):Option (Bool):=if a0_0=0 then (if (l0_1.length:Int)=0 then (some ((l0_2.length:Int) == 0)) else (some false)) else (some false)
set_option maxHeartbeats 8000000 in
set_option maxRecDepth 100000 in
theorem configuration_blank.calls (a0_0:Int) (A0_1:Option Addr) (c0_1:Nat) (l0_1:List Int) (A0_2:Option Addr) (c0_2:Nat) (l0_2:List (S32)) (r:Bool) (w:World) (hr0_1:Kd.C (Kd.int .i64) w A0_1 l0_1.length l0_1) (hc0_1:l0_1.length≤c0_1) (hr0_2:Kd.C k32 w A0_2 l0_2.length l0_2) (hc0_2:l0_2.length≤c0_2) (h:configuration_blank.f a0_0 l0_1 l0_2=some r) :
  Calls Try.prog 110 #[.agg #[.int .i64 a0_0,.slice A0_1 l0_1.length c0_1,.slice A0_2 l0_2.length c0_2]] w fun e w'=>e=.returned (.bool r)∧Below w.heap.size w w':=by
 have hu32:=Try.underlying32
 have HR0_1:=Z hr0_1
 have HC0_1:=Z hc0_1
 clear hr0_1 hc0_1
 have HR0_2:=Z hr0_2
 have HC0_2:=Z hc0_2
 clear hr0_2 hc0_2
 have HB:=Z (Below.refl w.heap.size w)
 have H:(if a0_0=0 then (if (l0_1.length:Int)=0 then (some ((l0_2.length:Int) == 0)) else (some false)) else (some false))=some r:=h
 clear h
 by_cases c2:a0_0=0
 ·rw [if_pos c2] at H
  have c2b0:(a0_0 == 0)=true:=beq_iff_eq.mpr c2
  have c2b1:(a0_0 != 0)=false:=bne_eq_false_iff_eq.mpr c2
  clear c2
  by_cases c3:(l0_1.length:Int)=0
  ·rw [if_pos c3] at H
   have c3b0:((l0_1.length:Int) == 0)=true:=beq_iff_eq.mpr c3
   have c3b1:((l0_1.length:Int) != 0)=false:=bne_eq_false_iff_eq.mpr c3
   clear c3
   obtain rfl:=Option.some.inj H
   go_enter Try.func110,Try.ntmps110
   go_wp2_with (first|((with_reducible refine gate_dst (N:=1) rfl ?_);(try (refine gate_guard (by rfl) ?_;dsimp only));refine box_event ?hg (N:=1) ?hd (cs:=#[.int .i64 a0_0,.slice A0_1 l0_1.length c0_1,.slice A0_2 l0_2.length c0_2]) (t:=32) ?hr ?_;(case hd=>rfl);(case hg=>rfl);(case hr=>first|(go_simp;done)|(go_simp;rfl));intro gb255 hg w4 hbox hb;have n0_:=Z (below_step pB hb);have n1_:=Z (hbox);have n2_:=Z ((pT hg:w.heap.size≤gb255));have n3_:=Z ((pT hg:w.heap.size≤gb255));clear HB;have HB:=n0_;have BK255:=n1_;have GW255:=n2_;have GE255:=n3_;clear n0_ n1_ n2_ n3_;clear hb hbox hg;have hcz5_0:w4.cell? ⟨gb255,0,none⟩=some (.int .i64 a0_0):=(kC BK255.out 0).trans rfl;have hcz5_1:w4.cell? ⟨gb255,1,none⟩=some (.slice A0_1 l0_1.length c0_1):=(kC BK255.out 1).trans rfl;have hcz5_2:w4.cell? ⟨gb255,2,none⟩=some (.slice A0_2 l0_2.length c0_2):=(kC BK255.out 2).trans rfl;have hfz5_0:=kF BK255.out 0;have hfz5_1:=kF BK255.out 1;have hfz5_2:=kF BK255.out 2))
   go_ret
   exact ⟨pF,pB⟩
  ·rw [if_neg c3] at H
   have c3b0:((l0_1.length:Int) == 0)=false:=beq_eq_false_iff_ne.mpr c3
   have c3b1:((l0_1.length:Int) != 0)=true:=bne_iff_ne.mpr c3
   have c3b2:¬ (l0_1=[]):=fun h_=>c3 (by rw [h_];rfl)
   obtain rfl:=Option.some.inj H
   go_enter Try.func110,Try.ntmps110
   go_wp2_with (first|((with_reducible refine gate_dst (N:=1) rfl ?_);(try (refine gate_guard (by rfl) ?_;dsimp only));refine box_event ?hg (N:=1) ?hd (cs:=#[.int .i64 a0_0,.slice A0_1 l0_1.length c0_1,.slice A0_2 l0_2.length c0_2]) (t:=32) ?hr ?_;(case hd=>rfl);(case hg=>rfl);(case hr=>first|(go_simp;done)|(go_simp;rfl));intro gb255 hg w6 hbox hb;have n0_:=Z (below_step pB hb);have n1_:=Z (hbox);have n2_:=Z ((pT hg:w.heap.size≤gb255));have n3_:=Z ((pT hg:w.heap.size≤gb255));clear HB;have HB:=n0_;have BK255:=n1_;have GW255:=n2_;have GE255:=n3_;clear n0_ n1_ n2_ n3_;clear hb hbox hg;have hcz7_0:w6.cell? ⟨gb255,0,none⟩=some (.int .i64 a0_0):=(kC BK255.out 0).trans rfl;have hcz7_1:w6.cell? ⟨gb255,1,none⟩=some (.slice A0_1 l0_1.length c0_1):=(kC BK255.out 1).trans rfl;have hcz7_2:w6.cell? ⟨gb255,2,none⟩=some (.slice A0_2 l0_2.length c0_2):=(kC BK255.out 2).trans rfl;have hfz7_0:=kF BK255.out 0;have hfz7_1:=kF BK255.out 1;have hfz7_2:=kF BK255.out 2))
   go_ret
   exact ⟨pF,pB⟩
 ·rw [if_neg c2] at H
  have c2b0:(a0_0 == 0)=false:=beq_eq_false_iff_ne.mpr c2
  have c2b1:(a0_0 != 0)=true:=bne_iff_ne.mpr c2
  obtain rfl:=Option.some.inj H
  go_enter Try.func110,Try.ntmps110
  go_wp2_with (first|((with_reducible refine gate_dst (N:=1) rfl ?_);(try (refine gate_guard (by rfl) ?_;dsimp only));refine box_event ?hg (N:=1) ?hd (cs:=#[.int .i64 a0_0,.slice A0_1 l0_1.length c0_1,.slice A0_2 l0_2.length c0_2]) (t:=32) ?hr ?_;(case hd=>rfl);(case hg=>rfl);(case hr=>first|(go_simp;done)|(go_simp;rfl));intro gb255 hg w8 hbox hb;have n0_:=Z (below_step pB hb);have n1_:=Z (hbox);have n2_:=Z ((pT hg:w.heap.size≤gb255));have n3_:=Z ((pT hg:w.heap.size≤gb255));clear HB;have HB:=n0_;have BK255:=n1_;have GW255:=n2_;have GE255:=n3_;clear n0_ n1_ n2_ n3_;clear hb hbox hg;have hcz9_0:w8.cell? ⟨gb255,0,none⟩=some (.int .i64 a0_0):=(kC BK255.out 0).trans rfl;have hcz9_1:w8.cell? ⟨gb255,1,none⟩=some (.slice A0_1 l0_1.length c0_1):=(kC BK255.out 1).trans rfl;have hcz9_2:w8.cell? ⟨gb255,2,none⟩=some (.slice A0_2 l0_2.length c0_2):=(kC BK255.out 2).trans rfl;have hfz9_0:=kF BK255.out 0;have hfz9_1:=kF BK255.out 1;have hfz9_2:=kF BK255.out 2))
  go_ret
  exact ⟨pF,pB⟩
mutual
def threshold_Depth.l0:Nat→Int→List (S32)→Int→Int→Option (Int)
 | 0,_,_,_,_=>none
 | k+1,x3,x7,x8,x9=>if x9 < x8 then (if 0≤x9 then (if x9 < (x7.length:Int) then ((threshold_Depth.f k ((rd_T32 x7 x9).f0) ((rd_T32 x7 x9).f1) ((rd_T32 x7 x9).f2)).bind fun t259=>(threshold_Depth.l0 k (mx x3 t259) x7 x8 (wrap64 (x9+1)))) else (none)) else (none)) else (some (wrap64 (x3+1)))
def threshold_Depth.f:Nat→Int→List Int→List (S32)→Option (Int)
 | 0,_,_,_=>none
 | k+1,a0_0,l0_1,l0_2=>threshold_Depth.l0 k 0 l0_2 (l0_2.length:Int) 0
end
set_option maxHeartbeats 8000000 in
set_option maxRecDepth 100000 in
theorem threshold_Depth.calls (k:Nat):∀ (a0_0:Int) (A0_1:Option Addr) (c0_1:Nat) (l0_1:List Int) (A0_2:Option Addr) (c0_2:Nat) (l0_2:List (S32)) (r:Int) (w:World) (hr0_1:Kd.C (Kd.int .i64) w A0_1 l0_1.length l0_1) (hc0_1:l0_1.length≤c0_1) (hr0_2:Kd.C k32 w A0_2 l0_2.length l0_2) (hc0_2:l0_2.length≤c0_2) (h:threshold_Depth.f k a0_0 l0_1 l0_2=some r),
  Calls Try.prog 126 #[.agg #[.int .i64 a0_0,.slice A0_1 l0_1.length c0_1,.slice A0_2 l0_2.length c0_2]] w fun e w'=>e=.returned (.int .i64 r)∧Below w.heap.size w w':=by
 induction k using Nat.strongRecOn with
 | _ k ih =>
 intro a0_0 A0_1 c0_1 l0_1 A0_2 c0_2 l0_2 r w hr0_1 hc0_1 hr0_2 hc0_2 h
 cases k with
 | zero=>exact absurd h (by simp [threshold_Depth.f])
 | succ k =>
 simp only [threshold_Depth.f] at h
 have hu32:=Try.underlying32
 have HR0_1:=Z hr0_1
 have HC0_1:=Z hc0_1
 clear hr0_1 hc0_1
 have HR0_2:=Z hr0_2
 have HC0_2:=Z hc0_2
 clear hr0_2 hc0_2
 have HB:=Z (Below.refl w.heap.size w)
 have H:(threshold_Depth.l0 k 0 l0_2 (l0_2.length:Int) 0)=some r:=h
 clear h
 have H':=Z H
 clear H
 go_enter Try.func126,Try.ntmps126
 go_wp2_with (first|((with_reducible refine gate_dst (N:=1) rfl ?_);refine box_event ?hg (N:=1) ?hd (cs:=#[.int .i64 a0_0,.slice A0_1 l0_1.length c0_1,.slice A0_2 l0_2.length c0_2]) (t:=32) ?hr ?_;(case hd=>rfl);(case hg=>rfl);(case hr=>first|(go_simp;done)|(go_simp;rfl));intro gb256 hg w2 hbox hb;have n0_:=Z (below_step pB hb);have n1_:=Z (hbox);have n2_:=Z ((pT hg:w.heap.size≤gb256));have n3_:=Z ((pT hg:w.heap.size≤gb256));clear HB;have HB:=n0_;have BK256:=n1_;have GW256:=n2_;have GE256:=n3_;clear n0_ n1_ n2_ n3_;clear hb hbox hg;have hcz3_0:w2.cell? ⟨gb256,0,none⟩=some (.int .i64 a0_0):=(kC BK256.out 0).trans rfl;have hcz3_1:w2.cell? ⟨gb256,1,none⟩=some (.slice A0_1 l0_1.length c0_1):=(kC BK256.out 1).trans rfl;have hcz3_2:w2.cell? ⟨gb256,2,none⟩=some (.slice A0_2 l0_2.length c0_2):=(kC BK256.out 2).trans rfl;have hfz3_0:=kF BK256.out 0;have hfz3_1:=kF BK256.out 1;have hfz3_2:=kF BK256.out 2))
 go_loopg [3,9] k (fun kq v3 v9 w'=>∃ (x3_1:Int) (x9_1:Int),v3=.int .i64 x3_1∧v9=.int .i64 x9_1∧Aside0 (threshold_Depth.l0 kq x3_1 l0_2 (l0_2.length:Int) x9_1=some r)∧Aside0 (kq≤k)∧Aside0 (w'.heap[gb256]?=some (.cells #[.int .i64 a0_0,(.slice A0_1 l0_1.length c0_1),(.slice A0_2 l0_2.length c0_2)] 32 (0,0)))∧Aside0 (Below w.heap.size w w'))
 case atStart=>exact ⟨(0),(0),pE,pE,H',⟨Nat.le_refl _⟩,⟨pK BK256⟩,⟨pB⟩⟩
 case round =>
  clear H'
  try clear c1
  try clear p2
  try clear hcz3_0
  try clear hcz3_1
  try clear hcz3_2
  try clear hfz3_0
  try clear hfz3_1
  try clear hfz3_2
  obtain ⟨x3_1,x9_1,rfl,rfl,HA,HK1,BK256,HB⟩:=hrel
  cases gk with
  | zero=>exact absurd HA.out (by simp [threshold_Depth.l0])
  | succ k1 =>
   have H:=HA.out
   clear HA
   simp only [threshold_Depth.l0] at H
   by_cases c4:x9_1 < (l0_2.length:Int)
   ·rw [if_pos c4] at H
    have c4b0:decide (x9_1 < (l0_2.length:Int))=true:=decide_eq_true c4
    clear c4
    by_cases c5:0≤x9_1
    ·rw [if_pos c5] at H
     have c5b0:decide (0≤x9_1)=true:=decide_eq_true c5
     clear c5
     by_cases c6:x9_1 < (l0_2.length:Int)
     ·rw [if_pos c6] at H
      have c6b0:decide (x9_1 < (l0_2.length:Int))=true:=decide_eq_true c6
      clear c6
      replace H:=Option.bind_eq_some_iff.mp H
      obtain ⟨t259,A70,H⟩:=H
      try dsimp only at H
      have A7:=Z A70
      clear A70
      obtain ⟨ji8,hji8⟩:∃ j_:Int,(mx x3_1 t259)=j_:=⟨_,rfl⟩
      replace H:(threshold_Depth.l0 k1 ji8 l0_2 (l0_2.length:Int) (wrap64 (x9_1+1)))=some r:=by first|(rw [hji8] at H;exact H)|(simp only [hji8] at H ⊢;exact H)
      (try rw [hji8] at A7)
      have hji8_:(if x3_1 < t259 then t259 else x3_1)=ji8:=hji8
      have H':=Z H
      clear H
      have p257:0≤(x9_1:Int):=of_decide_eq_true (by first|(with_reducible assumption)|assumption)
      have q257:x9_1 < (l0_2.length:Int):=of_decide_eq_true (by first|(with_reducible assumption)|assumption)
      obtain ⟨ad257,A257_1,c257_1,A257_2,c257_2,e257,hx257_0,hx257_1,hx257_2,hl257_1,hi257_1,hl257_2,hi257_2⟩:=at_T32 HR0_2.out x9_1 p257 q257
      cases e257
      replace hx257_0:=(HB.out.cell (World.block_lt_of_cell? w _ hx257_0)).trans hx257_0
      replace hx257_1:=(HB.out.cell (World.block_lt_of_cell? w _ hx257_1)).trans hx257_1
      replace hx257_2:=(HB.out.cell (World.block_lt_of_cell? w _ hx257_2)).trans hx257_2
      have HR257_1:=Z hi257_1
      have HC257_1:=Z hl257_1
      clear hi257_1 hl257_1
      have HR257_2:=Z hi257_2
      have HC257_2:=Z hl257_2
      clear hi257_2 hl257_2
      replace p257:=eq_true p257
      replace q257:=eq_true q257
      go_wp2_with (first|((with_reducible refine gate_dst (N:=5) rfl ?_);refine box_event ?hg (N:=5) ?hd (cs:=#[.int .i64 0,.slice none 0 0,.slice none 0 0]) (t:=32) ?hr ?_;(case hd=>rfl);(case hg=>rfl);(case hr=>first|(go_simp;done)|(go_simp;rfl));intro gb258 hg w9 hbox hb;have n0_:=Z (blk_below (g:=gb256) (o:=.cells #[.int .i64 a0_0,.slice A0_1 l0_1.length c0_1,.slice (some ad257) l0_2.length c0_2] 32 (0,0)) (pK BK256) hb);have n1_:=Z (below_step pB hb);have n2_:=Z (hbox);have n3_:=Z ((pT hg:w.heap.size≤gb258));have n4_:=Z ((pT hg:w.heap.size≤gb258));have n5_:=Z ((pL hg (pK BK256):gb256 ≠ gb258));have n6_:=Z ((pM hg (pK BK256):gb258 ≠ gb256));clear BK256;clear HB;have BK256:=n0_;have HB:=n1_;have BK258:=n2_;have GW258:=n3_;have GE258:=n4_;have NB256_258:=n5_;have NB258_256:=n6_;clear n0_ n1_ n2_ n3_ n4_ n5_ n6_;clear hb hbox hg;have hnb10:=NB258_256.out;have hnc10:=NB256_258.out;have hcz11_0:w9.cell? ⟨gb258,0,none⟩=some (.int .i64 0):=(kC BK258.out 0).trans rfl;have hcz11_1:w9.cell? ⟨gb258,1,none⟩=some (.slice none 0 0):=(kC BK258.out 1).trans rfl;have hcz11_2:w9.cell? ⟨gb258,2,none⟩=some (.slice none 0 0):=(kC BK258.out 2).trans rfl;have hfz11_0:=kF BK258.out 0;have hfz11_1:=kF BK258.out 1;have hfz11_2:=kF BK258.out 2)|((with_reducible refine gate_callee (f:=126) rfl ?_);refine goesL_ (some 15) rfl rfl Try.func126 (by kernel_rfl) rfl #[.agg #[.int .i64 ((rd_T32 l0_2 x9_1).f0),.slice A257_1 ((rd_T32 l0_2 x9_1).f1).length c257_1,.slice A257_2 ((rd_T32 l0_2 x9_1).f2).length c257_2]] rfl pG ?_;(with_reducible refine (ih k1 (by have:=HK1.out;omega) ((rd_T32 l0_2 x9_1).f0) _ _ ((rd_T32 l0_2 x9_1).f1) _ _ ((rd_T32 l0_2 x9_1).f2) t259 _ ?side1 ?side2 ?side3 ?side4 A7.out).mono ?_);(case side1=>exact Kd.C_below HR257_1.out pB);(case side2=>exact HC257_1.out);(case side3=>exact Kd.C_below HR257_2.out pB);(case side4=>exact HC257_2.out);rintro e w12 ⟨rfl,hb⟩;refine ⟨_,rfl,?_⟩;have n0_:=Z (blk_below (g:=gb256) (o:=.cells #[.int .i64 a0_0,.slice A0_1 l0_1.length c0_1,.slice (some ad257) l0_2.length c0_2] 32 (0,0)) (by (with_reducible repeat (first|refine kN ?_ _|refine kD ?_|refine kA ?_ _));refine blk_far ?_ NB256_258.out _;(with_reducible repeat (first|refine kN ?_ _|refine kD ?_|refine kA ?_ _));refine blk_far ?_ NB256_258.out _;(with_reducible repeat (first|refine kN ?_ _|refine kD ?_|refine kA ?_ _));refine blk_far ?_ NB256_258.out _;(with_reducible repeat (first|refine kN ?_ _|refine kD ?_|refine kA ?_ _));exact BK256.out) hb);have n1_:=Z (blk_below (g:=gb258) (o:=.cells #[.int .i64 ((rd_T32 l0_2 x9_1).f0),.slice A257_1 ((rd_T32 l0_2 x9_1).f1).length c257_1,.slice A257_2 ((rd_T32 l0_2 x9_1).f2).length c257_2] 32 (0,0)) (by (with_reducible repeat (first|refine kN ?_ _|refine kD ?_|refine kA ?_ _));refine blk_put (cs:=#[.int .i64 ((rd_T32 l0_2 x9_1).f0),.slice A257_1 ((rd_T32 l0_2 x9_1).f1).length c257_1,.slice none 0 0]) ?_ 2 _ rfl;(with_reducible repeat (first|refine kN ?_ _|refine kD ?_|refine kA ?_ _));refine blk_put (cs:=#[.int .i64 ((rd_T32 l0_2 x9_1).f0),.slice none 0 0,.slice none 0 0]) ?_ 1 _ rfl;(with_reducible repeat (first|refine kN ?_ _|refine kD ?_|refine kA ?_ _));refine blk_put (cs:=#[.int .i64 0,.slice none 0 0,.slice none 0 0]) ?_ 0 _ rfl;(with_reducible repeat (first|refine kN ?_ _|refine kD ?_|refine kA ?_ _));exact BK258.out) hb);have n2_:=Z (below_step pB hb);clear BK256;clear BK258;clear HB;have BK256:=n0_;have BK258:=n1_;have HB:=n2_;clear n0_ n1_ n2_;(try clear hb);(try clear hb2);(try clear hk);(try clear hi)))
      go_roundg k1
      case measure=>have:=HK1.out;omega
      case rel=>exact ⟨(ji8),(wrap64 (x9_1+1)),(by first|exact pE|(simp only [← hji8] <;> (first|rfl|simp))),pE,H',⟨by have:=HK1.out;omega⟩,⟨pK BK256⟩,⟨pB⟩⟩
     ·rw [if_neg c6] at H
      exact absurd H (by simp)
    ·rw [if_neg c5] at H
     exact absurd H (by simp)
   ·rw [if_neg c4] at H
    have c4b0:decide (x9_1 < (l0_2.length:Int))=false:=decide_eq_false c4
    clear c4
    obtain rfl:=Option.some.inj H
    go_wp2
    go_ret
    exact ⟨pF,pB⟩
mutual
def threshold_Size.l0:Nat→Int→List (S32)→Int→Int→Option (Int)
 | 0,_,_,_,_=>none
 | k+1,x3,x14,x15,x16=>if x16 < x15 then (if 0≤x16 then (if x16 < (x14.length:Int) then ((threshold_Size.f k ((rd_T32 x14 x16).f0) ((rd_T32 x14 x16).f1) ((rd_T32 x14 x16).f2)).bind fun t263=>(threshold_Size.l0 k (wrap64 (x3+t263)) x14 x15 (wrap64 (x16+1)))) else (none)) else (none)) else (some x3)
def threshold_Size.f:Nat→Int→List Int→List (S32)→Option (Int)
 | 0,_,_,_=>none
 | k+1,a0_0,l0_1,l0_2=>threshold_Size.l0 k (wrap64 ((l0_1.length:Int)+(l0_2.length:Int))) l0_2 (l0_2.length:Int) 0
end
set_option maxHeartbeats 8000000 in
set_option maxRecDepth 100000 in
theorem threshold_Size.calls (k:Nat):∀ (a0_0:Int) (A0_1:Option Addr) (c0_1:Nat) (l0_1:List Int) (A0_2:Option Addr) (c0_2:Nat) (l0_2:List (S32)) (r:Int) (w:World) (hr0_1:Kd.C (Kd.int .i64) w A0_1 l0_1.length l0_1) (hc0_1:l0_1.length≤c0_1) (hr0_2:Kd.C k32 w A0_2 l0_2.length l0_2) (hc0_2:l0_2.length≤c0_2) (h:threshold_Size.f k a0_0 l0_1 l0_2=some r),
  Calls Try.prog 127 #[.agg #[.int .i64 a0_0,.slice A0_1 l0_1.length c0_1,.slice A0_2 l0_2.length c0_2]] w fun e w'=>e=.returned (.int .i64 r)∧Below w.heap.size w w':=by
 induction k using Nat.strongRecOn with
 | _ k ih =>
 intro a0_0 A0_1 c0_1 l0_1 A0_2 c0_2 l0_2 r w hr0_1 hc0_1 hr0_2 hc0_2 h
 cases k with
 | zero=>exact absurd h (by simp [threshold_Size.f])
 | succ k =>
 simp only [threshold_Size.f] at h
 have hu32:=Try.underlying32
 have HR0_1:=Z hr0_1
 have HC0_1:=Z hc0_1
 clear hr0_1 hc0_1
 have HR0_2:=Z hr0_2
 have HC0_2:=Z hc0_2
 clear hr0_2 hc0_2
 have HB:=Z (Below.refl w.heap.size w)
 have H:(threshold_Size.l0 k (wrap64 ((l0_1.length:Int)+(l0_2.length:Int))) l0_2 (l0_2.length:Int) 0)=some r:=h
 clear h
 have H':=Z H
 clear H
 go_enter Try.func127,Try.ntmps127
 go_wp2_with (first|((with_reducible refine gate_dst (N:=1) rfl ?_);refine box_event ?hg (N:=1) ?hd (cs:=#[.int .i64 a0_0,.slice A0_1 l0_1.length c0_1,.slice A0_2 l0_2.length c0_2]) (t:=32) ?hr ?_;(case hd=>rfl);(case hg=>rfl);(case hr=>first|(go_simp;done)|(go_simp;rfl));intro gb260 hg w2 hbox hb;have n0_:=Z (below_step pB hb);have n1_:=Z (hbox);have n2_:=Z ((pT hg:w.heap.size≤gb260));have n3_:=Z ((pT hg:w.heap.size≤gb260));clear HB;have HB:=n0_;have BK260:=n1_;have GW260:=n2_;have GE260:=n3_;clear n0_ n1_ n2_ n3_;clear hb hbox hg;have hcz3_0:w2.cell? ⟨gb260,0,none⟩=some (.int .i64 a0_0):=(kC BK260.out 0).trans rfl;have hcz3_1:w2.cell? ⟨gb260,1,none⟩=some (.slice A0_1 l0_1.length c0_1):=(kC BK260.out 1).trans rfl;have hcz3_2:w2.cell? ⟨gb260,2,none⟩=some (.slice A0_2 l0_2.length c0_2):=(kC BK260.out 2).trans rfl;have hfz3_0:=kF BK260.out 0;have hfz3_1:=kF BK260.out 1;have hfz3_2:=kF BK260.out 2))
 go_loopg [3,16] k (fun kq v3 v16 w'=>∃ (x3_1:Int) (x16_1:Int),v3=.int .i64 x3_1∧v16=.int .i64 x16_1∧Aside0 (threshold_Size.l0 kq x3_1 l0_2 (l0_2.length:Int) x16_1=some r)∧Aside0 (kq≤k)∧Aside0 (w'.heap[gb260]?=some (.cells #[.int .i64 a0_0,(.slice A0_1 l0_1.length c0_1),(.slice A0_2 l0_2.length c0_2)] 32 (0,0)))∧Aside0 (Below w.heap.size w w'))
 case atStart=>exact ⟨(wrap64 ((l0_1.length:Int)+(l0_2.length:Int))),(0),pE,pE,H',⟨Nat.le_refl _⟩,⟨pK BK260⟩,⟨pB⟩⟩
 case round =>
  clear H'
  try clear c1
  try clear p2
  try clear hcz3_0
  try clear hcz3_1
  try clear hcz3_2
  try clear hfz3_0
  try clear hfz3_1
  try clear hfz3_2
  obtain ⟨x3_1,x16_1,rfl,rfl,HA,HK1,BK260,HB⟩:=hrel
  cases gk with
  | zero=>exact absurd HA.out (by simp [threshold_Size.l0])
  | succ k1 =>
   have H:=HA.out
   clear HA
   simp only [threshold_Size.l0] at H
   by_cases c4:x16_1 < (l0_2.length:Int)
   ·rw [if_pos c4] at H
    have c4b0:decide (x16_1 < (l0_2.length:Int))=true:=decide_eq_true c4
    clear c4
    by_cases c5:0≤x16_1
    ·rw [if_pos c5] at H
     have c5b0:decide (0≤x16_1)=true:=decide_eq_true c5
     clear c5
     by_cases c6:x16_1 < (l0_2.length:Int)
     ·rw [if_pos c6] at H
      have c6b0:decide (x16_1 < (l0_2.length:Int))=true:=decide_eq_true c6
      clear c6
      replace H:=Option.bind_eq_some_iff.mp H
      obtain ⟨t263,A70,H⟩:=H
      try dsimp only at H
      have A7:=Z A70
      clear A70
      have H':=Z H
      clear H
      have p261:0≤(x16_1:Int):=of_decide_eq_true (by first|(with_reducible assumption)|assumption)
      have q261:x16_1 < (l0_2.length:Int):=of_decide_eq_true (by first|(with_reducible assumption)|assumption)
      obtain ⟨ad261,A261_1,c261_1,A261_2,c261_2,e261,hx261_0,hx261_1,hx261_2,hl261_1,hi261_1,hl261_2,hi261_2⟩:=at_T32 HR0_2.out x16_1 p261 q261
      cases e261
      replace hx261_0:=(HB.out.cell (World.block_lt_of_cell? w _ hx261_0)).trans hx261_0
      replace hx261_1:=(HB.out.cell (World.block_lt_of_cell? w _ hx261_1)).trans hx261_1
      replace hx261_2:=(HB.out.cell (World.block_lt_of_cell? w _ hx261_2)).trans hx261_2
      have HR261_1:=Z hi261_1
      have HC261_1:=Z hl261_1
      clear hi261_1 hl261_1
      have HR261_2:=Z hi261_2
      have HC261_2:=Z hl261_2
      clear hi261_2 hl261_2
      replace p261:=eq_true p261
      replace q261:=eq_true q261
      go_wp2_with (first|((with_reducible refine gate_dst (N:=5) rfl ?_);refine box_event ?hg (N:=5) ?hd (cs:=#[.int .i64 0,.slice none 0 0,.slice none 0 0]) (t:=32) ?hr ?_;(case hd=>rfl);(case hg=>rfl);(case hr=>first|(go_simp;done)|(go_simp;rfl));intro gb262 hg w8 hbox hb;have n0_:=Z (blk_below (g:=gb260) (o:=.cells #[.int .i64 a0_0,.slice A0_1 l0_1.length c0_1,.slice (some ad261) l0_2.length c0_2] 32 (0,0)) (pK BK260) hb);have n1_:=Z (below_step pB hb);have n2_:=Z (hbox);have n3_:=Z ((pT hg:w.heap.size≤gb262));have n4_:=Z ((pT hg:w.heap.size≤gb262));have n5_:=Z ((pL hg (pK BK260):gb260 ≠ gb262));have n6_:=Z ((pM hg (pK BK260):gb262 ≠ gb260));clear BK260;clear HB;have BK260:=n0_;have HB:=n1_;have BK262:=n2_;have GW262:=n3_;have GE262:=n4_;have NB260_262:=n5_;have NB262_260:=n6_;clear n0_ n1_ n2_ n3_ n4_ n5_ n6_;clear hb hbox hg;have hnb9:=NB262_260.out;have hnc9:=NB260_262.out;have hcz10_0:w8.cell? ⟨gb262,0,none⟩=some (.int .i64 0):=(kC BK262.out 0).trans rfl;have hcz10_1:w8.cell? ⟨gb262,1,none⟩=some (.slice none 0 0):=(kC BK262.out 1).trans rfl;have hcz10_2:w8.cell? ⟨gb262,2,none⟩=some (.slice none 0 0):=(kC BK262.out 2).trans rfl;have hfz10_0:=kF BK262.out 0;have hfz10_1:=kF BK262.out 1;have hfz10_2:=kF BK262.out 2)|((with_reducible refine gate_callee (f:=127) rfl ?_);refine goesL_ (some 22) rfl rfl Try.func127 (by kernel_rfl) rfl #[.agg #[.int .i64 ((rd_T32 l0_2 x16_1).f0),.slice A261_1 ((rd_T32 l0_2 x16_1).f1).length c261_1,.slice A261_2 ((rd_T32 l0_2 x16_1).f2).length c261_2]] rfl pG ?_;(with_reducible refine (ih k1 (by have:=HK1.out;omega) ((rd_T32 l0_2 x16_1).f0) _ _ ((rd_T32 l0_2 x16_1).f1) _ _ ((rd_T32 l0_2 x16_1).f2) t263 _ ?side1 ?side2 ?side3 ?side4 A7.out).mono ?_);(case side1=>exact Kd.C_below HR261_1.out pB);(case side2=>exact HC261_1.out);(case side3=>exact Kd.C_below HR261_2.out pB);(case side4=>exact HC261_2.out);rintro e w11 ⟨rfl,hb⟩;refine ⟨_,rfl,?_⟩;have n0_:=Z (blk_below (g:=gb260) (o:=.cells #[.int .i64 a0_0,.slice A0_1 l0_1.length c0_1,.slice (some ad261) l0_2.length c0_2] 32 (0,0)) (by (with_reducible repeat (first|refine kN ?_ _|refine kD ?_|refine kA ?_ _));refine blk_far ?_ NB260_262.out _;(with_reducible repeat (first|refine kN ?_ _|refine kD ?_|refine kA ?_ _));refine blk_far ?_ NB260_262.out _;(with_reducible repeat (first|refine kN ?_ _|refine kD ?_|refine kA ?_ _));refine blk_far ?_ NB260_262.out _;(with_reducible repeat (first|refine kN ?_ _|refine kD ?_|refine kA ?_ _));exact BK260.out) hb);have n1_:=Z (blk_below (g:=gb262) (o:=.cells #[.int .i64 ((rd_T32 l0_2 x16_1).f0),.slice A261_1 ((rd_T32 l0_2 x16_1).f1).length c261_1,.slice A261_2 ((rd_T32 l0_2 x16_1).f2).length c261_2] 32 (0,0)) (by (with_reducible repeat (first|refine kN ?_ _|refine kD ?_|refine kA ?_ _));refine blk_put (cs:=#[.int .i64 ((rd_T32 l0_2 x16_1).f0),.slice A261_1 ((rd_T32 l0_2 x16_1).f1).length c261_1,.slice none 0 0]) ?_ 2 _ rfl;(with_reducible repeat (first|refine kN ?_ _|refine kD ?_|refine kA ?_ _));refine blk_put (cs:=#[.int .i64 ((rd_T32 l0_2 x16_1).f0),.slice none 0 0,.slice none 0 0]) ?_ 1 _ rfl;(with_reducible repeat (first|refine kN ?_ _|refine kD ?_|refine kA ?_ _));refine blk_put (cs:=#[.int .i64 0,.slice none 0 0,.slice none 0 0]) ?_ 0 _ rfl;(with_reducible repeat (first|refine kN ?_ _|refine kD ?_|refine kA ?_ _));exact BK262.out) hb);have n2_:=Z (below_step pB hb);clear BK260;clear BK262;clear HB;have BK260:=n0_;have BK262:=n1_;have HB:=n2_;clear n0_ n1_ n2_;(try clear hb);(try clear hb2);(try clear hk);(try clear hi)))
      go_roundg k1
      case measure=>have:=HK1.out;omega
      case rel=>exact ⟨(wrap64 (x3_1+t263)),(wrap64 (x16_1+1)),pE,pE,H',⟨by have:=HK1.out;omega⟩,⟨pK BK260⟩,⟨pB⟩⟩
     ·rw [if_neg c6] at H
      exact absurd H (by simp)
    ·rw [if_neg c5] at H
     exact absurd H (by simp)
   ·rw [if_neg c4] at H
    have c4b0:decide (x16_1 < (l0_2.length:Int))=false:=decide_eq_false c4
    clear c4
    obtain rfl:=Option.some.inj H
    go_wp2
    go_ret
    exact ⟨pF,pB⟩
def nodeset_below.f (a0:Int) (a1:Int):Option (Bool):=if a0 ≥ 0 then (if 0≤a1 then (some (decide (a0 < (shl .i64 1 a1)))) else (none)) else (some false)
set_option maxHeartbeats 8000000 in
set_option maxRecDepth 100000 in
theorem nodeset_below.calls (a0:Int) (a1:Int) (r:Bool) (w:World) (h:nodeset_below.f a0 a1=some r) :
  Calls Try.prog 91 #[.int .i64 a0,.int .i64 a1] w fun e w'=>e=.returned (.bool r)∧Drawn0 w w':=by
 have H:(if a0 ≥ 0 then (if 0≤a1 then (some (decide (a0 < (shl .i64 1 a1)))) else (none)) else (some false))=some r:=h
 clear h
 by_cases c3:a0 ≥ 0
 ·rw [if_pos c3] at H
  have c3b0:decide (0≤a0)=true:=decide_eq_true c3
  clear c3
  by_cases c4:0≤a1
  ·rw [if_pos c4] at H
   have c4b0:=eq_true c4
   have c4b1:decide (0≤a1)=true:=decide_eq_true c4
   clear c4
   obtain ⟨ji5,hji5⟩:∃ j_:Int,(shl .i64 1 a1)=j_:=⟨_,rfl⟩
   replace H:(some (decide (a0 < (ji5))))=some r:=by first|(rw [hji5] at H;exact H)|(simp only [hji5] at H ⊢;exact H)
   have hji5_:(IntKind.i64.wrap (1 * 2 ^ min a1.toNat 64))=ji5:=hji5
   have hji5z:a1≤64→(IntKind.i64.wrap (1 * 2 ^ a1.toNat))=ji5:=shl_small hji5
   have hji5u:(IntKind.i64.wrap (2 ^ min a1.toNat 64))=ji5:=by have h_:=hji5_;rw [Int.one_mul] at h_;exact h_
   have hji5v:a1≤64→(IntKind.i64.wrap (2 ^ a1.toNat))=ji5:=fun hle_=>by have h_:=hji5z hle_;rw [Int.one_mul] at h_;exact h_
   have hji5y:(wrap64 (1 * 2 ^ min a1.toNat 64))=ji5:=(i64_w _).symm.trans hji5_
   have hji5x:a1≤64→(wrap64 (1 * 2 ^ a1.toNat))=ji5:=fun h_=>(i64_w _).symm.trans (hji5z h_)
   obtain rfl:=Option.some.inj H
   go_enter Try.func91,Try.ntmps91
   go_wp2
   go_ret
   exact ⟨by first|rfl|(simp;done)|(simp only [← hji5] <;> (first|rfl|simp))|(simp [*];done),by repeat (first|exact Drawn0.refl _|apply Drawn0.step)⟩
  ·rw [if_neg c4] at H
   exact absurd H (by simp)
 ·rw [if_neg c3] at H
  have c3b0:decide (0≤a0)=false:=decide_eq_false c3
  clear c3
  obtain rfl:=Option.some.inj H
  go_enter Try.func91,Try.ntmps91
  go_wp2
  go_ret
  exact ⟨by first|rfl|(simp;done)|(simp [*];done),by repeat (first|exact Drawn0.refl _|apply Drawn0.step)⟩
def nodeset_Valid.f (a0:Int):Option (Bool):=(nodeset_below.f a0 10).bind fun t231=>(some t231)
set_option maxHeartbeats 8000000 in
set_option maxRecDepth 100000 in
theorem nodeset_Valid.calls (a0:Int) (r:Bool) (w:World) (h:nodeset_Valid.f a0=some r) :
  Calls Try.prog 59 #[.int .i64 a0] w fun e w'=>e=.returned (.bool r)∧Drawn0 w w':=by
 have H:((nodeset_below.f a0 10).bind fun t231=>(some t231))=some r:=h
 clear h
 replace H:=Option.bind_eq_some_iff.mp H
 obtain ⟨t231,A20,H⟩:=H
 try dsimp only at H
 have A2:=Z A20
 clear A20
 obtain rfl:=Option.some.inj H
 go_enter Try.func59,Try.ntmps59
 go_wp2_with (first|((with_reducible refine gate_callee (f:=91) rfl ?_);refine goesL_ (some 4) rfl rfl Try.func91 (by kernel_rfl) rfl #[.int .i64 a0,.int .i64 10] rfl pG ?_;(with_reducible refine (nodeset_below.calls a0 10 t231 _ A2.out).mono ?_);rintro e w' ⟨rfl,⟨nd,rfl⟩⟩;refine ⟨_,rfl,?_⟩))
 go_ret
 exact ⟨by first|rfl|(simp;done)|(simp [*];done),by repeat (first|exact Drawn0.refl _|apply Drawn0.step)⟩
def nodeset_Has.f (a0:Int) (a1:Int):Option (Bool):=(nodeset_Valid.f a0).bind fun t232=>(if t232=true then (if a1 ≥ 0 then (if a1 < 10 then (if 0≤a1 then (some ((Go.bits .and .i64 a0 (shl .i64 1 a1)) != 0)) else (none)) else (some false)) else (some false)) else (some false))
set_option maxHeartbeats 8000000 in
set_option maxRecDepth 100000 in
theorem nodeset_Has.calls (a0:Int) (a1:Int) (r:Bool) (w:World) (h:nodeset_Has.f a0 a1=some r) :
  Calls Try.prog 60 #[.int .i64 a0,.int .i64 a1] w fun e w'=>e=.returned (.bool r)∧Drawn0 w w':=by
 have H:((nodeset_Valid.f a0).bind fun t232=>(if t232=true then (if a1 ≥ 0 then (if a1 < 10 then (if 0≤a1 then (some ((Go.bits .and .i64 a0 (shl .i64 1 a1)) != 0)) else (none)) else (some false)) else (some false)) else (some false)))=some r:=h
 clear h
 replace H:=Option.bind_eq_some_iff.mp H
 obtain ⟨t232,A30,H⟩:=H
 try dsimp only at H
 have A3:=Z A30
 clear A30
 by_cases c4:t232=true
 ·subst c4
  rw [if_pos rfl] at H
  by_cases c5:a1 ≥ 0
  ·rw [if_pos c5] at H
   have c5b0:decide (0≤a1)=true:=decide_eq_true c5
   clear c5
   by_cases c6:a1 < 10
   ·rw [if_pos c6] at H
    have c6b0:decide (a1 < 10)=true:=decide_eq_true c6
    clear c6
    by_cases c7:0≤a1
    ·rw [if_pos c7] at H
     have c7b0:=eq_true c7
     have c7b1:decide (0≤a1)=true:=decide_eq_true c7
     clear c7
     obtain ⟨ji8,hji8⟩:∃ j_:Int,(shl .i64 1 a1)=j_:=⟨_,rfl⟩
     replace H:(some ((Go.bits .and .i64 a0 (ji8)) != 0))=some r:=by first|(rw [hji8] at H;exact H)|(simp only [hji8] at H ⊢;exact H)
     (try rw [hji8] at A3)
     have hji8_:(IntKind.i64.wrap (1 * 2 ^ min a1.toNat 64))=ji8:=hji8
     have hji8z:a1≤64→(IntKind.i64.wrap (1 * 2 ^ a1.toNat))=ji8:=shl_small hji8
     have hji8u:(IntKind.i64.wrap (2 ^ min a1.toNat 64))=ji8:=by have h_:=hji8_;rw [Int.one_mul] at h_;exact h_
     have hji8v:a1≤64→(IntKind.i64.wrap (2 ^ a1.toNat))=ji8:=fun hle_=>by have h_:=hji8z hle_;rw [Int.one_mul] at h_;exact h_
     have hji8y:(wrap64 (1 * 2 ^ min a1.toNat 64))=ji8:=(i64_w _).symm.trans hji8_
     have hji8x:a1≤64→(wrap64 (1 * 2 ^ a1.toNat))=ji8:=fun h_=>(i64_w _).symm.trans (hji8z h_)
     obtain rfl:=Option.some.inj H
     go_enter Try.func60,Try.ntmps60
     go_wp2_with (first|((with_reducible refine gate_callee (f:=59) rfl ?_);refine goesL_ (some 6) rfl rfl Try.func59 (by kernel_rfl) rfl #[.int .i64 a0] rfl pG ?_;(with_reducible refine (nodeset_Valid.calls a0 true _ A3.out).mono ?_);rintro e w' ⟨rfl,⟨nd,rfl⟩⟩;refine ⟨_,rfl,?_⟩))
     go_ret
     exact ⟨by first|rfl|(simp;done)|(simp only [← hji8] <;> (first|rfl|simp))|(simp [*];done),by repeat (first|exact Drawn0.refl _|apply Drawn0.step)⟩
    ·rw [if_neg c7] at H
     exact absurd H (by simp)
   ·rw [if_neg c6] at H
    have c6b0:decide (a1 < 10)=false:=decide_eq_false c6
    clear c6
    obtain rfl:=Option.some.inj H
    go_enter Try.func60,Try.ntmps60
    go_wp2_with (first|((with_reducible refine gate_callee (f:=59) rfl ?_);refine goesL_ (some 6) rfl rfl Try.func59 (by kernel_rfl) rfl #[.int .i64 a0] rfl pG ?_;(with_reducible refine (nodeset_Valid.calls a0 true _ A3.out).mono ?_);rintro e w' ⟨rfl,⟨nd,rfl⟩⟩;refine ⟨_,rfl,?_⟩))
    go_ret
    exact ⟨by first|rfl|(simp;done)|(simp [*];done),by repeat (first|exact Drawn0.refl _|apply Drawn0.step)⟩
  ·rw [if_neg c5] at H
   have c5b0:decide (0≤a1)=false:=decide_eq_false c5
   clear c5
   obtain rfl:=Option.some.inj H
   go_enter Try.func60,Try.ntmps60
   go_wp2_with (first|((with_reducible refine gate_callee (f:=59) rfl ?_);refine goesL_ (some 6) rfl rfl Try.func59 (by kernel_rfl) rfl #[.int .i64 a0] rfl pG ?_;(with_reducible refine (nodeset_Valid.calls a0 true _ A3.out).mono ?_);rintro e w' ⟨rfl,⟨nd,rfl⟩⟩;refine ⟨_,rfl,?_⟩))
   go_ret
   exact ⟨by first|rfl|(simp;done)|(simp [*];done),by repeat (first|exact Drawn0.refl _|apply Drawn0.step)⟩
 ·replace c4:=Bool.eq_false_iff.mpr c4
  subst c4
  rw [if_neg (show ¬ (false=true) by decide)] at H
  obtain rfl:=Option.some.inj H
  go_enter Try.func60,Try.ntmps60
  go_wp2_with (first|((with_reducible refine gate_callee (f:=59) rfl ?_);refine goesL_ (some 6) rfl rfl Try.func59 (by kernel_rfl) rfl #[.int .i64 a0] rfl pG ?_;(with_reducible refine (nodeset_Valid.calls a0 false _ A3.out).mono ?_);rintro e w' ⟨rfl,⟨nd,rfl⟩⟩;refine ⟨_,rfl,?_⟩))
  go_ret
  exact ⟨by first|rfl|(simp;done)|(simp [*];done),by repeat (first|exact Drawn0.refl _|apply Drawn0.step)⟩
mutual
def nodeset_Of.l0:Nat→Int→List Int→Int→Int→Option (Int × Int)
 | 0,_,_,_,_=>none
 | k+1,x4,x7,x8,x9=>if x9 < x8 then (if 0≤x9 then (if x9 < (x7.length:Int) then (if (rd x7 x9) < 0 then (nodeset_Of.j1 k x4 (rd x7 x9) x7 x8 x9 true) else (nodeset_Of.j1 k x4 (rd x7 x9) x7 x8 x9 (decide ((rd x7 x9) ≥ 10)))) else (none)) else (none)) else (some (x4,0))
def nodeset_Of.j1:Nat→Int→Int→List Int→Int→Int→Bool→Option (Int × Int)
 | 0,_,_,_,_,_,_=>none
 | k+1,x4,x6,x7,x8,x9,x18=>if x18=true then (some (0,5)) else ((nodeset_Has.f x4 x6).bind fun t265=>(if t265=true then (some (0,6)) else (if 0≤x6 then (nodeset_Of.l0 k (Go.bits .or .i64 x4 (shl .i64 1 x6)) x7 x8 (wrap64 (x9+1))) else (none))))
end
def nodeset_Of.f (k:Nat) (l0:List Int):Option (Int × Int):=nodeset_Of.l0 k 0 l0 (l0.length:Int) 0
set_option maxHeartbeats 8000000 in
set_option maxRecDepth 100000 in
theorem nodeset_Of.calls (k:Nat) (A0:Option Addr) (c0:Nat) (l0:List Int) (r1:Int) (r2:Int) (w:World) (hr0:Kd.C (Kd.int .i64) w A0 l0.length l0) (hc0:l0.length≤c0) (h:nodeset_Of.f k l0=some (r1,r2)) :
  Calls Try.prog 147 #[.slice A0 l0.length c0] w fun e w'=>e=.returned (.tuple #[.int .i64 r1,.int .i64 r2])∧Drawn0 w w':=by
 have HR0:=Z hr0
 have HC0:=Z hc0
 clear hr0 hc0
 have H:(nodeset_Of.l0 k 0 l0 (l0.length:Int) 0)=some (r1,r2):=h
 clear h
 have H':=Z H
 clear H
 go_enter Try.func147,Try.ntmps147
 go_wp2
 go_loopg [4,9] k (fun kq v4 v9 w'=>∃ (x4_1:Int) (x9_1:Int),v4=.int .i64 x4_1∧v9=.int .i64 x9_1∧Aside0 (nodeset_Of.l0 kq x4_1 l0 (l0.length:Int) x9_1=some (r1,r2))∧Aside0 (kq≤k)∧Drawn0 w w')
 case atStart=>exact ⟨(0),(0),pE,pE,H',⟨Nat.le_refl _⟩,by repeat (first|exact Drawn0.refl _|apply Drawn0.step)⟩
 case round =>
  clear H'
  try clear c1
  obtain ⟨x4_1,x9_1,rfl,rfl,HA,HK1,⟨m1,rfl⟩⟩:=hrel
  cases gk with
  | zero=>exact absurd HA.out (by simp [nodeset_Of.l0])
  | succ k1 =>
   have H:=HA.out
   clear HA
   simp only [nodeset_Of.l0] at H
   by_cases c2:x9_1 < (l0.length:Int)
   ·rw [if_pos c2] at H
    have c2b0:decide (x9_1 < (l0.length:Int))=true:=decide_eq_true c2
    clear c2
    by_cases c3:0≤x9_1
    ·rw [if_pos c3] at H
     have c3b0:decide (0≤x9_1)=true:=decide_eq_true c3
     clear c3
     by_cases c4:x9_1 < (l0.length:Int)
     ·rw [if_pos c4] at H
      have c4b0:decide (x9_1 < (l0.length:Int))=true:=decide_eq_true c4
      clear c4
      have HC5:=Z H
      clear H
      have p264:0≤(x9_1:Int):=of_decide_eq_true (by first|(with_reducible assumption)|assumption)
      have q264:x9_1 < (l0.length:Int):=of_decide_eq_true (by first|(with_reducible assumption)|assumption)
      obtain ⟨ad264,e264,hx264_0⟩:=Kd.at_int HR0.out x9_1 p264 q264
      cases e264
      replace p264:=eq_true p264
      replace q264:=eq_true q264
      go_upto_region 5 with (fail)
      go_cut [18] (fun v18 wc=>∃ (kq:Nat) (x18_4:Bool),v18=.bool x18_4∧Aside0 (nodeset_Of.j1 kq x4_1 (rd l0 x9_1) l0 (l0.length:Int) x9_1 x18_4=some (r1,r2))∧Aside0 (kq≤k1)∧Drawn0 w wc)
      case first =>
       have H:=HC5.out
       clear HC5
       by_cases c6:(rd l0 x9_1) < 0
       ·rw [if_pos c6] at H
        have c6b0:decide ((rd l0 x9_1) < 0)=true:=decide_eq_true c6
        clear c6
        (first|rw [c6b0]|(simp only [i64_w,i32_w];rw [c6b0])|skip)
        have H':=Z H
        clear H
        go_wp2
        go_meet
        case rel=>exact ⟨_,(true),pE,H',⟨by have:=HK1.out;first|omega|exact Nat.le_refl _⟩,by repeat (first|exact Drawn0.refl _|apply Drawn0.step)⟩
       ·rw [if_neg c6] at H
        have c6b0:decide ((rd l0 x9_1) < 0)=false:=decide_eq_false c6
        clear c6
        (first|rw [c6b0]|(simp only [i64_w,i32_w];rw [c6b0])|skip)
        have H':=Z H
        clear H
        go_wp2
        go_meet
        case rel=>exact ⟨_,(decide ((rd l0 x9_1) ≥ 10)),pE,H',⟨by have:=HK1.out;first|omega|exact Nat.le_refl _⟩,by repeat (first|exact Drawn0.refl _|apply Drawn0.step)⟩
      case rest =>
       clear HC5
       try clear c1
       try clear c2
       try clear c2b0
       try clear p2
       try clear q2
       try clear hx2
       try clear c3
       try clear c3b0
       try clear c4
       try clear c4b0
       try clear c6
       try clear c6b0
       try clear hx264_0
       try clear p264
       try clear q264
       obtain ⟨kq,x18_4,rfl,HA,HJ4,⟨mc4,rfl⟩⟩:=hcut
       cases kq with
       | zero=>exact absurd HA.out (by simp [nodeset_Of.j1])
       | succ kj4 =>
        have H:=HA.out
        clear HA
        simp only [nodeset_Of.j1] at H
        by_cases c7:x18_4=true
        ·subst c7
         rw [if_pos rfl] at H
         simp only [Option.some.injEq,Prod.mk.injEq] at H
         obtain ⟨rfl,rfl⟩:=H
         go_wp2
         go_ret2
         exact ⟨by first|rfl|(simp;done)|(simp [*];done),by repeat (first|exact Drawn0.refl _|apply Drawn0.step)⟩
        ·replace c7:=Bool.eq_false_iff.mpr c7
         subst c7
         rw [if_neg (show ¬ (false=true) by decide)] at H
         replace H:=Option.bind_eq_some_iff.mp H
         obtain ⟨t265,A80,H⟩:=H
         try dsimp only at H
         have A8:=Z A80
         clear A80
         by_cases c9:t265=true
         ·subst c9
          rw [if_pos rfl] at H
          simp only [Option.some.injEq,Prod.mk.injEq] at H
          obtain ⟨rfl,rfl⟩:=H
          go_wp2_with (first|((with_reducible refine gate_callee (f:=60) rfl ?_);refine goesL_ (some 21) rfl rfl Try.func60 (by kernel_rfl) rfl #[.int .i64 x4_1,.int .i64 (rd l0 x9_1)] rfl pG ?_;(with_reducible refine (nodeset_Has.calls x4_1 (rd l0 x9_1) true _ A8.out).mono ?_);rintro e w' ⟨rfl,⟨nd,rfl⟩⟩;refine ⟨_,rfl,?_⟩))
          go_ret2
          exact ⟨by first|rfl|(simp;done)|(simp [*];done),by repeat (first|exact Drawn0.refl _|apply Drawn0.step)⟩
         ·replace c9:=Bool.eq_false_iff.mpr c9
          subst c9
          rw [if_neg (show ¬ (false=true) by decide)] at H
          by_cases c10:0≤(rd l0 x9_1)
          ·rw [if_pos c10] at H
           have c10b0:=eq_true c10
           have c10b1:decide (0≤(rd l0 x9_1))=true:=decide_eq_true c10
           clear c10
           obtain ⟨ji11,hji11⟩:∃ j_:Int,(shl .i64 1 (rd l0 x9_1))=j_:=⟨_,rfl⟩
           replace H:(nodeset_Of.l0 kj4 (Go.bits .or .i64 x4_1 (ji11)) l0 (l0.length:Int) (wrap64 (x9_1+1)))=some (r1,r2):=by first|(rw [hji11] at H;exact H)|(simp only [hji11] at H ⊢;exact H)
           (try rw [hji11] at A8)
           have hji11_:(IntKind.i64.wrap (1 * 2 ^ min (rd l0 x9_1).toNat 64))=ji11:=hji11
           have hji11z:(rd l0 x9_1)≤64→(IntKind.i64.wrap (1 * 2 ^ (rd l0 x9_1).toNat))=ji11:=shl_small hji11
           have hji11u:(IntKind.i64.wrap (2 ^ min (rd l0 x9_1).toNat 64))=ji11:=by have h_:=hji11_;rw [Int.one_mul] at h_;exact h_
           have hji11v:(rd l0 x9_1)≤64→(IntKind.i64.wrap (2 ^ (rd l0 x9_1).toNat))=ji11:=fun hle_=>by have h_:=hji11z hle_;rw [Int.one_mul] at h_;exact h_
           have hji11y:(wrap64 (1 * 2 ^ min (rd l0 x9_1).toNat 64))=ji11:=(i64_w _).symm.trans hji11_
           have hji11x:(rd l0 x9_1)≤64→(wrap64 (1 * 2 ^ (rd l0 x9_1).toNat))=ji11:=fun h_=>(i64_w _).symm.trans (hji11z h_)
           have H':=Z H
           clear H
           go_wp2_with (first|((with_reducible refine gate_callee (f:=60) rfl ?_);refine goesL_ (some 21) rfl rfl Try.func60 (by kernel_rfl) rfl #[.int .i64 x4_1,.int .i64 (rd l0 x9_1)] rfl pG ?_;(with_reducible refine (nodeset_Has.calls x4_1 (rd l0 x9_1) false _ A8.out).mono ?_);rintro e w' ⟨rfl,⟨nd,rfl⟩⟩;refine ⟨_,rfl,?_⟩))
           go_roundg kj4
           case measure=>have:=HK1.out;have:=HJ4.out;omega
           case rel=>exact ⟨(Go.bits .or .i64 x4_1 (ji11)),(wrap64 (x9_1+1)),(by first|exact pE|(simp only [← hji11] <;> (first|rfl|simp))),pE,H',⟨by have:=HK1.out;have:=HJ4.out;omega⟩,by repeat (first|exact Drawn0.refl _|apply Drawn0.step)⟩
          ·rw [if_neg c10] at H
           exact absurd H (by simp)
     ·rw [if_neg c4] at H
      exact absurd H (by simp)
    ·rw [if_neg c3] at H
     exact absurd H (by simp)
   ·rw [if_neg c2] at H
    have c2b0:decide (x9_1 < (l0.length:Int))=false:=decide_eq_false c2
    clear c2
    simp only [Option.some.injEq,Prod.mk.injEq] at H
    obtain ⟨rfl,rfl⟩:=H
    go_wp2
    go_ret2
    exact ⟨by first|rfl|(simp;done)|(simp [*];done),by repeat (first|exact Drawn0.refl _|apply Drawn0.step)⟩
def configuration_Declared.l0:Nat→Int→List (S34)→Int→Int→Option (Int)
 | 0,_,_,_,_=>none
 | k+1,x3,x7,x8,x9=>if x9 < x8 then (if 0≤x9 then (if x9 < (x7.length:Int) then (if (rd_T34 x7 x9).f0=true then (if x9 < 10 then (configuration_Declared.l0 k (Go.bits .or .i64 x3 (shl .i64 1 x9)) x7 x8 (wrap64 (x9+1))) else (configuration_Declared.l0 k x3 x7 x8 (wrap64 (x9+1)))) else (configuration_Declared.l0 k x3 x7 x8 (wrap64 (x9+1)))) else (none)) else (none)) else (some x3)
def configuration_Declared.f (k:Nat) (l0_0:List (S34)):Option (Int):=configuration_Declared.l0 k 0 l0_0 (l0_0.length:Int) 0
set_option maxHeartbeats 8000000 in
set_option maxRecDepth 100000 in
theorem configuration_Declared.calls (k:Nat) (A0_0:Option Addr) (c0_0:Nat) (l0_0:List (S34)) (r:Int) (w:World) (hr0_0:Kd.C k34 w A0_0 l0_0.length l0_0) (hc0_0:l0_0.length≤c0_0) (h:configuration_Declared.f k l0_0=some r) :
  Calls Try.prog 61 #[.agg #[.slice A0_0 l0_0.length c0_0]] w fun e w'=>e=.returned (.int .i64 r)∧Below w.heap.size w w':=by
 have hu27:=Try.underlying27
 have hu34:=Try.underlying34
 have HR0_0:=Z hr0_0
 have HC0_0:=Z hc0_0
 clear hr0_0 hc0_0
 have HB:=Z (Below.refl w.heap.size w)
 have H:(configuration_Declared.l0 k 0 l0_0 (l0_0.length:Int) 0)=some r:=h
 clear h
 have H':=Z H
 clear H
 go_enter Try.func61,Try.ntmps61
 go_wp2_with (first|((with_reducible refine gate_dst (N:=1) rfl ?_);refine box_event ?hg (N:=1) ?hd (cs:=#[.slice A0_0 l0_0.length c0_0]) (t:=27) ?hr ?_;(case hd=>rfl);(case hg=>rfl);(case hr=>first|(go_simp;done)|(go_simp;rfl));intro gb233 hg w2 hbox hb;have n0_:=Z (below_step pB hb);have n1_:=Z (hbox);have n2_:=Z ((pT hg:w.heap.size≤gb233));have n3_:=Z ((pT hg:w.heap.size≤gb233));clear HB;have HB:=n0_;have BK233:=n1_;have GW233:=n2_;have GE233:=n3_;clear n0_ n1_ n2_ n3_;clear hb hbox hg;have hcz3_0:w2.cell? ⟨gb233,0,none⟩=some (.slice A0_0 l0_0.length c0_0):=(kC BK233.out 0).trans rfl;have hfz3_0:=kF BK233.out 0))
 go_loopg [3,9] k (fun kq v3 v9 w'=>∃ (x3_1:Int) (x9_1:Int),v3=.int .i64 x3_1∧v9=.int .i64 x9_1∧Aside0 (configuration_Declared.l0 kq x3_1 l0_0 (l0_0.length:Int) x9_1=some r)∧Aside0 (kq≤k)∧Aside0 (w'.heap[gb233]?=some (.cells #[(.slice A0_0 l0_0.length c0_0)] 27 (0,0)))∧Aside0 (Below w.heap.size w w'))
 case atStart=>exact ⟨(0),(0),pE,pE,H',⟨Nat.le_refl _⟩,⟨pK BK233⟩,⟨pB⟩⟩
 case round =>
  clear H'
  try clear p2
  try clear hcz3_0
  try clear hfz3_0
  obtain ⟨x3_1,x9_1,rfl,rfl,HA,HK1,BK233,HB⟩:=hrel
  cases gk with
  | zero=>exact absurd HA.out (by simp [configuration_Declared.l0])
  | succ k1 =>
   have H:=HA.out
   clear HA
   simp only [configuration_Declared.l0] at H
   by_cases c4:x9_1 < (l0_0.length:Int)
   ·rw [if_pos c4] at H
    have c4b0:decide (x9_1 < (l0_0.length:Int))=true:=decide_eq_true c4
    clear c4
    by_cases c5:0≤x9_1
    ·rw [if_pos c5] at H
     have c5b0:decide (0≤x9_1)=true:=decide_eq_true c5
     clear c5
     by_cases c6:x9_1 < (l0_0.length:Int)
     ·rw [if_pos c6] at H
      have c6b0:decide (x9_1 < (l0_0.length:Int))=true:=decide_eq_true c6
      clear c6
      obtain ⟨bq7,hbq7⟩:∃ b_:Bool,b_=((rd_T34 l0_0 x9_1).f0):=⟨_,rfl⟩
      replace H:(if bq7=true then (if x9_1 < 10 then (configuration_Declared.l0 k1 (Go.bits .or .i64 x3_1 (shl .i64 1 x9_1)) l0_0 (l0_0.length:Int) (wrap64 (x9_1+1))) else (configuration_Declared.l0 k1 x3_1 l0_0 (l0_0.length:Int) (wrap64 (x9_1+1)))) else (configuration_Declared.l0 k1 x3_1 l0_0 (l0_0.length:Int) (wrap64 (x9_1+1))))=some r:=by rw [← hbq7] at H;exact H
      have Nbq7:=Z hbq7
      clear hbq7
      by_cases c8:bq7=true
      ·subst c8
       rw [if_pos rfl] at H
       by_cases c9:x9_1 < 10
       ·rw [if_pos c9] at H
        have c9b0:decide (x9_1 < 10)=true:=decide_eq_true c9
        clear c9
        have c10b0:=eq_true (of_decide_eq_true (by first|(with_reducible assumption)|assumption):0≤x9_1)
        obtain ⟨ji11,hji11⟩:∃ j_:Int,(shl .i64 1 x9_1)=j_:=⟨_,rfl⟩
        replace H:(configuration_Declared.l0 k1 (Go.bits .or .i64 x3_1 (ji11)) l0_0 (l0_0.length:Int) (wrap64 (x9_1+1)))=some r:=by first|(rw [hji11] at H;exact H)|(simp only [hji11] at H ⊢;exact H)
        have hji11_:(IntKind.i64.wrap (1 * 2 ^ min x9_1.toNat 64))=ji11:=hji11
        have hji11z:x9_1≤64→(IntKind.i64.wrap (1 * 2 ^ x9_1.toNat))=ji11:=shl_small hji11
        have hji11u:(IntKind.i64.wrap (2 ^ min x9_1.toNat 64))=ji11:=by have h_:=hji11_;rw [Int.one_mul] at h_;exact h_
        have hji11v:x9_1≤64→(IntKind.i64.wrap (2 ^ x9_1.toNat))=ji11:=fun hle_=>by have h_:=hji11z hle_;rw [Int.one_mul] at h_;exact h_
        have hji11y:(wrap64 (1 * 2 ^ min x9_1.toNat 64))=ji11:=(i64_w _).symm.trans hji11_
        have hji11x:x9_1≤64→(wrap64 (1 * 2 ^ x9_1.toNat))=ji11:=fun h_=>(i64_w _).symm.trans (hji11z h_)
        have H':=Z H
        clear H
        have p234:0≤(x9_1:Int):=of_decide_eq_true (by first|(with_reducible assumption)|assumption)
        have q234:x9_1 < (l0_0.length:Int):=of_decide_eq_true (by first|(with_reducible assumption)|assumption)
        obtain ⟨ad234,A234_2,c234_2,A234_3,c234_3,e234,hx234_0,hx234_1,hx234_2,hx234_3,hl234_2,hi234_2,hl234_3,hi234_3⟩:=at_T34 HR0_0.out x9_1 p234 q234
        (try rw [← Nbq7.out] at hx234_0)
        cases e234
        replace hx234_0:=(HB.out.cell (World.block_lt_of_cell? w _ hx234_0)).trans hx234_0
        replace hx234_1:=(HB.out.cell (World.block_lt_of_cell? w _ hx234_1)).trans hx234_1
        replace hx234_2:=(HB.out.cell (World.block_lt_of_cell? w _ hx234_2)).trans hx234_2
        replace hx234_3:=(HB.out.cell (World.block_lt_of_cell? w _ hx234_3)).trans hx234_3
        have HR234_2:=Z hi234_2
        have HC234_2:=Z hl234_2
        clear hi234_2 hl234_2
        have HR234_3:=Z hi234_3
        have HC234_3:=Z hl234_3
        clear hi234_3 hl234_3
        replace p234:=eq_true p234
        replace q234:=eq_true q234
        go_wp2_with (first|((with_reducible refine gate_dst (N:=5) rfl ?_);refine box_event ?hg (N:=5) ?hd (cs:=#[.bool false,.int .i64 0,.slice none 0 0,.slice none 0 0]) (t:=34) ?hr ?_;(case hd=>rfl);(case hg=>rfl);(case hr=>first|(go_simp;done)|(go_simp;rfl));intro gb235 hg w12 hbox hb;have n0_:=Z (blk_below (g:=gb233) (o:=.cells #[.slice (some ad234) l0_0.length c0_0] 27 (0,0)) (pK BK233) hb);have n1_:=Z (below_step pB hb);have n2_:=Z (hbox);have n3_:=Z ((pT hg:w.heap.size≤gb235));have n4_:=Z ((pT hg:w.heap.size≤gb235));have n5_:=Z ((pL hg (pK BK233):gb233 ≠ gb235));have n6_:=Z ((pM hg (pK BK233):gb235 ≠ gb233));clear BK233;clear HB;have BK233:=n0_;have HB:=n1_;have BK235:=n2_;have GW235:=n3_;have GE235:=n4_;have NB233_235:=n5_;have NB235_233:=n6_;clear n0_ n1_ n2_ n3_ n4_ n5_ n6_;clear hb hbox hg;have hnb13:=NB235_233.out;have hnc13:=NB233_235.out;have hcz14_0:w12.cell? ⟨gb235,0,none⟩=some (.bool false):=(kC BK235.out 0).trans rfl;have hcz14_1:w12.cell? ⟨gb235,1,none⟩=some (.int .i64 0):=(kC BK235.out 1).trans rfl;have hcz14_2:w12.cell? ⟨gb235,2,none⟩=some (.slice none 0 0):=(kC BK235.out 2).trans rfl;have hcz14_3:w12.cell? ⟨gb235,3,none⟩=some (.slice none 0 0):=(kC BK235.out 3).trans rfl;have hfz14_0:=kF BK235.out 0;have hfz14_1:=kF BK235.out 1;have hfz14_2:=kF BK235.out 2;have hfz14_3:=kF BK235.out 3))
        go_roundg k1
        case measure=>have:=HK1.out;omega
        case rel=>exact ⟨(Go.bits .or .i64 x3_1 (ji11)),(wrap64 (x9_1+1)),(by first|exact pE|(simp only [← hji11] <;> (first|rfl|simp))),pE,H',⟨by have:=HK1.out;omega⟩,⟨by (with_reducible repeat (first|refine kN ?_ _|refine kD ?_|refine kA ?_ _));refine blk_far ?_ NB233_235.out _;(with_reducible repeat (first|refine kN ?_ _|refine kD ?_|refine kA ?_ _));refine blk_far ?_ NB233_235.out _;(with_reducible repeat (first|refine kN ?_ _|refine kD ?_|refine kA ?_ _));refine blk_far ?_ NB233_235.out _;(with_reducible repeat (first|refine kN ?_ _|refine kD ?_|refine kA ?_ _));refine blk_far ?_ NB233_235.out _;(with_reducible repeat (first|refine kN ?_ _|refine kD ?_|refine kA ?_ _));exact BK233.out⟩,⟨pB⟩⟩
       ·rw [if_neg c9] at H
        have c9b0:decide (x9_1 < 10)=false:=decide_eq_false c9
        clear c9
        have H':=Z H
        clear H
        have p234:0≤(x9_1:Int):=of_decide_eq_true (by first|(with_reducible assumption)|assumption)
        have q234:x9_1 < (l0_0.length:Int):=of_decide_eq_true (by first|(with_reducible assumption)|assumption)
        obtain ⟨ad234,A234_2,c234_2,A234_3,c234_3,e234,hx234_0,hx234_1,hx234_2,hx234_3,hl234_2,hi234_2,hl234_3,hi234_3⟩:=at_T34 HR0_0.out x9_1 p234 q234
        (try rw [← Nbq7.out] at hx234_0)
        cases e234
        replace hx234_0:=(HB.out.cell (World.block_lt_of_cell? w _ hx234_0)).trans hx234_0
        replace hx234_1:=(HB.out.cell (World.block_lt_of_cell? w _ hx234_1)).trans hx234_1
        replace hx234_2:=(HB.out.cell (World.block_lt_of_cell? w _ hx234_2)).trans hx234_2
        replace hx234_3:=(HB.out.cell (World.block_lt_of_cell? w _ hx234_3)).trans hx234_3
        have HR234_2:=Z hi234_2
        have HC234_2:=Z hl234_2
        clear hi234_2 hl234_2
        have HR234_3:=Z hi234_3
        have HC234_3:=Z hl234_3
        clear hi234_3 hl234_3
        replace p234:=eq_true p234
        replace q234:=eq_true q234
        go_wp2_with (first|((with_reducible refine gate_dst (N:=5) rfl ?_);refine box_event ?hg (N:=5) ?hd (cs:=#[.bool false,.int .i64 0,.slice none 0 0,.slice none 0 0]) (t:=34) ?hr ?_;(case hd=>rfl);(case hg=>rfl);(case hr=>first|(go_simp;done)|(go_simp;rfl));intro gb235 hg w15 hbox hb;have n0_:=Z (blk_below (g:=gb233) (o:=.cells #[.slice (some ad234) l0_0.length c0_0] 27 (0,0)) (pK BK233) hb);have n1_:=Z (below_step pB hb);have n2_:=Z (hbox);have n3_:=Z ((pT hg:w.heap.size≤gb235));have n4_:=Z ((pT hg:w.heap.size≤gb235));have n5_:=Z ((pL hg (pK BK233):gb233 ≠ gb235));have n6_:=Z ((pM hg (pK BK233):gb235 ≠ gb233));clear BK233;clear HB;have BK233:=n0_;have HB:=n1_;have BK235:=n2_;have GW235:=n3_;have GE235:=n4_;have NB233_235:=n5_;have NB235_233:=n6_;clear n0_ n1_ n2_ n3_ n4_ n5_ n6_;clear hb hbox hg;have hnb16:=NB235_233.out;have hnc16:=NB233_235.out;have hcz17_0:w15.cell? ⟨gb235,0,none⟩=some (.bool false):=(kC BK235.out 0).trans rfl;have hcz17_1:w15.cell? ⟨gb235,1,none⟩=some (.int .i64 0):=(kC BK235.out 1).trans rfl;have hcz17_2:w15.cell? ⟨gb235,2,none⟩=some (.slice none 0 0):=(kC BK235.out 2).trans rfl;have hcz17_3:w15.cell? ⟨gb235,3,none⟩=some (.slice none 0 0):=(kC BK235.out 3).trans rfl;have hfz17_0:=kF BK235.out 0;have hfz17_1:=kF BK235.out 1;have hfz17_2:=kF BK235.out 2;have hfz17_3:=kF BK235.out 3))
        go_roundg k1
        case measure=>have:=HK1.out;omega
        case rel=>exact ⟨(x3_1),(wrap64 (x9_1+1)),pE,pE,H',⟨by have:=HK1.out;omega⟩,⟨by (with_reducible repeat (first|refine kN ?_ _|refine kD ?_|refine kA ?_ _));refine blk_far ?_ NB233_235.out _;(with_reducible repeat (first|refine kN ?_ _|refine kD ?_|refine kA ?_ _));refine blk_far ?_ NB233_235.out _;(with_reducible repeat (first|refine kN ?_ _|refine kD ?_|refine kA ?_ _));refine blk_far ?_ NB233_235.out _;(with_reducible repeat (first|refine kN ?_ _|refine kD ?_|refine kA ?_ _));refine blk_far ?_ NB233_235.out _;(with_reducible repeat (first|refine kN ?_ _|refine kD ?_|refine kA ?_ _));exact BK233.out⟩,⟨pB⟩⟩
      ·replace c8:=Bool.eq_false_iff.mpr c8
       subst c8
       rw [if_neg (show ¬ (false=true) by decide)] at H
       have H':=Z H
       clear H
       have p234:0≤(x9_1:Int):=of_decide_eq_true (by first|(with_reducible assumption)|assumption)
       have q234:x9_1 < (l0_0.length:Int):=of_decide_eq_true (by first|(with_reducible assumption)|assumption)
       obtain ⟨ad234,A234_2,c234_2,A234_3,c234_3,e234,hx234_0,hx234_1,hx234_2,hx234_3,hl234_2,hi234_2,hl234_3,hi234_3⟩:=at_T34 HR0_0.out x9_1 p234 q234
       (try rw [← Nbq7.out] at hx234_0)
       cases e234
       replace hx234_0:=(HB.out.cell (World.block_lt_of_cell? w _ hx234_0)).trans hx234_0
       replace hx234_1:=(HB.out.cell (World.block_lt_of_cell? w _ hx234_1)).trans hx234_1
       replace hx234_2:=(HB.out.cell (World.block_lt_of_cell? w _ hx234_2)).trans hx234_2
       replace hx234_3:=(HB.out.cell (World.block_lt_of_cell? w _ hx234_3)).trans hx234_3
       have HR234_2:=Z hi234_2
       have HC234_2:=Z hl234_2
       clear hi234_2 hl234_2
       have HR234_3:=Z hi234_3
       have HC234_3:=Z hl234_3
       clear hi234_3 hl234_3
       replace p234:=eq_true p234
       replace q234:=eq_true q234
       go_wp2_with (first|((with_reducible refine gate_dst (N:=5) rfl ?_);refine box_event ?hg (N:=5) ?hd (cs:=#[.bool false,.int .i64 0,.slice none 0 0,.slice none 0 0]) (t:=34) ?hr ?_;(case hd=>rfl);(case hg=>rfl);(case hr=>first|(go_simp;done)|(go_simp;rfl));intro gb235 hg w18 hbox hb;have n0_:=Z (blk_below (g:=gb233) (o:=.cells #[.slice (some ad234) l0_0.length c0_0] 27 (0,0)) (pK BK233) hb);have n1_:=Z (below_step pB hb);have n2_:=Z (hbox);have n3_:=Z ((pT hg:w.heap.size≤gb235));have n4_:=Z ((pT hg:w.heap.size≤gb235));have n5_:=Z ((pL hg (pK BK233):gb233 ≠ gb235));have n6_:=Z ((pM hg (pK BK233):gb235 ≠ gb233));clear BK233;clear HB;have BK233:=n0_;have HB:=n1_;have BK235:=n2_;have GW235:=n3_;have GE235:=n4_;have NB233_235:=n5_;have NB235_233:=n6_;clear n0_ n1_ n2_ n3_ n4_ n5_ n6_;clear hb hbox hg;have hnb19:=NB235_233.out;have hnc19:=NB233_235.out;have hcz20_0:w18.cell? ⟨gb235,0,none⟩=some (.bool false):=(kC BK235.out 0).trans rfl;have hcz20_1:w18.cell? ⟨gb235,1,none⟩=some (.int .i64 0):=(kC BK235.out 1).trans rfl;have hcz20_2:w18.cell? ⟨gb235,2,none⟩=some (.slice none 0 0):=(kC BK235.out 2).trans rfl;have hcz20_3:w18.cell? ⟨gb235,3,none⟩=some (.slice none 0 0):=(kC BK235.out 3).trans rfl;have hfz20_0:=kF BK235.out 0;have hfz20_1:=kF BK235.out 1;have hfz20_2:=kF BK235.out 2;have hfz20_3:=kF BK235.out 3))
       go_roundg k1
       case measure=>have:=HK1.out;omega
       case rel=>exact ⟨(x3_1),(wrap64 (x9_1+1)),pE,pE,H',⟨by have:=HK1.out;omega⟩,⟨by (with_reducible repeat (first|refine kN ?_ _|refine kD ?_|refine kA ?_ _));refine blk_far ?_ NB233_235.out _;(with_reducible repeat (first|refine kN ?_ _|refine kD ?_|refine kA ?_ _));refine blk_far ?_ NB233_235.out _;(with_reducible repeat (first|refine kN ?_ _|refine kD ?_|refine kA ?_ _));refine blk_far ?_ NB233_235.out _;(with_reducible repeat (first|refine kN ?_ _|refine kD ?_|refine kA ?_ _));refine blk_far ?_ NB233_235.out _;(with_reducible repeat (first|refine kN ?_ _|refine kD ?_|refine kA ?_ _));exact BK233.out⟩,⟨pB⟩⟩
     ·rw [if_neg c6] at H
      exact absurd H (by simp)
    ·rw [if_neg c5] at H
     exact absurd H (by simp)
   ·rw [if_neg c4] at H
    have c4b0:decide (x9_1 < (l0_0.length:Int))=false:=decide_eq_false c4
    clear c4
    obtain rfl:=Option.some.inj H
    go_wp2
    go_ret
    exact ⟨pF,pB⟩
def closure_inside.f (k:Nat) (l0_0:List (S34)) (a1:Int):Option (Bool):=(configuration_Declared.f k l0_0).bind fun t627=>(some ((Go.bits .andNot .i64 a1 t627) == 0))
set_option maxHeartbeats 8000000 in
set_option maxRecDepth 100000 in
theorem closure_inside.calls (k:Nat) (A0_0:Option Addr) (c0_0:Nat) (l0_0:List (S34)) (a1:Int) (r:Bool) (w:World) (hr0_0:Kd.C k34 w A0_0 l0_0.length l0_0) (hc0_0:l0_0.length≤c0_0) (h:closure_inside.f k l0_0 a1=some r) :
  Calls Try.prog 119 #[.agg #[.slice A0_0 l0_0.length c0_0],.int .i64 a1] w fun e w'=>e=.returned (.bool r)∧Below w.heap.size w w':=by
 have hu27:=Try.underlying27
 have HR0_0:=Z hr0_0
 have HC0_0:=Z hc0_0
 clear hr0_0 hc0_0
 have HB:=Z (Below.refl w.heap.size w)
 have H:((configuration_Declared.f k l0_0).bind fun t627=>(some ((Go.bits .andNot .i64 a1 t627) == 0)))=some r:=h
 clear h
 replace H:=Option.bind_eq_some_iff.mp H
 obtain ⟨t627,A30,H⟩:=H
 try dsimp only at H
 have A3:=Z A30
 clear A30
 obtain rfl:=Option.some.inj H
 go_enter Try.func119,Try.ntmps119
 go_wp2_with (first|((with_reducible refine gate_dst (N:=2) rfl ?_);refine box_event ?hg (N:=2) ?hd (cs:=#[.slice A0_0 l0_0.length c0_0]) (t:=27) ?hr ?_;(case hd=>rfl);(case hg=>rfl);(case hr=>first|(go_simp;done)|(go_simp;rfl));intro gb626 hg w4 hbox hb;have n0_:=Z (below_step pB hb);have n1_:=Z (hbox);have n2_:=Z ((pT hg:w.heap.size≤gb626));have n3_:=Z ((pT hg:w.heap.size≤gb626));clear HB;have HB:=n0_;have BK626:=n1_;have GW626:=n2_;have GE626:=n3_;clear n0_ n1_ n2_ n3_;clear hb hbox hg;have hcz5_0:w4.cell? ⟨gb626,0,none⟩=some (.slice A0_0 l0_0.length c0_0):=(kC BK626.out 0).trans rfl;have hfz5_0:=kF BK626.out 0)|((with_reducible refine gate_callee (f:=61) rfl ?_);refine goesL_ (some 7) rfl rfl Try.func61 (by kernel_rfl) rfl #[.agg #[.slice A0_0 l0_0.length c0_0]] rfl pG ?_;(with_reducible refine (configuration_Declared.calls k _ _ l0_0 t627 _ ?side1 ?side2 A3.out).mono ?_);(case side1=>repeat (first|exact (Kd.C_below HR0_0.out HB.out)|(with_reducible refine Kd.C_alloc ?_ _)|(with_reducible refine Kd.C_drewN ?_ _)|(with_reducible refine Kd.C_drew ?_)));(case side2=>exact HC0_0.out);rintro e w6 ⟨rfl,hb⟩;refine ⟨_,rfl,?_⟩;have n0_:=Z (blk_below (g:=gb626) (o:=.cells #[.slice A0_0 l0_0.length c0_0] 27 (0,0)) (pK BK626) hb);have n1_:=Z (below_step pB hb);clear BK626;clear HB;have BK626:=n0_;have HB:=n1_;clear n0_ n1_;(try clear hb);(try clear hb2);(try clear hk);(try clear hi)))
 go_ret
 exact ⟨pF,pB⟩
def nodeset_Nodes.l0:Nat→Int→List Int→Int→Option (List Int)
 | 0,_,_,_=>none
 | k+1,x0,x3,x5=>if x5 < 10 then ((nodeset_Has.f x0 x5).bind fun t311=>(if t311=true then (if x3.length < 17592186044416 then (nodeset_Nodes.l0 k x0 (x3++[x5]) (wrap64 (x5+1))) else (none)) else (nodeset_Nodes.l0 k x0 x3 (wrap64 (x5+1))))) else (some x3)
def nodeset_Nodes.f (k:Nat) (a0:Int):Option (List Int):=nodeset_Nodes.l0 k a0 ([]:List Int) 0
set_option maxHeartbeats 8000000 in
set_option maxRecDepth 100000 in
theorem nodeset_Nodes.calls (k:Nat) (a0:Int) (r:List Int) (w:World) (h:nodeset_Nodes.f k a0=some r) :
  Calls Try.prog 77 #[.int .i64 a0] w fun e w'=>∃ v0_:Value,e=.returned (v0_)∧Kd.R (Kd.int .i64) 3 w' w.heap.size (fun _=>True) v0_ r∧Below w.heap.size w w':=by
 have HB:=Z (Below.refl w.heap.size w)
 have H:(nodeset_Nodes.l0 k a0 ([]:List Int) 0)=some r:=h
 clear h
 have H':=Z H
 clear H
 go_enter Try.func77,Try.ntmps77
 go_wp2
 go_loopg [3,5] k (fun kq v3 v5 w'=>∃ (x3_1:List Int) (x5_1:Int),v5=.int .i64 x5_1∧Aside0 (nodeset_Nodes.l0 kq a0 x3_1 x5_1=some r)∧Aside0 (kq≤k)∧Aside0 (Kd.R (Kd.int .i64) 3 w' w.heap.size (fun _=>True) v3 x3_1)∧Aside0 (Below w.heap.size w w'))
 case atStart=>exact ⟨(([]:List Int)),(0),pE,H',⟨Nat.le_refl _⟩,⟨pN⟩,⟨pB⟩⟩
 case round =>
  clear H'
  obtain ⟨x3_1,x5_1,rfl,HA,HK1,HO_3,HB⟩:=hrel
  cases gk with
  | zero=>exact absurd HA.out (by simp [nodeset_Nodes.l0])
  | succ k1 =>
   have H:=HA.out
   clear HA
   simp only [nodeset_Nodes.l0] at H
   by_cases c2:x5_1 < 10
   ·rw [if_pos c2] at H
    have c2b0:decide (x5_1 < 10)=true:=decide_eq_true c2
    clear c2
    replace H:=Option.bind_eq_some_iff.mp H
    obtain ⟨t311,A30,H⟩:=H
    try dsimp only at H
    have A3:=Z A30
    clear A30
    by_cases c4:t311=true
    ·subst c4
     rw [if_pos rfl] at H
     by_cases c5:x3_1.length < 17592186044416
     ·rw [if_pos c5] at H
      have LMc5:=Z c5
      clear c5
      obtain ⟨y312,hy312⟩:∃ y_:List Int,y_=(x3_1++[x5_1]):=⟨_,rfl⟩
      first|rw [← hy312] at H|(replace H:=(Option.bind_some _ _).symm.trans H;rw [← hy312] at H)
      have Ny312:=Z hy312
      clear hy312
      have H':=Z H
      clear H
      go_wp2_with (first|((with_reducible refine gate_callee (f:=60) rfl ?_);refine goesL_ (some 10) rfl rfl Try.func60 (by kernel_rfl) rfl #[.int .i64 a0,.int .i64 x5_1] rfl pG ?_;(with_reducible refine (nodeset_Has.calls a0 x5_1 true _ A3.out).mono ?_);rintro e w' ⟨rfl,⟨nd,rfl⟩⟩;refine ⟨_,rfl,?_⟩)|((with_reducible refine gate_builtin (b:=.append) (xs:=#[.tmp 11,.tmp 13]) rfl ?_);at_builtin;refine Kd.R_append (Kd.int .i64) (w0:=w) w.heap.size rfl (.tmp 11) (.tmp 13) 22 3 (.int .i64 0) 8 rfl Try.underlying22 info3 rfl (by decide) (by omega) u3 x3_1 x5_1 [.int .i64 x5_1] (fun _=>True) (fun _=>False) rfl rfl ?aP (fun _ hk=>hk.elim) ?aF ?aO ?aB ?aS ?aL ?_;(case aP=>exact rfl);(case aB=>exact pB);(case aF=>exact (fun _ _=>trivial));(case aO=>exact (pR HO_3));(case aS=>exact (below_size pB));(case aL=>have:=LMc5.out;omega);intro v313 w6 ho hb hg hat;rw [← Ny312.out] at ho;have n0_:=Z (hb);have n1_:=Z (ho);clear HB;clear HO_3;have HB:=n0_;have HO314:=n1_;clear n0_ n1_;clear ho hb hg hat))
      go_roundg k1
      case measure=>have:=HK1.out;omega
      case rel=>exact ⟨(y312),(wrap64 (x5_1+1)),pE,H',⟨by have:=HK1.out;omega⟩,⟨pR HO314⟩,⟨pB⟩⟩
     ·rw [if_neg c5] at H
      exact absurd H (by simp)
    ·replace c4:=Bool.eq_false_iff.mpr c4
     subst c4
     rw [if_neg (show ¬ (false=true) by decide)] at H
     have H':=Z H
     clear H
     go_wp2_with (first|((with_reducible refine gate_callee (f:=60) rfl ?_);refine goesL_ (some 10) rfl rfl Try.func60 (by kernel_rfl) rfl #[.int .i64 a0,.int .i64 x5_1] rfl pG ?_;(with_reducible refine (nodeset_Has.calls a0 x5_1 false _ A3.out).mono ?_);rintro e w' ⟨rfl,⟨nd,rfl⟩⟩;refine ⟨_,rfl,?_⟩))
     go_roundg k1
     case measure=>have:=HK1.out;omega
     case rel=>exact ⟨(x3_1),(wrap64 (x5_1+1)),pE,H',⟨by have:=HK1.out;omega⟩,⟨pR HO_3⟩,⟨pB⟩⟩
   ·rw [if_neg c2] at H
    have c2b0:decide (x5_1 < 10)=false:=decide_eq_false c2
    clear c2
    obtain rfl:=Option.some.inj H
    go_wp2
    go_ret
    exact ⟨_,pF,pR HO_3,pB⟩
mutual
def threshold_Satisfied.l0:Nat→Int→Int→List Int→Int→Int→Int→List Int→List (S32)→Option (Bool)
 | 0,_,_,_,_,_,_,_,_=>none
 | k+1,x1,x5,x14,x15,x16,x237000,x237001,x237002=>if x16 < x15 then (if 0≤x16 then (if x16 < (x14.length:Int) then ((nodeset_Has.f x1 (rd x14 x16)).bind fun t239=>(if t239=true then (threshold_Satisfied.l0 k x1 (wrap64 (x5+1)) x14 x15 (wrap64 (x16+1)) x237000 x237001 x237002) else (threshold_Satisfied.l0 k x1 x5 x14 x15 (wrap64 (x16+1)) x237000 x237001 x237002))) else (none)) else (none)) else (threshold_Satisfied.l1 k x1 x5 x237002 (x237002.length:Int) 0 x237000 x237001 x237002)
def threshold_Satisfied.l1:Nat→Int→Int→List (S32)→Int→Int→Int→List Int→List (S32)→Option (Bool)
 | 0,_,_,_,_,_,_,_,_=>none
 | k+1,x1,x5,x27,x28,x29,x237000,x237001,x237002=>if x29 < x28 then (if 0≤x29 then (if x29 < (x27.length:Int) then ((threshold_Satisfied.f k ((rd_T32 x27 x29).f0) ((rd_T32 x27 x29).f1) ((rd_T32 x27 x29).f2) x1).bind fun t242=>(if t242=true then (threshold_Satisfied.l1 k x1 (wrap64 (x5+1)) x27 x28 (wrap64 (x29+1)) x237000 x237001 x237002) else (threshold_Satisfied.l1 k x1 x5 x27 x28 (wrap64 (x29+1)) x237000 x237001 x237002))) else (none)) else (none)) else (some (decide (x5 ≥ x237000)))
def threshold_Satisfied.f:Nat→Int→List Int→List (S32)→Int→Option (Bool)
 | 0,_,_,_,_=>none
 | k+1,a0_0,l0_1,l0_2,a1=>(nodeset_Valid.f a1).bind fun t237=>(if t237=true then (threshold_Satisfied.l0 k a1 0 l0_1 (l0_1.length:Int) 0 a0_0 l0_1 l0_2) else (some false))
end
set_option maxHeartbeats 8000000 in
set_option maxRecDepth 100000 in
theorem threshold_Satisfied.calls (k:Nat):∀ (a0_0:Int) (A0_1:Option Addr) (c0_1:Nat) (l0_1:List Int) (A0_2:Option Addr) (c0_2:Nat) (l0_2:List (S32)) (a1:Int) (r:Bool) (w:World) (hr0_1:Kd.C (Kd.int .i64) w A0_1 l0_1.length l0_1) (hc0_1:l0_1.length≤c0_1) (hr0_2:Kd.C k32 w A0_2 l0_2.length l0_2) (hc0_2:l0_2.length≤c0_2) (h:threshold_Satisfied.f k a0_0 l0_1 l0_2 a1=some r),
  Calls Try.prog 62 #[.agg #[.int .i64 a0_0,.slice A0_1 l0_1.length c0_1,.slice A0_2 l0_2.length c0_2],.int .i64 a1] w fun e w'=>e=.returned (.bool r)∧Below w.heap.size w w':=by
 induction k using Nat.strongRecOn with
 | _ k ih =>
 intro a0_0 A0_1 c0_1 l0_1 A0_2 c0_2 l0_2 a1 r w hr0_1 hc0_1 hr0_2 hc0_2 h
 cases k with
 | zero=>exact absurd h (by simp [threshold_Satisfied.f])
 | succ k =>
 simp only [threshold_Satisfied.f] at h
 have hu32:=Try.underlying32
 have HR0_1:=Z hr0_1
 have HC0_1:=Z hc0_1
 clear hr0_1 hc0_1
 have HR0_2:=Z hr0_2
 have HC0_2:=Z hc0_2
 clear hr0_2 hc0_2
 have HB:=Z (Below.refl w.heap.size w)
 have H:((nodeset_Valid.f a1).bind fun t237=>(if t237=true then (threshold_Satisfied.l0 k a1 0 l0_1 (l0_1.length:Int) 0 a0_0 l0_1 l0_2) else (some false)))=some r:=h
 clear h
 replace H:=Option.bind_eq_some_iff.mp H
 obtain ⟨t237,A30,H⟩:=H
 try dsimp only at H
 have A3:=Z A30
 clear A30
 by_cases c4:t237=true
 ·subst c4
  rw [if_pos rfl] at H
  have H':=Z H
  clear H
  go_enter Try.func62,Try.ntmps62
  go_wp2_with (first|((with_reducible refine gate_dst (N:=2) rfl ?_);refine box_event ?hg (N:=2) ?hd (cs:=#[.int .i64 a0_0,.slice A0_1 l0_1.length c0_1,.slice A0_2 l0_2.length c0_2]) (t:=32) ?hr ?_;(case hd=>rfl);(case hg=>rfl);(case hr=>first|(go_simp;done)|(go_simp;rfl));intro gb236 hg w5 hbox hb;have n0_:=Z (below_step pB hb);have n1_:=Z (hbox);have n2_:=Z ((pT hg:w.heap.size≤gb236));have n3_:=Z ((pT hg:w.heap.size≤gb236));clear HB;have HB:=n0_;have BK236:=n1_;have GW236:=n2_;have GE236:=n3_;clear n0_ n1_ n2_ n3_;clear hb hbox hg)|((with_reducible refine gate_callee (f:=59) rfl ?_);refine goesL_ (some 11) rfl rfl Try.func59 (by kernel_rfl) rfl #[.int .i64 a1] rfl pG ?_;(with_reducible refine (nodeset_Valid.calls a1 true _ A3.out).mono ?_);rintro e w' ⟨rfl,⟨nd,rfl⟩⟩;refine ⟨_,rfl,?_⟩;have hcz6_0:w5.cell? ⟨gb236,0,none⟩=some (.int .i64 a0_0):=(kC BK236.out 0).trans rfl;have hcz6_1:w5.cell? ⟨gb236,1,none⟩=some (.slice A0_1 l0_1.length c0_1):=(kC BK236.out 1).trans rfl;have hcz6_2:w5.cell? ⟨gb236,2,none⟩=some (.slice A0_2 l0_2.length c0_2):=(kC BK236.out 2).trans rfl;have hfz6_0:=kF BK236.out 0;have hfz6_1:=kF BK236.out 1;have hfz6_2:=kF BK236.out 2))
  go_loopg [5,16] k (fun kq v5 v16 w'=>∃ (x5_1:Int) (x16_1:Int),v5=.int .i64 x5_1∧v16=.int .i64 x16_1∧Aside0 (threshold_Satisfied.l0 kq a1 x5_1 l0_1 (l0_1.length:Int) x16_1 a0_0 l0_1 l0_2=some r)∧Aside0 (kq≤k)∧Aside0 (w'.heap[gb236]?=some (.cells #[.int .i64 a0_0,(.slice A0_1 l0_1.length c0_1),(.slice A0_2 l0_2.length c0_2)] 32 (0,0)))∧Aside0 (Below w.heap.size w w'))
  case atStart=>exact ⟨(0),(0),pE,pE,H',⟨Nat.le_refl _⟩,⟨pK BK236⟩,⟨pB⟩⟩
  case round =>
   clear H'
   try clear p2
   try clear c4
   try clear c5
   try clear c6
   try clear hcz6_0
   try clear hcz6_1
   try clear hcz6_2
   try clear hfz6_0
   try clear hfz6_1
   try clear hfz6_2
   obtain ⟨x5_1,x16_1,rfl,rfl,HA,HK1,BK236,HB⟩:=hrel
   cases gk with
   | zero=>exact absurd HA.out (by simp [threshold_Satisfied.l0])
   | succ k1 =>
    have H:=HA.out
    clear HA
    simp only [threshold_Satisfied.l0] at H
    by_cases c7:x16_1 < (l0_1.length:Int)
    ·rw [if_pos c7] at H
     have c7b0:decide (x16_1 < (l0_1.length:Int))=true:=decide_eq_true c7
     clear c7
     by_cases c8:0≤x16_1
     ·rw [if_pos c8] at H
      have c8b0:decide (0≤x16_1)=true:=decide_eq_true c8
      clear c8
      by_cases c9:x16_1 < (l0_1.length:Int)
      ·rw [if_pos c9] at H
       have c9b0:decide (x16_1 < (l0_1.length:Int))=true:=decide_eq_true c9
       clear c9
       replace H:=Option.bind_eq_some_iff.mp H
       obtain ⟨t239,A100,H⟩:=H
       try dsimp only at H
       have A10:=Z A100
       clear A100
       by_cases c11:t239=true
       ·subst c11
        rw [if_pos rfl] at H
        have H':=Z H
        clear H
        have p238:0≤(x16_1:Int):=of_decide_eq_true (by first|(with_reducible assumption)|assumption)
        have q238:x16_1 < (l0_1.length:Int):=of_decide_eq_true (by first|(with_reducible assumption)|assumption)
        obtain ⟨ad238,e238,hx238_0⟩:=Kd.at_int HR0_1.out x16_1 p238 q238
        cases e238
        replace hx238_0:=(HB.out.cell (World.block_lt_of_cell? w _ hx238_0)).trans hx238_0
        replace p238:=eq_true p238
        replace q238:=eq_true q238
        go_wp2_with (first|((with_reducible refine gate_callee (f:=60) rfl ?_);refine goesL_ (some 22) rfl rfl Try.func60 (by kernel_rfl) rfl #[.int .i64 a1,.int .i64 (rd l0_1 x16_1)] rfl pG ?_;(with_reducible refine (nodeset_Has.calls a1 (rd l0_1 x16_1) true _ A10.out).mono ?_);rintro e w' ⟨rfl,⟨nd,rfl⟩⟩;refine ⟨_,rfl,?_⟩))
        go_roundg k1
        case measure=>have:=HK1.out;omega
        case rel=>exact ⟨(wrap64 (x5_1+1)),(wrap64 (x16_1+1)),pE,pE,H',⟨by have:=HK1.out;omega⟩,⟨pK BK236⟩,⟨pB⟩⟩
       ·replace c11:=Bool.eq_false_iff.mpr c11
        subst c11
        rw [if_neg (show ¬ (false=true) by decide)] at H
        have H':=Z H
        clear H
        have p238:0≤(x16_1:Int):=of_decide_eq_true (by first|(with_reducible assumption)|assumption)
        have q238:x16_1 < (l0_1.length:Int):=of_decide_eq_true (by first|(with_reducible assumption)|assumption)
        obtain ⟨ad238,e238,hx238_0⟩:=Kd.at_int HR0_1.out x16_1 p238 q238
        cases e238
        replace hx238_0:=(HB.out.cell (World.block_lt_of_cell? w _ hx238_0)).trans hx238_0
        replace p238:=eq_true p238
        replace q238:=eq_true q238
        go_wp2_with (first|((with_reducible refine gate_callee (f:=60) rfl ?_);refine goesL_ (some 22) rfl rfl Try.func60 (by kernel_rfl) rfl #[.int .i64 a1,.int .i64 (rd l0_1 x16_1)] rfl pG ?_;(with_reducible refine (nodeset_Has.calls a1 (rd l0_1 x16_1) false _ A10.out).mono ?_);rintro e w' ⟨rfl,⟨nd,rfl⟩⟩;refine ⟨_,rfl,?_⟩))
        go_roundg k1
        case measure=>have:=HK1.out;omega
        case rel=>exact ⟨(x5_1),(wrap64 (x16_1+1)),pE,pE,H',⟨by have:=HK1.out;omega⟩,⟨pK BK236⟩,⟨pB⟩⟩
      ·rw [if_neg c9] at H
       exact absurd H (by simp)
     ·rw [if_neg c8] at H
      exact absurd H (by simp)
    ·rw [if_neg c7] at H
     have c7b0:decide (x16_1 < (l0_1.length:Int))=false:=decide_eq_false c7
     clear c7
     have H':=Z H
     clear H
     have hcz12_0:wr.cell? ⟨gb236,0,none⟩=some (.int .i64 a0_0):=(kC BK236.out 0).trans rfl
     have hcz12_1:wr.cell? ⟨gb236,1,none⟩=some (.slice A0_1 l0_1.length c0_1):=(kC BK236.out 1).trans rfl
     have hcz12_2:wr.cell? ⟨gb236,2,none⟩=some (.slice A0_2 l0_2.length c0_2):=(kC BK236.out 2).trans rfl
     have hfz12_0:=kF BK236.out 0
     have hfz12_1:=kF BK236.out 1
     have hfz12_2:=kF BK236.out 2
     go_wp2
     go_loopg [5,29] k1 (fun kq v5 v29 w'=>∃ (x5_2:Int) (x29_2:Int),v5=.int .i64 x5_2∧v29=.int .i64 x29_2∧Aside0 (threshold_Satisfied.l1 kq a1 x5_2 l0_2 (l0_2.length:Int) x29_2 a0_0 l0_1 l0_2=some r)∧Aside0 (kq≤k1)∧Aside0 (w'.heap[gb236]?=some (.cells #[.int .i64 a0_0,(.slice A0_1 l0_1.length c0_1),(.slice A0_2 l0_2.length c0_2)] 32 (0,0)))∧Aside0 (Below w.heap.size w w'))
     case atStart=>exact ⟨(x5_1),(0),pE,pE,H',⟨Nat.le_refl _⟩,⟨pK BK236⟩,⟨pB⟩⟩
     case round =>
      clear H'
      try clear c1
      try clear p2
      try clear q2
      try clear hx2
      try clear c4
      try clear c5
      try clear c6
      try clear p6
      try clear c7
      try clear c7b0
      try clear c8
      try clear c8b0
      try clear c9
      try clear c9b0
      try clear c11
      try clear hcz12_0
      try clear hcz12_1
      try clear hcz12_2
      try clear hcz6_0
      try clear hcz6_1
      try clear hcz6_2
      try clear hfz12_0
      try clear hfz12_1
      try clear hfz12_2
      try clear hfz6_0
      try clear hfz6_1
      try clear hfz6_2
      try clear hx238_0
      try clear p238
      try clear q238
      obtain ⟨x5_2,x29_2,rfl,rfl,HA,HK2,BK236,HB⟩:=hrel
      cases gk with
      | zero=>exact absurd HA.out (by simp [threshold_Satisfied.l1])
      | succ k2 =>
       have H:=HA.out
       clear HA
       simp only [threshold_Satisfied.l1] at H
       by_cases c13:x29_2 < (l0_2.length:Int)
       ·rw [if_pos c13] at H
        have c13b0:decide (x29_2 < (l0_2.length:Int))=true:=decide_eq_true c13
        clear c13
        by_cases c14:0≤x29_2
        ·rw [if_pos c14] at H
         have c14b0:decide (0≤x29_2)=true:=decide_eq_true c14
         clear c14
         by_cases c15:x29_2 < (l0_2.length:Int)
         ·rw [if_pos c15] at H
          have c15b0:decide (x29_2 < (l0_2.length:Int))=true:=decide_eq_true c15
          clear c15
          replace H:=Option.bind_eq_some_iff.mp H
          obtain ⟨t242,A160,H⟩:=H
          try dsimp only at H
          have A16:=Z A160
          clear A160
          by_cases c17:t242=true
          ·subst c17
           rw [if_pos rfl] at H
           have H':=Z H
           clear H
           have p240:0≤(x29_2:Int):=of_decide_eq_true (by first|(with_reducible assumption)|assumption)
           have q240:x29_2 < (l0_2.length:Int):=of_decide_eq_true (by first|(with_reducible assumption)|assumption)
           obtain ⟨ad240,A240_1,c240_1,A240_2,c240_2,e240,hx240_0,hx240_1,hx240_2,hl240_1,hi240_1,hl240_2,hi240_2⟩:=at_T32 HR0_2.out x29_2 p240 q240
           cases e240
           replace hx240_0:=(HB.out.cell (World.block_lt_of_cell? w _ hx240_0)).trans hx240_0
           replace hx240_1:=(HB.out.cell (World.block_lt_of_cell? w _ hx240_1)).trans hx240_1
           replace hx240_2:=(HB.out.cell (World.block_lt_of_cell? w _ hx240_2)).trans hx240_2
           have HR240_1:=Z hi240_1
           have HC240_1:=Z hl240_1
           clear hi240_1 hl240_1
           have HR240_2:=Z hi240_2
           have HC240_2:=Z hl240_2
           clear hi240_2 hl240_2
           replace p240:=eq_true p240
           replace q240:=eq_true q240
           go_wp2_with (first|((with_reducible refine gate_dst (N:=9) rfl ?_);refine box_event ?hg (N:=9) ?hd (cs:=#[.int .i64 0,.slice none 0 0,.slice none 0 0]) (t:=32) ?hr ?_;(case hd=>rfl);(case hg=>rfl);(case hr=>first|(go_simp;done)|(go_simp;rfl));intro gb241 hg w18 hbox hb;have n0_:=Z (blk_below (g:=gb236) (o:=.cells #[.int .i64 a0_0,.slice A0_1 l0_1.length c0_1,.slice (some ad240) l0_2.length c0_2] 32 (0,0)) (pK BK236) hb);have n1_:=Z (below_step pB hb);have n2_:=Z (hbox);have n3_:=Z ((pT hg:w.heap.size≤gb241));have n4_:=Z ((pT hg:w.heap.size≤gb241));have n5_:=Z ((pL hg (pK BK236):gb236 ≠ gb241));have n6_:=Z ((pM hg (pK BK236):gb241 ≠ gb236));clear BK236;clear HB;have BK236:=n0_;have HB:=n1_;have BK241:=n2_;have GW241:=n3_;have GE241:=n4_;have NB236_241:=n5_;have NB241_236:=n6_;clear n0_ n1_ n2_ n3_ n4_ n5_ n6_;clear hb hbox hg;have hnb19:=NB241_236.out;have hnc19:=NB236_241.out;have hcz20_0:w18.cell? ⟨gb241,0,none⟩=some (.int .i64 0):=(kC BK241.out 0).trans rfl;have hcz20_1:w18.cell? ⟨gb241,1,none⟩=some (.slice none 0 0):=(kC BK241.out 1).trans rfl;have hcz20_2:w18.cell? ⟨gb241,2,none⟩=some (.slice none 0 0):=(kC BK241.out 2).trans rfl;have hfz20_0:=kF BK241.out 0;have hfz20_1:=kF BK241.out 1;have hfz20_2:=kF BK241.out 2)|((with_reducible refine gate_callee (f:=62) rfl ?_);refine goesL_ (some 35) rfl rfl Try.func62 (by kernel_rfl) rfl #[.agg #[.int .i64 ((rd_T32 l0_2 x29_2).f0),.slice A240_1 ((rd_T32 l0_2 x29_2).f1).length c240_1,.slice A240_2 ((rd_T32 l0_2 x29_2).f2).length c240_2],.int .i64 a1] rfl pG ?_;(with_reducible refine (ih k2 (by have:=HK1.out;have:=HK2.out;omega) ((rd_T32 l0_2 x29_2).f0) _ _ ((rd_T32 l0_2 x29_2).f1) _ _ ((rd_T32 l0_2 x29_2).f2) a1 true _ ?side1 ?side2 ?side3 ?side4 A16.out).mono ?_);(case side1=>exact Kd.C_below HR240_1.out pB);(case side2=>exact HC240_1.out);(case side3=>exact Kd.C_below HR240_2.out pB);(case side4=>exact HC240_2.out);rintro e w21 ⟨rfl,hb⟩;refine ⟨_,rfl,?_⟩;have n0_:=Z (blk_below (g:=gb236) (o:=.cells #[.int .i64 a0_0,.slice A0_1 l0_1.length c0_1,.slice (some ad240) l0_2.length c0_2] 32 (0,0)) (by (with_reducible repeat (first|refine kN ?_ _|refine kD ?_|refine kA ?_ _));refine blk_far ?_ NB236_241.out _;(with_reducible repeat (first|refine kN ?_ _|refine kD ?_|refine kA ?_ _));refine blk_far ?_ NB236_241.out _;(with_reducible repeat (first|refine kN ?_ _|refine kD ?_|refine kA ?_ _));refine blk_far ?_ NB236_241.out _;(with_reducible repeat (first|refine kN ?_ _|refine kD ?_|refine kA ?_ _));exact BK236.out) hb);have n1_:=Z (blk_below (g:=gb241) (o:=.cells #[.int .i64 ((rd_T32 l0_2 x29_2).f0),.slice A240_1 ((rd_T32 l0_2 x29_2).f1).length c240_1,.slice A240_2 ((rd_T32 l0_2 x29_2).f2).length c240_2] 32 (0,0)) (by (with_reducible repeat (first|refine kN ?_ _|refine kD ?_|refine kA ?_ _));refine blk_put (cs:=#[.int .i64 ((rd_T32 l0_2 x29_2).f0),.slice A240_1 ((rd_T32 l0_2 x29_2).f1).length c240_1,.slice none 0 0]) ?_ 2 _ rfl;(with_reducible repeat (first|refine kN ?_ _|refine kD ?_|refine kA ?_ _));refine blk_put (cs:=#[.int .i64 ((rd_T32 l0_2 x29_2).f0),.slice none 0 0,.slice none 0 0]) ?_ 1 _ rfl;(with_reducible repeat (first|refine kN ?_ _|refine kD ?_|refine kA ?_ _));refine blk_put (cs:=#[.int .i64 0,.slice none 0 0,.slice none 0 0]) ?_ 0 _ rfl;(with_reducible repeat (first|refine kN ?_ _|refine kD ?_|refine kA ?_ _));exact BK241.out) hb);have n2_:=Z (below_step pB hb);clear BK236;clear BK241;clear HB;have BK236:=n0_;have BK241:=n1_;have HB:=n2_;clear n0_ n1_ n2_;(try clear hb);(try clear hb2);(try clear hk);(try clear hi)))
           go_roundg k2
           case measure=>have:=HK1.out;have:=HK2.out;omega
           case rel=>exact ⟨(wrap64 (x5_2+1)),(wrap64 (x29_2+1)),pE,pE,H',⟨by have:=HK1.out;have:=HK2.out;omega⟩,⟨pK BK236⟩,⟨pB⟩⟩
          ·replace c17:=Bool.eq_false_iff.mpr c17
           subst c17
           rw [if_neg (show ¬ (false=true) by decide)] at H
           have H':=Z H
           clear H
           have p240:0≤(x29_2:Int):=of_decide_eq_true (by first|(with_reducible assumption)|assumption)
           have q240:x29_2 < (l0_2.length:Int):=of_decide_eq_true (by first|(with_reducible assumption)|assumption)
           obtain ⟨ad240,A240_1,c240_1,A240_2,c240_2,e240,hx240_0,hx240_1,hx240_2,hl240_1,hi240_1,hl240_2,hi240_2⟩:=at_T32 HR0_2.out x29_2 p240 q240
           cases e240
           replace hx240_0:=(HB.out.cell (World.block_lt_of_cell? w _ hx240_0)).trans hx240_0
           replace hx240_1:=(HB.out.cell (World.block_lt_of_cell? w _ hx240_1)).trans hx240_1
           replace hx240_2:=(HB.out.cell (World.block_lt_of_cell? w _ hx240_2)).trans hx240_2
           have HR240_1:=Z hi240_1
           have HC240_1:=Z hl240_1
           clear hi240_1 hl240_1
           have HR240_2:=Z hi240_2
           have HC240_2:=Z hl240_2
           clear hi240_2 hl240_2
           replace p240:=eq_true p240
           replace q240:=eq_true q240
           go_wp2_with (first|((with_reducible refine gate_dst (N:=9) rfl ?_);refine box_event ?hg (N:=9) ?hd (cs:=#[.int .i64 0,.slice none 0 0,.slice none 0 0]) (t:=32) ?hr ?_;(case hd=>rfl);(case hg=>rfl);(case hr=>first|(go_simp;done)|(go_simp;rfl));intro gb241 hg w22 hbox hb;have n0_:=Z (blk_below (g:=gb236) (o:=.cells #[.int .i64 a0_0,.slice A0_1 l0_1.length c0_1,.slice (some ad240) l0_2.length c0_2] 32 (0,0)) (pK BK236) hb);have n1_:=Z (below_step pB hb);have n2_:=Z (hbox);have n3_:=Z ((pT hg:w.heap.size≤gb241));have n4_:=Z ((pT hg:w.heap.size≤gb241));have n5_:=Z ((pL hg (pK BK236):gb236 ≠ gb241));have n6_:=Z ((pM hg (pK BK236):gb241 ≠ gb236));clear BK236;clear HB;have BK236:=n0_;have HB:=n1_;have BK241:=n2_;have GW241:=n3_;have GE241:=n4_;have NB236_241:=n5_;have NB241_236:=n6_;clear n0_ n1_ n2_ n3_ n4_ n5_ n6_;clear hb hbox hg;have hnb23:=NB241_236.out;have hnc23:=NB236_241.out;have hcz24_0:w22.cell? ⟨gb241,0,none⟩=some (.int .i64 0):=(kC BK241.out 0).trans rfl;have hcz24_1:w22.cell? ⟨gb241,1,none⟩=some (.slice none 0 0):=(kC BK241.out 1).trans rfl;have hcz24_2:w22.cell? ⟨gb241,2,none⟩=some (.slice none 0 0):=(kC BK241.out 2).trans rfl;have hfz24_0:=kF BK241.out 0;have hfz24_1:=kF BK241.out 1;have hfz24_2:=kF BK241.out 2)|((with_reducible refine gate_callee (f:=62) rfl ?_);refine goesL_ (some 35) rfl rfl Try.func62 (by kernel_rfl) rfl #[.agg #[.int .i64 ((rd_T32 l0_2 x29_2).f0),.slice A240_1 ((rd_T32 l0_2 x29_2).f1).length c240_1,.slice A240_2 ((rd_T32 l0_2 x29_2).f2).length c240_2],.int .i64 a1] rfl pG ?_;(with_reducible refine (ih k2 (by have:=HK1.out;have:=HK2.out;omega) ((rd_T32 l0_2 x29_2).f0) _ _ ((rd_T32 l0_2 x29_2).f1) _ _ ((rd_T32 l0_2 x29_2).f2) a1 false _ ?side1 ?side2 ?side3 ?side4 A16.out).mono ?_);(case side1=>exact Kd.C_below HR240_1.out pB);(case side2=>exact HC240_1.out);(case side3=>exact Kd.C_below HR240_2.out pB);(case side4=>exact HC240_2.out);rintro e w25 ⟨rfl,hb⟩;refine ⟨_,rfl,?_⟩;have n0_:=Z (blk_below (g:=gb236) (o:=.cells #[.int .i64 a0_0,.slice A0_1 l0_1.length c0_1,.slice (some ad240) l0_2.length c0_2] 32 (0,0)) (by (with_reducible repeat (first|refine kN ?_ _|refine kD ?_|refine kA ?_ _));refine blk_far ?_ NB236_241.out _;(with_reducible repeat (first|refine kN ?_ _|refine kD ?_|refine kA ?_ _));refine blk_far ?_ NB236_241.out _;(with_reducible repeat (first|refine kN ?_ _|refine kD ?_|refine kA ?_ _));refine blk_far ?_ NB236_241.out _;(with_reducible repeat (first|refine kN ?_ _|refine kD ?_|refine kA ?_ _));exact BK236.out) hb);have n1_:=Z (blk_below (g:=gb241) (o:=.cells #[.int .i64 ((rd_T32 l0_2 x29_2).f0),.slice A240_1 ((rd_T32 l0_2 x29_2).f1).length c240_1,.slice A240_2 ((rd_T32 l0_2 x29_2).f2).length c240_2] 32 (0,0)) (by (with_reducible repeat (first|refine kN ?_ _|refine kD ?_|refine kA ?_ _));refine blk_put (cs:=#[.int .i64 ((rd_T32 l0_2 x29_2).f0),.slice A240_1 ((rd_T32 l0_2 x29_2).f1).length c240_1,.slice none 0 0]) ?_ 2 _ rfl;(with_reducible repeat (first|refine kN ?_ _|refine kD ?_|refine kA ?_ _));refine blk_put (cs:=#[.int .i64 ((rd_T32 l0_2 x29_2).f0),.slice none 0 0,.slice none 0 0]) ?_ 1 _ rfl;(with_reducible repeat (first|refine kN ?_ _|refine kD ?_|refine kA ?_ _));refine blk_put (cs:=#[.int .i64 0,.slice none 0 0,.slice none 0 0]) ?_ 0 _ rfl;(with_reducible repeat (first|refine kN ?_ _|refine kD ?_|refine kA ?_ _));exact BK241.out) hb);have n2_:=Z (below_step pB hb);clear BK236;clear BK241;clear HB;have BK236:=n0_;have BK241:=n1_;have HB:=n2_;clear n0_ n1_ n2_;(try clear hb);(try clear hb2);(try clear hk);(try clear hi)))
           go_roundg k2
           case measure=>have:=HK1.out;have:=HK2.out;omega
           case rel=>exact ⟨(x5_2),(wrap64 (x29_2+1)),pE,pE,H',⟨by have:=HK1.out;have:=HK2.out;omega⟩,⟨pK BK236⟩,⟨pB⟩⟩
         ·rw [if_neg c15] at H
          exact absurd H (by simp)
        ·rw [if_neg c14] at H
         exact absurd H (by simp)
       ·rw [if_neg c13] at H
        have c13b0:decide (x29_2 < (l0_2.length:Int))=false:=decide_eq_false c13
        clear c13
        obtain rfl:=Option.some.inj H
        have hcz26_0:wr.cell? ⟨gb236,0,none⟩=some (.int .i64 a0_0):=(kC BK236.out 0).trans rfl
        have hcz26_1:wr.cell? ⟨gb236,1,none⟩=some (.slice A0_1 l0_1.length c0_1):=(kC BK236.out 1).trans rfl
        have hcz26_2:wr.cell? ⟨gb236,2,none⟩=some (.slice A0_2 l0_2.length c0_2):=(kC BK236.out 2).trans rfl
        have hfz26_0:=kF BK236.out 0
        have hfz26_1:=kF BK236.out 1
        have hfz26_2:=kF BK236.out 2
        go_wp2
        go_ret
        exact ⟨pF,pB⟩
 ·replace c4:=Bool.eq_false_iff.mpr c4
  subst c4
  rw [if_neg (show ¬ (false=true) by decide)] at H
  obtain rfl:=Option.some.inj H
  go_enter Try.func62,Try.ntmps62
  go_wp2_with (first|((with_reducible refine gate_dst (N:=2) rfl ?_);refine box_event ?hg (N:=2) ?hd (cs:=#[.int .i64 a0_0,.slice A0_1 l0_1.length c0_1,.slice A0_2 l0_2.length c0_2]) (t:=32) ?hr ?_;(case hd=>rfl);(case hg=>rfl);(case hr=>first|(go_simp;done)|(go_simp;rfl));intro gb236 hg w27 hbox hb;have n0_:=Z (below_step pB hb);have n1_:=Z (hbox);have n2_:=Z ((pT hg:w.heap.size≤gb236));have n3_:=Z ((pT hg:w.heap.size≤gb236));clear HB;have HB:=n0_;have BK236:=n1_;have GW236:=n2_;have GE236:=n3_;clear n0_ n1_ n2_ n3_;clear hb hbox hg)|((with_reducible refine gate_callee (f:=59) rfl ?_);refine goesL_ (some 11) rfl rfl Try.func59 (by kernel_rfl) rfl #[.int .i64 a1] rfl pG ?_;(with_reducible refine (nodeset_Valid.calls a1 false _ A3.out).mono ?_);rintro e w' ⟨rfl,⟨nd,rfl⟩⟩;refine ⟨_,rfl,?_⟩))
  go_ret
  exact ⟨pF,pB⟩
def closure_content.f (k:Nat) (l0_0:List (S34)) (a1:Int) (a2:Int):Option (Bool):=if 0≤a1 then (if a1 < (l0_0.length:Int) then ((threshold_Satisfied.f k ((rd_T34 l0_0 a1).f1.f0) ((rd_T34 l0_0 a1).f1.f1) ((rd_T34 l0_0 a1).f1.f2) a2).bind fun t630=>(some t630)) else (none)) else (none)
set_option maxHeartbeats 8000000 in
set_option maxRecDepth 100000 in
theorem closure_content.calls (k:Nat) (A0_0:Option Addr) (c0_0:Nat) (l0_0:List (S34)) (a1:Int) (a2:Int) (r:Bool) (w:World) (hr0_0:Kd.C k34 w A0_0 l0_0.length l0_0) (hc0_0:l0_0.length≤c0_0) (h:closure_content.f k l0_0 a1 a2=some r) :
  Calls Try.prog 140 #[.agg #[.slice A0_0 l0_0.length c0_0],.int .i64 a1,.int .i64 a2] w fun e w'=>e=.returned (.bool r)∧Below w.heap.size w w':=by
 have hu27:=Try.underlying27
 have hu32:=Try.underlying32
 have HR0_0:=Z hr0_0
 have HC0_0:=Z hc0_0
 clear hr0_0 hc0_0
 have HB:=Z (Below.refl w.heap.size w)
 have H:(if 0≤a1 then (if a1 < (l0_0.length:Int) then ((threshold_Satisfied.f k ((rd_T34 l0_0 a1).f1.f0) ((rd_T34 l0_0 a1).f1.f1) ((rd_T34 l0_0 a1).f1.f2) a2).bind fun t630=>(some t630)) else (none)) else (none))=some r:=h
 clear h
 by_cases c4:0≤a1
 ·rw [if_pos c4] at H
  have c4b0:decide (0≤a1)=true:=decide_eq_true c4
  clear c4
  by_cases c5:a1 < (l0_0.length:Int)
  ·rw [if_pos c5] at H
   have c5b0:decide (a1 < (l0_0.length:Int))=true:=decide_eq_true c5
   clear c5
   replace H:=Option.bind_eq_some_iff.mp H
   obtain ⟨t630,A60,H⟩:=H
   try dsimp only at H
   have A6:=Z A60
   clear A60
   obtain rfl:=Option.some.inj H
   go_enter Try.func140,Try.ntmps140
   go_wp2_with (first|((with_reducible refine gate_dst (N:=3) rfl ?_);refine box_event ?hg (N:=3) ?hd (cs:=#[.slice A0_0 l0_0.length c0_0]) (t:=27) ?hr ?_;(case hd=>rfl);(case hg=>rfl);(case hr=>first|(go_simp;done)|(go_simp;rfl));intro gb628 hg w7 hbox hb;have n0_:=Z (below_step pB hb);have n1_:=Z (hbox);have n2_:=Z ((pT hg:w.heap.size≤gb628));have n3_:=Z ((pT hg:w.heap.size≤gb628));clear HB;have HB:=n0_;have BK628:=n1_;have GW628:=n2_;have GE628:=n3_;clear n0_ n1_ n2_ n3_;clear hb hbox hg;have hcz8_0:w7.cell? ⟨gb628,0,none⟩=some (.slice A0_0 l0_0.length c0_0):=(kC BK628.out 0).trans rfl;have hfz8_0:=kF BK628.out 0;have p629:0≤(a1:Int):=of_decide_eq_true (by first|(with_reducible assumption)|assumption);have q629:a1 < (l0_0.length:Int):=of_decide_eq_true (by first|(with_reducible assumption)|assumption);obtain ⟨ad629,A629_2,c629_2,A629_3,c629_3,e629,hx629_0,hx629_1,hx629_2,hx629_3,hl629_2,hi629_2,hl629_3,hi629_3⟩:=at_T34 HR0_0.out a1 p629 q629;cases e629;replace hx629_0:=(HB.out.cell (World.block_lt_of_cell? w _ hx629_0)).trans hx629_0;replace hx629_1:=(HB.out.cell (World.block_lt_of_cell? w _ hx629_1)).trans hx629_1;replace hx629_2:=(HB.out.cell (World.block_lt_of_cell? w _ hx629_2)).trans hx629_2;replace hx629_3:=(HB.out.cell (World.block_lt_of_cell? w _ hx629_3)).trans hx629_3;have HR629_2:=Z hi629_2;have HC629_2:=Z hl629_2;clear hi629_2 hl629_2;have HR629_3:=Z hi629_3;have HC629_3:=Z hl629_3;clear hi629_3 hl629_3;replace p629:=eq_true p629;replace q629:=eq_true q629)|((with_reducible refine gate_callee (f:=62) rfl ?_);refine goesL_ (some 14) rfl rfl Try.func62 (by kernel_rfl) rfl #[.agg #[.int .i64 ((rd_T34 l0_0 a1).f1.f0),.slice A629_2 ((rd_T34 l0_0 a1).f1.f1).length c629_2,.slice A629_3 ((rd_T34 l0_0 a1).f1.f2).length c629_3],.int .i64 a2] rfl pG ?_;(with_reducible refine (threshold_Satisfied.calls k ((rd_T34 l0_0 a1).f1.f0) _ _ ((rd_T34 l0_0 a1).f1.f1) _ _ ((rd_T34 l0_0 a1).f1.f2) a2 t630 _ ?side1 ?side2 ?side3 ?side4 A6.out).mono ?_);(case side1=>repeat (first|exact (Kd.C_below HR629_2.out HB.out)|(with_reducible refine Kd.C_alloc ?_ _)|(with_reducible refine Kd.C_drewN ?_ _)|(with_reducible refine Kd.C_drew ?_)));(case side2=>exact HC629_2.out);(case side3=>repeat (first|exact (Kd.C_below HR629_3.out HB.out)|(with_reducible refine Kd.C_alloc ?_ _)|(with_reducible refine Kd.C_drewN ?_ _)|(with_reducible refine Kd.C_drew ?_)));(case side4=>exact HC629_3.out);rintro e w9 ⟨rfl,hb⟩;refine ⟨_,rfl,?_⟩;have n0_:=Z (blk_below (g:=gb628) (o:=.cells #[.slice (some ad629) l0_0.length c0_0] 27 (0,0)) (pK BK628) hb);have n1_:=Z (below_step pB hb);clear BK628;clear HB;have BK628:=n0_;have HB:=n1_;clear n0_ n1_;(try clear hb);(try clear hb2);(try clear hk);(try clear hi)))
   go_ret
   exact ⟨pF,pB⟩
  ·rw [if_neg c5] at H
   exact absurd H (by simp)
 ·rw [if_neg c4] at H
  exact absurd H (by simp)
def closure_unhappy.l0:Nat→Int→List Int→Int→Int→List (S34)→Option (Int × Bool)
 | 0,_,_,_,_,_=>none
 | k+1,x1,x9,x10,x11,x632000=>if x11 < x10 then (if 0≤x11 then (if x11 < (x9.length:Int) then ((closure_content.f k x632000 (rd x9 x11) x1).bind fun t636=>(if t636=true then (closure_unhappy.l0 k x1 x9 x10 (wrap64 (x11+1)) x632000) else (some (rd x9 x11,true)))) else (none)) else (none)) else (some (0,false))
def closure_unhappy.f (k:Nat) (l0_0:List (S34)) (a1:Int):Option (Int × Bool):=(nodeset_Nodes.f k a1).bind fun t632=>(closure_unhappy.l0 k a1 t632 (t632.length:Int) 0 l0_0)
set_option maxHeartbeats 8000000 in
set_option maxRecDepth 100000 in
theorem closure_unhappy.calls (k:Nat) (A0_0:Option Addr) (c0_0:Nat) (l0_0:List (S34)) (a1:Int) (r1:Int) (r2:Bool) (w:World) (hr0_0:Kd.C k34 w A0_0 l0_0.length l0_0) (hc0_0:l0_0.length≤c0_0) (h:closure_unhappy.f k l0_0 a1=some (r1,r2)) :
  Calls Try.prog 120 #[.agg #[.slice A0_0 l0_0.length c0_0],.int .i64 a1] w fun e w'=>e=.returned (.tuple #[.int .i64 r1,.bool r2])∧Below w.heap.size w w':=by
 have hu27:=Try.underlying27
 have HR0_0:=Z hr0_0
 have HC0_0:=Z hc0_0
 clear hr0_0 hc0_0
 have HB:=Z (Below.refl w.heap.size w)
 have H:((nodeset_Nodes.f k a1).bind fun t632=>(closure_unhappy.l0 k a1 t632 (t632.length:Int) 0 l0_0))=some (r1,r2):=h
 clear h
 replace H:=Option.bind_eq_some_iff.mp H
 obtain ⟨t632,A30,H⟩:=H
 try dsimp only at H
 have A3:=Z A30
 clear A30
 have H':=Z H
 clear H
 go_enter Try.func120,Try.ntmps120
 go_wp2_with (first|((with_reducible refine gate_dst (N:=2) rfl ?_);refine box_event ?hg (N:=2) ?hd (cs:=#[.slice A0_0 l0_0.length c0_0]) (t:=27) ?hr ?_;(case hd=>rfl);(case hg=>rfl);(case hr=>first|(go_simp;done)|(go_simp;rfl));intro gb631 hg w4 hbox hb;have n0_:=Z (below_step pB hb);have n1_:=Z (hbox);have n2_:=Z ((pT hg:w.heap.size≤gb631));have n3_:=Z ((pT hg:w.heap.size≤gb631));clear HB;have HB:=n0_;have BK631:=n1_;have GW631:=n2_;have GE631:=n3_;clear n0_ n1_ n2_ n3_;clear hb hbox hg)|((with_reducible refine gate_callee (f:=77) rfl ?_);refine goesL_ (some 9) rfl rfl Try.func77 (by kernel_rfl) rfl #[.int .i64 a1] rfl pG ?_;(with_reducible refine (nodeset_Nodes.calls k a1 t632 _ A3.out).mono ?_);rintro e w5 ⟨v633,rfl,ho0,hb⟩;refine ⟨_,rfl,?_⟩;have n0_:=Z (Kd.R_lower ho0 (below_size pB));have n1_:=Z (blk_below (g:=gb631) (o:=.cells #[.slice A0_0 l0_0.length c0_0] 27 (0,0)) (pK BK631) hb);have n2_:=Z (below_step pB hb);clear BK631;clear HB;have HO634:=n0_;have BK631:=n1_;have HB:=n2_;clear n0_ n1_ n2_;(try clear hb);(try clear hb2);(try clear hk);(try clear hi);(try clear ho0);obtain ⟨Ao6,co6,eo6⟩:=Kd.R_slice HO634.out;subst eo6))
 go_loopg [11] k (fun kq v11 w'=>∃ (x11_1:Int),v11=.int .i64 x11_1∧Aside0 (closure_unhappy.l0 kq a1 t632 (t632.length:Int) x11_1 l0_0=some (r1,r2))∧Aside0 (kq≤k)∧Aside0 (Kd.R (Kd.int .i64) 3 w' w.heap.size (fun _=>True) (.slice Ao6 t632.length co6) t632)∧Aside0 (w'.heap[gb631]?=some (.cells #[(.slice A0_0 l0_0.length c0_0)] 27 (0,0)))∧Aside0 (Below w.heap.size w w'))
 case atStart=>exact ⟨(0),pE,H',⟨Nat.le_refl _⟩,⟨pR HO634⟩,⟨pK BK631⟩,⟨pB⟩⟩
 case round =>
  clear H'
  try clear c1
  try clear p2
  obtain ⟨x11_1,rfl,HA,HK1,HO_9,BK631,HB⟩:=hrel
  cases gk with
  | zero=>exact absurd HA.out (by simp [closure_unhappy.l0])
  | succ k1 =>
   have H:=HA.out
   clear HA
   simp only [closure_unhappy.l0] at H
   by_cases c7:x11_1 < (t632.length:Int)
   ·rw [if_pos c7] at H
    have c7b0:decide (x11_1 < (t632.length:Int))=true:=decide_eq_true c7
    clear c7
    by_cases c8:0≤x11_1
    ·rw [if_pos c8] at H
     have c8b0:decide (0≤x11_1)=true:=decide_eq_true c8
     clear c8
     by_cases c9:x11_1 < (t632.length:Int)
     ·rw [if_pos c9] at H
      have c9b0:decide (x11_1 < (t632.length:Int))=true:=decide_eq_true c9
      clear c9
      replace H:=Option.bind_eq_some_iff.mp H
      obtain ⟨t636,A100,H⟩:=H
      try dsimp only at H
      have A10:=Z A100
      clear A100
      by_cases c11:t636=true
      ·subst c11
       rw [if_pos rfl] at H
       have H':=Z H
       clear H
       have p635:0≤(x11_1:Int):=of_decide_eq_true (by first|(with_reducible assumption)|assumption)
       have q635:x11_1 < (t632.length:Int):=of_decide_eq_true (by first|(with_reducible assumption)|assumption)
       obtain ⟨ad635,e635,hx635_0⟩:=Kd.at_int (Kd.R_reads' HO_9.out).2.2 x11_1 p635 q635
       cases e635
       replace p635:=eq_true p635
       replace q635:=eq_true q635
       have hcz12_0:wr.cell? ⟨gb631,0,none⟩=some (.slice A0_0 l0_0.length c0_0):=(kC BK631.out 0).trans rfl
       have hfz12_0:=kF BK631.out 0
       go_wp2_with (first|((with_reducible refine gate_callee (f:=140) rfl ?_);refine goesL_ (some 18) rfl rfl Try.func140 (by kernel_rfl) rfl #[.agg #[.slice A0_0 l0_0.length c0_0],.int .i64 (rd t632 x11_1),.int .i64 a1] rfl pG ?_;(with_reducible refine (closure_content.calls k1 _ _ l0_0 (rd t632 x11_1) a1 true _ ?side1 ?side2 A10.out).mono ?_);(case side1=>repeat (first|exact (Kd.C_below HR0_0.out HB.out)|(with_reducible refine Kd.C_alloc ?_ _)|(with_reducible refine Kd.C_drewN ?_ _)|(with_reducible refine Kd.C_drew ?_)));(case side2=>exact HC0_0.out);rintro e w13 ⟨rfl,hb⟩;refine ⟨_,rfl,?_⟩;have n0_:=Z (Kd.R_below (pR HO_9) hb);have n1_:=Z (blk_below (g:=gb631) (o:=.cells #[.slice A0_0 l0_0.length c0_0] 27 (0,0)) (pK BK631) hb);have n2_:=Z (below_step pB hb);clear HO_9;clear BK631;clear HB;have HO_9:=n0_;have BK631:=n1_;have HB:=n2_;clear n0_ n1_ n2_;(try clear hb);(try clear hb2);(try clear hk);(try clear hi)))
       go_roundg k1
       case measure=>have:=HK1.out;omega
       case rel=>exact ⟨(wrap64 (x11_1+1)),pE,H',⟨by have:=HK1.out;omega⟩,⟨pR HO_9⟩,⟨pK BK631⟩,⟨pB⟩⟩
      ·replace c11:=Bool.eq_false_iff.mpr c11
       subst c11
       rw [if_neg (show ¬ (false=true) by decide)] at H
       simp only [Option.some.injEq,Prod.mk.injEq] at H
       obtain ⟨rfl,rfl⟩:=H
       have p635:0≤(x11_1:Int):=of_decide_eq_true (by first|(with_reducible assumption)|assumption)
       have q635:x11_1 < (t632.length:Int):=of_decide_eq_true (by first|(with_reducible assumption)|assumption)
       obtain ⟨ad635,e635,hx635_0⟩:=Kd.at_int (Kd.R_reads' HO_9.out).2.2 x11_1 p635 q635
       cases e635
       replace p635:=eq_true p635
       replace q635:=eq_true q635
       have hcz14_0:wr.cell? ⟨gb631,0,none⟩=some (.slice A0_0 l0_0.length c0_0):=(kC BK631.out 0).trans rfl
       have hfz14_0:=kF BK631.out 0
       go_wp2_with (first|((with_reducible refine gate_callee (f:=140) rfl ?_);refine goesL_ (some 18) rfl rfl Try.func140 (by kernel_rfl) rfl #[.agg #[.slice A0_0 l0_0.length c0_0],.int .i64 (rd t632 x11_1),.int .i64 a1] rfl pG ?_;(with_reducible refine (closure_content.calls k1 _ _ l0_0 (rd t632 x11_1) a1 false _ ?side1 ?side2 A10.out).mono ?_);(case side1=>repeat (first|exact (Kd.C_below HR0_0.out HB.out)|(with_reducible refine Kd.C_alloc ?_ _)|(with_reducible refine Kd.C_drewN ?_ _)|(with_reducible refine Kd.C_drew ?_)));(case side2=>exact HC0_0.out);rintro e w15 ⟨rfl,hb⟩;refine ⟨_,rfl,?_⟩;have n0_:=Z (Kd.R_below (pR HO_9) hb);have n1_:=Z (blk_below (g:=gb631) (o:=.cells #[.slice A0_0 l0_0.length c0_0] 27 (0,0)) (pK BK631) hb);have n2_:=Z (below_step pB hb);clear HO_9;clear BK631;clear HB;have HO_9:=n0_;have BK631:=n1_;have HB:=n2_;clear n0_ n1_ n2_;(try clear hb);(try clear hb2);(try clear hk);(try clear hi)))
       go_ret2
       exact ⟨pF,pB⟩
     ·rw [if_neg c9] at H
      exact absurd H (by simp)
    ·rw [if_neg c8] at H
     exact absurd H (by simp)
   ·rw [if_neg c7] at H
    have c7b0:decide (x11_1 < (t632.length:Int))=false:=decide_eq_false c7
    clear c7
    simp only [Option.some.injEq,Prod.mk.injEq] at H
    obtain ⟨rfl,rfl⟩:=H
    go_wp2
    go_ret2
    exact ⟨pF,pB⟩
def closure_Quorum.f (k:Nat) (l0_0:List (S34)) (a1:Int):Option (Bool):=(nodeset_Valid.f a1).bind fun t638=>(if t638=true then (if a1=0 then (some false) else ((closure_inside.f k l0_0 a1).bind fun t639=>(if t639=true then ((closure_unhappy.f k l0_0 a1).bind fun bt640=>(some (!bt640.2))) else (some false)))) else (some false))
set_option maxHeartbeats 8000000 in
set_option maxRecDepth 100000 in
theorem closure_Quorum.calls (k:Nat) (A0_0:Option Addr) (c0_0:Nat) (l0_0:List (S34)) (a1:Int) (r:Bool) (w:World) (hr0_0:Kd.C k34 w A0_0 l0_0.length l0_0) (hc0_0:l0_0.length≤c0_0) (h:closure_Quorum.f k l0_0 a1=some r) :
  Calls Try.prog 103 #[.agg #[.slice A0_0 l0_0.length c0_0],.int .i64 a1] w fun e w'=>e=.returned (.bool r)∧Below w.heap.size w w':=by
 have hu27:=Try.underlying27
 have HR0_0:=Z hr0_0
 have HC0_0:=Z hc0_0
 clear hr0_0 hc0_0
 have HB:=Z (Below.refl w.heap.size w)
 have H:((nodeset_Valid.f a1).bind fun t638=>(if t638=true then (if a1=0 then (some false) else ((closure_inside.f k l0_0 a1).bind fun t639=>(if t639=true then ((closure_unhappy.f k l0_0 a1).bind fun bt640=>(some (!bt640.2))) else (some false)))) else (some false)))=some r:=h
 clear h
 replace H:=Option.bind_eq_some_iff.mp H
 obtain ⟨t638,A30,H⟩:=H
 try dsimp only at H
 have A3:=Z A30
 clear A30
 by_cases c4:t638=true
 ·subst c4
  rw [if_pos rfl] at H
  by_cases c5:a1=0
  ·rw [if_pos c5] at H
   have c5b0:(a1 == 0)=true:=beq_iff_eq.mpr c5
   have c5b1:(a1 != 0)=false:=bne_eq_false_iff_eq.mpr c5
   clear c5
   obtain rfl:=Option.some.inj H
   go_enter Try.func103,Try.ntmps103
   go_wp2_with (first|((with_reducible refine gate_dst (N:=2) rfl ?_);refine box_event ?hg (N:=2) ?hd (cs:=#[.slice A0_0 l0_0.length c0_0]) (t:=27) ?hr ?_;(case hd=>rfl);(case hg=>rfl);(case hr=>first|(go_simp;done)|(go_simp;rfl));intro gb637 hg w6 hbox hb;have n0_:=Z (below_step pB hb);have n1_:=Z (hbox);have n2_:=Z ((pT hg:w.heap.size≤gb637));have n3_:=Z ((pT hg:w.heap.size≤gb637));clear HB;have HB:=n0_;have BK637:=n1_;have GW637:=n2_;have GE637:=n3_;clear n0_ n1_ n2_ n3_;clear hb hbox hg)|((with_reducible refine gate_callee (f:=59) rfl ?_);refine goesL_ (some 8) rfl rfl Try.func59 (by kernel_rfl) rfl #[.int .i64 a1] rfl pG ?_;(with_reducible refine (nodeset_Valid.calls a1 true _ A3.out).mono ?_);rintro e w' ⟨rfl,⟨nd,rfl⟩⟩;refine ⟨_,rfl,?_⟩))
   go_ret
   exact ⟨pF,pB⟩
  ·rw [if_neg c5] at H
   have c5b0:(a1 == 0)=false:=beq_eq_false_iff_ne.mpr c5
   have c5b1:(a1 != 0)=true:=bne_iff_ne.mpr c5
   replace H:=Option.bind_eq_some_iff.mp H
   obtain ⟨t639,A70,H⟩:=H
   try dsimp only at H
   have A7:=Z A70
   clear A70
   by_cases c8:t639=true
   ·subst c8
    rw [if_pos rfl] at H
    replace H:=Option.bind_eq_some_iff.mp H
    obtain ⟨⟨t640,t641⟩,A90,H⟩:=H
    try dsimp only at H
    have A9:=Z A90
    clear A90
    obtain rfl:=Option.some.inj H
    go_enter Try.func103,Try.ntmps103
    go_wp2_with (first|((with_reducible refine gate_dst (N:=2) rfl ?_);refine box_event ?hg (N:=2) ?hd (cs:=#[.slice A0_0 l0_0.length c0_0]) (t:=27) ?hr ?_;(case hd=>rfl);(case hg=>rfl);(case hr=>first|(go_simp;done)|(go_simp;rfl));intro gb637 hg w10 hbox hb;have n0_:=Z (below_step pB hb);have n1_:=Z (hbox);have n2_:=Z ((pT hg:w.heap.size≤gb637));have n3_:=Z ((pT hg:w.heap.size≤gb637));clear HB;have HB:=n0_;have BK637:=n1_;have GW637:=n2_;have GE637:=n3_;clear n0_ n1_ n2_ n3_;clear hb hbox hg)|((with_reducible refine gate_callee (f:=59) rfl ?_);refine goesL_ (some 8) rfl rfl Try.func59 (by kernel_rfl) rfl #[.int .i64 a1] rfl pG ?_;(with_reducible refine (nodeset_Valid.calls a1 true _ A3.out).mono ?_);rintro e w' ⟨rfl,⟨nd,rfl⟩⟩;refine ⟨_,rfl,?_⟩;have hcz11_0:w10.cell? ⟨gb637,0,none⟩=some (.slice A0_0 l0_0.length c0_0):=(kC BK637.out 0).trans rfl;have hfz11_0:=kF BK637.out 0)|(go_at_call 119;(with_reducible refine (closure_inside.calls k _ _ l0_0 a1 true _ ?side1 ?side2 A7.out).mono ?_);(case side1=>exact pC HR0_0);(case side2=>exact HC0_0.out);rintro e w12 ⟨rfl,hb⟩;have n0_:=Z (blk_below (g:=gb637) (o:=.cells #[.slice A0_0 l0_0.length c0_0] 27 (0,0)) (pK BK637) hb);have n1_:=Z (below_step pB hb);clear BK637;clear HB;have BK637:=n0_;have HB:=n1_;clear n0_ n1_;(try clear hb);(try clear hb2);(try clear hk);(try clear hi);have hcz13_0:w12.cell? ⟨gb637,0,none⟩=some (.slice A0_0 l0_0.length c0_0):=(kC BK637.out 0).trans rfl;have hfz13_0:=kF BK637.out 0)|((with_reducible refine gate_callee (f:=120) rfl ?_);refine goesL_ (some 23) rfl rfl Try.func120 (by kernel_rfl) rfl #[.agg #[.slice A0_0 l0_0.length c0_0],.int .i64 a1] rfl pG ?_;(with_reducible refine (closure_unhappy.calls k _ _ l0_0 a1 t640 t641 _ ?side1 ?side2 A9.out).mono ?_);(case side1=>repeat (first|exact (Kd.C_below HR0_0.out HB.out)|(with_reducible refine Kd.C_alloc ?_ _)|(with_reducible refine Kd.C_drewN ?_ _)|(with_reducible refine Kd.C_drew ?_)));(case side2=>exact HC0_0.out);rintro e w14 ⟨rfl,hb⟩;refine ⟨_,rfl,?_⟩;have n0_:=Z (blk_below (g:=gb637) (o:=.cells #[.slice A0_0 l0_0.length c0_0] 27 (0,0)) (pK BK637) hb);have n1_:=Z (below_step pB hb);clear BK637;clear HB;have BK637:=n0_;have HB:=n1_;clear n0_ n1_;(try clear hb);(try clear hb2);(try clear hk);(try clear hi)))
    go_ret
    exact ⟨pF,pB⟩
   ·replace c8:=Bool.eq_false_iff.mpr c8
    subst c8
    rw [if_neg (show ¬ (false=true) by decide)] at H
    obtain rfl:=Option.some.inj H
    go_enter Try.func103,Try.ntmps103
    go_wp2_with (first|((with_reducible refine gate_dst (N:=2) rfl ?_);refine box_event ?hg (N:=2) ?hd (cs:=#[.slice A0_0 l0_0.length c0_0]) (t:=27) ?hr ?_;(case hd=>rfl);(case hg=>rfl);(case hr=>first|(go_simp;done)|(go_simp;rfl));intro gb637 hg w15 hbox hb;have n0_:=Z (below_step pB hb);have n1_:=Z (hbox);have n2_:=Z ((pT hg:w.heap.size≤gb637));have n3_:=Z ((pT hg:w.heap.size≤gb637));clear HB;have HB:=n0_;have BK637:=n1_;have GW637:=n2_;have GE637:=n3_;clear n0_ n1_ n2_ n3_;clear hb hbox hg)|((with_reducible refine gate_callee (f:=59) rfl ?_);refine goesL_ (some 8) rfl rfl Try.func59 (by kernel_rfl) rfl #[.int .i64 a1] rfl pG ?_;(with_reducible refine (nodeset_Valid.calls a1 true _ A3.out).mono ?_);rintro e w' ⟨rfl,⟨nd,rfl⟩⟩;refine ⟨_,rfl,?_⟩;have hcz16_0:w15.cell? ⟨gb637,0,none⟩=some (.slice A0_0 l0_0.length c0_0):=(kC BK637.out 0).trans rfl;have hfz16_0:=kF BK637.out 0)|(go_at_call 119;(with_reducible refine (closure_inside.calls k _ _ l0_0 a1 false _ ?side1 ?side2 A7.out).mono ?_);(case side1=>exact pC HR0_0);(case side2=>exact HC0_0.out);rintro e w17 ⟨rfl,hb⟩;have n0_:=Z (blk_below (g:=gb637) (o:=.cells #[.slice A0_0 l0_0.length c0_0] 27 (0,0)) (pK BK637) hb);have n1_:=Z (below_step pB hb);clear BK637;clear HB;have BK637:=n0_;have HB:=n1_;clear n0_ n1_;(try clear hb);(try clear hb2);(try clear hk);(try clear hi)))
    go_ret
    exact ⟨pF,pB⟩
 ·replace c4:=Bool.eq_false_iff.mpr c4
  subst c4
  rw [if_neg (show ¬ (false=true) by decide)] at H
  obtain rfl:=Option.some.inj H
  go_enter Try.func103,Try.ntmps103
  go_wp2_with (first|((with_reducible refine gate_dst (N:=2) rfl ?_);refine box_event ?hg (N:=2) ?hd (cs:=#[.slice A0_0 l0_0.length c0_0]) (t:=27) ?hr ?_;(case hd=>rfl);(case hg=>rfl);(case hr=>first|(go_simp;done)|(go_simp;rfl));intro gb637 hg w18 hbox hb;have n0_:=Z (below_step pB hb);have n1_:=Z (hbox);have n2_:=Z ((pT hg:w.heap.size≤gb637));have n3_:=Z ((pT hg:w.heap.size≤gb637));clear HB;have HB:=n0_;have BK637:=n1_;have GW637:=n2_;have GE637:=n3_;clear n0_ n1_ n2_ n3_;clear hb hbox hg)|((with_reducible refine gate_callee (f:=59) rfl ?_);refine goesL_ (some 8) rfl rfl Try.func59 (by kernel_rfl) rfl #[.int .i64 a1] rfl pG ?_;(with_reducible refine (nodeset_Valid.calls a1 false _ A3.out).mono ?_);rintro e w' ⟨rfl,⟨nd,rfl⟩⟩;refine ⟨_,rfl,?_⟩))
  go_ret
  exact ⟨pF,pB⟩
def closure_eliminate.l0:Nat→Int→List Int→List (S34)→Option (Int × List Int)
 | 0,_,_,_=>none
 | k+1,x1,x6,x852000=>(closure_unhappy.f k x852000 x1).bind fun bt854=>(if bt854.2=true then (if x6.length < 17592186044416 then (if 0≤bt854.1 then (closure_eliminate.l0 k (Go.bits .andNot .i64 x1 (shl .i64 1 bt854.1)) (x6++[bt854.1]) x852000) else (none)) else (none)) else (some (x1,x6)))
def closure_eliminate.f (k:Nat) (l0_0:List (S34)) (a1:Int):Option (Int × List Int):=(nodeset_Valid.f a1).bind fun t852=>(if t852=true then ((configuration_Declared.f k l0_0).bind fun t853=>(closure_eliminate.l0 k (Go.bits .and .i64 a1 t853) ([]:List Int) l0_0)) else (some (0,([]:List Int))))
set_option maxHeartbeats 8000000 in
set_option maxRecDepth 100000 in
theorem closure_eliminate.calls (k:Nat) (A0_0:Option Addr) (c0_0:Nat) (l0_0:List (S34)) (a1:Int) (r1:Int) (r2:List Int) (w:World) (hr0_0:Kd.C k34 w A0_0 l0_0.length l0_0) (hc0_0:l0_0.length≤c0_0) (h:closure_eliminate.f k l0_0 a1=some (r1,r2)) :
  Calls Try.prog 124 #[.agg #[.slice A0_0 l0_0.length c0_0],.int .i64 a1] w fun e w'=>∃ v1_:Value,e=.returned (.tuple #[.int .i64 r1,v1_])∧Kd.R (Kd.int .i64) 3 w' w.heap.size (fun _=>True) v1_ r2∧Below w.heap.size w w':=by
 have hu27:=Try.underlying27
 have HR0_0:=Z hr0_0
 have HC0_0:=Z hc0_0
 clear hr0_0 hc0_0
 have HB:=Z (Below.refl w.heap.size w)
 have H:((nodeset_Valid.f a1).bind fun t852=>(if t852=true then ((configuration_Declared.f k l0_0).bind fun t853=>(closure_eliminate.l0 k (Go.bits .and .i64 a1 t853) ([]:List Int) l0_0)) else (some (0,([]:List Int)))))=some (r1,r2):=h
 clear h
 replace H:=Option.bind_eq_some_iff.mp H
 obtain ⟨t852,A30,H⟩:=H
 try dsimp only at H
 have A3:=Z A30
 clear A30
 by_cases c4:t852=true
 ·subst c4
  rw [if_pos rfl] at H
  replace H:=Option.bind_eq_some_iff.mp H
  obtain ⟨t853,A50,H⟩:=H
  try dsimp only at H
  have A5:=Z A50
  clear A50
  have H':=Z H
  clear H
  go_enter Try.func124,Try.ntmps124
  go_wp2_with (first|((with_reducible refine gate_dst (N:=2) rfl ?_);refine box_event ?hg (N:=2) ?hd (cs:=#[.slice A0_0 l0_0.length c0_0]) (t:=27) ?hr ?_;(case hd=>rfl);(case hg=>rfl);(case hr=>first|(go_simp;done)|(go_simp;rfl));intro gb851 hg w6 hbox hb;have n0_:=Z (below_step pB hb);have n1_:=Z (hbox);have n2_:=Z ((pT hg:w.heap.size≤gb851));have n3_:=Z ((pT hg:w.heap.size≤gb851));clear HB;have HB:=n0_;have BK851:=n1_;have GW851:=n2_;have GE851:=n3_;clear n0_ n1_ n2_ n3_;clear hb hbox hg)|((with_reducible refine gate_callee (f:=59) rfl ?_);refine goesL_ (some 10) rfl rfl Try.func59 (by kernel_rfl) rfl #[.int .i64 a1] rfl pG ?_;(with_reducible refine (nodeset_Valid.calls a1 true _ A3.out).mono ?_);rintro e w' ⟨rfl,⟨nd,rfl⟩⟩;refine ⟨_,rfl,?_⟩;have hcz7_0:w6.cell? ⟨gb851,0,none⟩=some (.slice A0_0 l0_0.length c0_0):=(kC BK851.out 0).trans rfl;have hfz7_0:=kF BK851.out 0)|((with_reducible refine gate_callee (f:=61) rfl ?_);refine goesL_ (some 14) rfl rfl Try.func61 (by kernel_rfl) rfl #[.agg #[.slice A0_0 l0_0.length c0_0]] rfl pG ?_;(with_reducible refine (configuration_Declared.calls k _ _ l0_0 t853 _ ?side1 ?side2 A5.out).mono ?_);(case side1=>exact pC HR0_0);(case side2=>exact HC0_0.out);rintro e w8 ⟨rfl,hb⟩;refine ⟨_,rfl,?_⟩;have n0_:=Z (blk_below (g:=gb851) (o:=.cells #[.slice A0_0 l0_0.length c0_0] 27 (0,0)) (pK BK851) hb);have n1_:=Z (below_step pB hb);clear BK851;clear HB;have BK851:=n0_;have HB:=n1_;clear n0_ n1_;(try clear hb);(try clear hb2);(try clear hk);(try clear hi)))
  go_loopg [1,6] k (fun kq v1 v6 w'=>∃ (x1_1:Int) (x6_1:List Int),v1=.int .i64 x1_1∧Aside0 (closure_eliminate.l0 kq x1_1 x6_1 l0_0=some (r1,r2))∧Aside0 (kq≤k)∧Aside0 (Kd.R (Kd.int .i64) 3 w' w.heap.size (fun _=>True) v6 x6_1)∧Aside0 (w'.heap[gb851]?=some (.cells #[(.slice A0_0 l0_0.length c0_0)] 27 (0,0)))∧Aside0 (Below w.heap.size w w'))
  case atStart=>exact ⟨(Go.bits .and .i64 a1 t853),(([]:List Int)),pE,H',⟨Nat.le_refl _⟩,⟨pN⟩,⟨pK BK851⟩,⟨pB⟩⟩
  case round =>
   clear H'
   try clear c1
   try clear p2
   try clear c4
   try clear c5
   try clear c6
   try clear hcz7_0
   try clear hfz7_0
   obtain ⟨x1_1,x6_1,rfl,HA,HK1,HO_6,BK851,HB⟩:=hrel
   cases gk with
   | zero=>exact absurd HA.out (by simp [closure_eliminate.l0])
   | succ k1 =>
    have H:=HA.out
    clear HA
    simp only [closure_eliminate.l0] at H
    replace H:=Option.bind_eq_some_iff.mp H
    obtain ⟨⟨t854,t855⟩,A90,H⟩:=H
    try dsimp only at H
    have A9:=Z A90
    clear A90
    by_cases c10:t855=true
    ·subst c10
     rw [if_pos rfl] at H
     by_cases c11:x6_1.length < 17592186044416
     ·rw [if_pos c11] at H
      have LMc11:=Z c11
      clear c11
      obtain ⟨y856,hy856⟩:∃ y_:List Int,y_=(x6_1++[t854]):=⟨_,rfl⟩
      first|rw [← hy856] at H|(replace H:=(Option.bind_some _ _).symm.trans H;rw [← hy856] at H)
      have Ny856:=Z hy856
      clear hy856
      by_cases c12:0≤t854
      ·rw [if_pos c12] at H
       have c12b0:=eq_true c12
       have c12b1:decide (0≤t854)=true:=decide_eq_true c12
       clear c12
       obtain ⟨ji13,hji13⟩:∃ j_:Int,(shl .i64 1 t854)=j_:=⟨_,rfl⟩
       replace H:(closure_eliminate.l0 k1 (Go.bits .andNot .i64 x1_1 (ji13)) y856 l0_0)=some (r1,r2):=by first|(rw [hji13] at H;exact H)|(simp only [hji13] at H ⊢;exact H)
       (try rw [hji13] at A9)
       have hji13_:(IntKind.i64.wrap (1 * 2 ^ min t854.toNat 64))=ji13:=hji13
       have hji13z:t854≤64→(IntKind.i64.wrap (1 * 2 ^ t854.toNat))=ji13:=shl_small hji13
       have hji13u:(IntKind.i64.wrap (2 ^ min t854.toNat 64))=ji13:=by have h_:=hji13_;rw [Int.one_mul] at h_;exact h_
       have hji13v:t854≤64→(IntKind.i64.wrap (2 ^ t854.toNat))=ji13:=fun hle_=>by have h_:=hji13z hle_;rw [Int.one_mul] at h_;exact h_
       have hji13y:(wrap64 (1 * 2 ^ min t854.toNat 64))=ji13:=(i64_w _).symm.trans hji13_
       have hji13x:t854≤64→(wrap64 (1 * 2 ^ t854.toNat))=ji13:=fun h_=>(i64_w _).symm.trans (hji13z h_)
       have H':=Z H
       clear H
       have hcz14_0:wr.cell? ⟨gb851,0,none⟩=some (.slice A0_0 l0_0.length c0_0):=(kC BK851.out 0).trans rfl
       have hfz14_0:=kF BK851.out 0
       go_wp2_with (first|((with_reducible refine gate_callee (f:=120) rfl ?_);refine goesL_ (some 19) rfl rfl Try.func120 (by kernel_rfl) rfl #[.agg #[.slice A0_0 l0_0.length c0_0],.int .i64 x1_1] rfl pG ?_;(with_reducible refine (closure_unhappy.calls k1 _ _ l0_0 x1_1 t854 true _ ?side1 ?side2 A9.out).mono ?_);(case side1=>repeat (first|exact (Kd.C_below HR0_0.out HB.out)|(with_reducible refine Kd.C_alloc ?_ _)|(with_reducible refine Kd.C_drewN ?_ _)|(with_reducible refine Kd.C_drew ?_)));(case side2=>exact HC0_0.out);rintro e w15 ⟨rfl,hb⟩;refine ⟨_,rfl,?_⟩;have n0_:=Z (Kd.R_below (pR HO_6) hb);have n1_:=Z (blk_below (g:=gb851) (o:=.cells #[.slice A0_0 l0_0.length c0_0] 27 (0,0)) (pK BK851) hb);have n2_:=Z (below_step pB hb);clear HO_6;clear BK851;clear HB;have HO_6:=n0_;have BK851:=n1_;have HB:=n2_;clear n0_ n1_ n2_;(try clear hb);(try clear hb2);(try clear hk);(try clear hi))|((with_reducible refine gate_builtin (b:=.append) (xs:=#[.tmp 26,.tmp 28]) rfl ?_);at_builtin;refine Kd.R_append (Kd.int .i64) (w0:=w) w.heap.size rfl (.tmp 26) (.tmp 28) 22 3 (.int .i64 0) 8 rfl Try.underlying22 info3 rfl (by decide) (by omega) u6 x6_1 t854 [.int .i64 t854] (fun _=>True) (fun _=>False) rfl rfl ?aP (fun _ hk=>hk.elim) ?aF ?aO ?aB ?aS ?aL ?_;(case aP=>exact rfl);(case aB=>exact pB);(case aF=>exact (fun _ _=>trivial));(case aO=>exact (pR HO_6));(case aS=>exact (below_size pB));(case aL=>have:=LMc11.out;omega);intro v857 w16 ho hb hg hat;rw [← Ny856.out] at ho;have n0_:=Z (blk_grown (g:=gb851) (o:=.cells #[.slice A0_0 l0_0.length c0_0] 27 (0,0)) (pK BK851) hg (Kd.R_ne HO_6.out BK851.out (by decide)));have n1_:=Z (hb);have n2_:=Z (ho);clear BK851;clear HB;clear HO_6;have BK851:=n0_;have HB:=n1_;have HO858:=n2_;clear n0_ n1_ n2_;clear ho hb hg hat))
       go_roundg k1
       case measure=>have:=HK1.out;omega
       case rel=>exact ⟨(Go.bits .andNot .i64 x1_1 (ji13)),(y856),(by first|exact pE|(simp only [← hji13] <;> (first|rfl|simp))),H',⟨by have:=HK1.out;omega⟩,⟨pR HO858⟩,⟨pK BK851⟩,⟨pB⟩⟩
      ·rw [if_neg c12] at H
       exact absurd H (by simp)
     ·rw [if_neg c11] at H
      exact absurd H (by simp)
    ·replace c10:=Bool.eq_false_iff.mpr c10
     subst c10
     rw [if_neg (show ¬ (false=true) by decide)] at H
     simp only [Option.some.injEq,Prod.mk.injEq] at H
     obtain ⟨rfl,rfl⟩:=H
     have hcz17_0:wr.cell? ⟨gb851,0,none⟩=some (.slice A0_0 l0_0.length c0_0):=(kC BK851.out 0).trans rfl
     have hfz17_0:=kF BK851.out 0
     go_wp2_with (first|((with_reducible refine gate_callee (f:=120) rfl ?_);refine goesL_ (some 19) rfl rfl Try.func120 (by kernel_rfl) rfl #[.agg #[.slice A0_0 l0_0.length c0_0],.int .i64 x1_1] rfl pG ?_;(with_reducible refine (closure_unhappy.calls k1 _ _ l0_0 x1_1 t854 false _ ?side1 ?side2 A9.out).mono ?_);(case side1=>repeat (first|exact (Kd.C_below HR0_0.out HB.out)|(with_reducible refine Kd.C_alloc ?_ _)|(with_reducible refine Kd.C_drewN ?_ _)|(with_reducible refine Kd.C_drew ?_)));(case side2=>exact HC0_0.out);rintro e w18 ⟨rfl,hb⟩;refine ⟨_,rfl,?_⟩;have n0_:=Z (Kd.R_below (pR HO_6) hb);have n1_:=Z (blk_below (g:=gb851) (o:=.cells #[.slice A0_0 l0_0.length c0_0] 27 (0,0)) (pK BK851) hb);have n2_:=Z (below_step pB hb);clear HO_6;clear BK851;clear HB;have HO_6:=n0_;have BK851:=n1_;have HB:=n2_;clear n0_ n1_ n2_;(try clear hb);(try clear hb2);(try clear hk);(try clear hi)))
     go_ret2
     exact ⟨_,pF,pR HO_6,pB⟩
 ·replace c4:=Bool.eq_false_iff.mpr c4
  subst c4
  rw [if_neg (show ¬ (false=true) by decide)] at H
  simp only [Option.some.injEq,Prod.mk.injEq] at H
  obtain ⟨rfl,rfl⟩:=H
  go_enter Try.func124,Try.ntmps124
  go_wp2_with (first|((with_reducible refine gate_dst (N:=2) rfl ?_);refine box_event ?hg (N:=2) ?hd (cs:=#[.slice A0_0 l0_0.length c0_0]) (t:=27) ?hr ?_;(case hd=>rfl);(case hg=>rfl);(case hr=>first|(go_simp;done)|(go_simp;rfl));intro gb851 hg w19 hbox hb;have n0_:=Z (below_step pB hb);have n1_:=Z (hbox);have n2_:=Z ((pT hg:w.heap.size≤gb851));have n3_:=Z ((pT hg:w.heap.size≤gb851));clear HB;have HB:=n0_;have BK851:=n1_;have GW851:=n2_;have GE851:=n3_;clear n0_ n1_ n2_ n3_;clear hb hbox hg)|((with_reducible refine gate_callee (f:=59) rfl ?_);refine goesL_ (some 10) rfl rfl Try.func59 (by kernel_rfl) rfl #[.int .i64 a1] rfl pG ?_;(with_reducible refine (nodeset_Valid.calls a1 false _ A3.out).mono ?_);rintro e w' ⟨rfl,⟨nd,rfl⟩⟩;refine ⟨_,rfl,?_⟩))
  go_ret2
  exact ⟨_,pF,pN,pB⟩
def closure_Greatest.f (k:Nat) (l0_0:List (S34)) (a1:Int):Option (Int):=(closure_eliminate.f k l0_0 a1).bind fun bt860=>(some bt860.1)
set_option maxHeartbeats 8000000 in
set_option maxRecDepth 100000 in
theorem closure_Greatest.calls (k:Nat) (A0_0:Option Addr) (c0_0:Nat) (l0_0:List (S34)) (a1:Int) (r:Int) (w:World) (hr0_0:Kd.C k34 w A0_0 l0_0.length l0_0) (hc0_0:l0_0.length≤c0_0) (h:closure_Greatest.f k l0_0 a1=some r) :
  Calls Try.prog 107 #[.agg #[.slice A0_0 l0_0.length c0_0],.int .i64 a1] w fun e w'=>e=.returned (.int .i64 r)∧Below w.heap.size w w':=by
 have hu27:=Try.underlying27
 have HR0_0:=Z hr0_0
 have HC0_0:=Z hc0_0
 clear hr0_0 hc0_0
 have HB:=Z (Below.refl w.heap.size w)
 have H:((closure_eliminate.f k l0_0 a1).bind fun bt860=>(some bt860.1))=some r:=h
 clear h
 replace H:=Option.bind_eq_some_iff.mp H
 obtain ⟨⟨t860,t861⟩,A30,H⟩:=H
 try dsimp only at H
 have A3:=Z A30
 clear A30
 obtain rfl:=Option.some.inj H
 go_enter Try.func107,Try.ntmps107
 go_wp2_with (first|((with_reducible refine gate_dst (N:=2) rfl ?_);refine box_event ?hg (N:=2) ?hd (cs:=#[.slice A0_0 l0_0.length c0_0]) (t:=27) ?hr ?_;(case hd=>rfl);(case hg=>rfl);(case hr=>first|(go_simp;done)|(go_simp;rfl));intro gb859 hg w4 hbox hb;have n0_:=Z (below_step pB hb);have n1_:=Z (hbox);have n2_:=Z ((pT hg:w.heap.size≤gb859));have n3_:=Z ((pT hg:w.heap.size≤gb859));clear HB;have HB:=n0_;have BK859:=n1_;have GW859:=n2_;have GE859:=n3_;clear n0_ n1_ n2_ n3_;clear hb hbox hg;have hcz5_0:w4.cell? ⟨gb859,0,none⟩=some (.slice A0_0 l0_0.length c0_0):=(kC BK859.out 0).trans rfl;have hfz5_0:=kF BK859.out 0)|((with_reducible refine gate_callee (f:=124) rfl ?_);refine goesL_ (some 10) rfl rfl Try.func124 (by kernel_rfl) rfl #[.agg #[.slice A0_0 l0_0.length c0_0],.int .i64 a1] rfl pG ?_;(with_reducible refine (closure_eliminate.calls k _ _ l0_0 a1 t860 t861 _ ?side1 ?side2 A3.out).mono ?_);(case side1=>repeat (first|exact (Kd.C_below HR0_0.out HB.out)|(with_reducible refine Kd.C_alloc ?_ _)|(with_reducible refine Kd.C_drewN ?_ _)|(with_reducible refine Kd.C_drew ?_)));(case side2=>exact HC0_0.out);rintro e w6 ⟨v862,rfl,ho0,hb⟩;refine ⟨_,rfl,?_⟩;have n0_:=Z (Kd.R_lower ho0 (below_size pB));have n1_:=Z (blk_below (g:=gb859) (o:=.cells #[.slice A0_0 l0_0.length c0_0] 27 (0,0)) (pK BK859) hb);have n2_:=Z (below_step pB hb);clear BK859;clear HB;have HO863:=n0_;have BK859:=n1_;have HB:=n2_;clear n0_ n1_ n2_;(try clear hb);(try clear hb2);(try clear hk);(try clear hi);(try clear ho0)))
 go_ret
 exact ⟨pF,pB⟩
def bits_OnesCount64.f (a0:Int):Option (Int):=some (Go.bits .and .i64 (wrap64 (IntKind.u64.wrap ((IntKind.u64.wrap ((IntKind.u64.wrap ((Go.bits .and .u64 (IntKind.u64.wrap (((IntKind.u64.wrap ((Go.bits .and .u64 ((IntKind.u64.wrap ((Go.bits .and .u64 (a0 / 2) 6148914691236517205)+(Go.bits .and .u64 a0 6148914691236517205))) / 4) 3689348814741910323)+(Go.bits .and .u64 (IntKind.u64.wrap ((Go.bits .and .u64 (a0 / 2) 6148914691236517205)+(Go.bits .and .u64 a0 6148914691236517205))) 3689348814741910323))) / 16)+(IntKind.u64.wrap ((Go.bits .and .u64 ((IntKind.u64.wrap ((Go.bits .and .u64 (a0 / 2) 6148914691236517205)+(Go.bits .and .u64 a0 6148914691236517205))) / 4) 3689348814741910323)+(Go.bits .and .u64 (IntKind.u64.wrap ((Go.bits .and .u64 (a0 / 2) 6148914691236517205)+(Go.bits .and .u64 a0 6148914691236517205))) 3689348814741910323))))) 1085102592571150095)+((Go.bits .and .u64 (IntKind.u64.wrap (((IntKind.u64.wrap ((Go.bits .and .u64 ((IntKind.u64.wrap ((Go.bits .and .u64 (a0 / 2) 6148914691236517205)+(Go.bits .and .u64 a0 6148914691236517205))) / 4) 3689348814741910323)+(Go.bits .and .u64 (IntKind.u64.wrap ((Go.bits .and .u64 (a0 / 2) 6148914691236517205)+(Go.bits .and .u64 a0 6148914691236517205))) 3689348814741910323))) / 16)+(IntKind.u64.wrap ((Go.bits .and .u64 ((IntKind.u64.wrap ((Go.bits .and .u64 (a0 / 2) 6148914691236517205)+(Go.bits .and .u64 a0 6148914691236517205))) / 4) 3689348814741910323)+(Go.bits .and .u64 (IntKind.u64.wrap ((Go.bits .and .u64 (a0 / 2) 6148914691236517205)+(Go.bits .and .u64 a0 6148914691236517205))) 3689348814741910323))))) 1085102592571150095) / 256)))+((IntKind.u64.wrap ((Go.bits .and .u64 (IntKind.u64.wrap (((IntKind.u64.wrap ((Go.bits .and .u64 ((IntKind.u64.wrap ((Go.bits .and .u64 (a0 / 2) 6148914691236517205)+(Go.bits .and .u64 a0 6148914691236517205))) / 4) 3689348814741910323)+(Go.bits .and .u64 (IntKind.u64.wrap ((Go.bits .and .u64 (a0 / 2) 6148914691236517205)+(Go.bits .and .u64 a0 6148914691236517205))) 3689348814741910323))) / 16)+(IntKind.u64.wrap ((Go.bits .and .u64 ((IntKind.u64.wrap ((Go.bits .and .u64 (a0 / 2) 6148914691236517205)+(Go.bits .and .u64 a0 6148914691236517205))) / 4) 3689348814741910323)+(Go.bits .and .u64 (IntKind.u64.wrap ((Go.bits .and .u64 (a0 / 2) 6148914691236517205)+(Go.bits .and .u64 a0 6148914691236517205))) 3689348814741910323))))) 1085102592571150095)+((Go.bits .and .u64 (IntKind.u64.wrap (((IntKind.u64.wrap ((Go.bits .and .u64 ((IntKind.u64.wrap ((Go.bits .and .u64 (a0 / 2) 6148914691236517205)+(Go.bits .and .u64 a0 6148914691236517205))) / 4) 3689348814741910323)+(Go.bits .and .u64 (IntKind.u64.wrap ((Go.bits .and .u64 (a0 / 2) 6148914691236517205)+(Go.bits .and .u64 a0 6148914691236517205))) 3689348814741910323))) / 16)+(IntKind.u64.wrap ((Go.bits .and .u64 ((IntKind.u64.wrap ((Go.bits .and .u64 (a0 / 2) 6148914691236517205)+(Go.bits .and .u64 a0 6148914691236517205))) / 4) 3689348814741910323)+(Go.bits .and .u64 (IntKind.u64.wrap ((Go.bits .and .u64 (a0 / 2) 6148914691236517205)+(Go.bits .and .u64 a0 6148914691236517205))) 3689348814741910323))))) 1085102592571150095) / 256))) / 65536)))+((IntKind.u64.wrap ((IntKind.u64.wrap ((Go.bits .and .u64 (IntKind.u64.wrap (((IntKind.u64.wrap ((Go.bits .and .u64 ((IntKind.u64.wrap ((Go.bits .and .u64 (a0 / 2) 6148914691236517205)+(Go.bits .and .u64 a0 6148914691236517205))) / 4) 3689348814741910323)+(Go.bits .and .u64 (IntKind.u64.wrap ((Go.bits .and .u64 (a0 / 2) 6148914691236517205)+(Go.bits .and .u64 a0 6148914691236517205))) 3689348814741910323))) / 16)+(IntKind.u64.wrap ((Go.bits .and .u64 ((IntKind.u64.wrap ((Go.bits .and .u64 (a0 / 2) 6148914691236517205)+(Go.bits .and .u64 a0 6148914691236517205))) / 4) 3689348814741910323)+(Go.bits .and .u64 (IntKind.u64.wrap ((Go.bits .and .u64 (a0 / 2) 6148914691236517205)+(Go.bits .and .u64 a0 6148914691236517205))) 3689348814741910323))))) 1085102592571150095)+((Go.bits .and .u64 (IntKind.u64.wrap (((IntKind.u64.wrap ((Go.bits .and .u64 ((IntKind.u64.wrap ((Go.bits .and .u64 (a0 / 2) 6148914691236517205)+(Go.bits .and .u64 a0 6148914691236517205))) / 4) 3689348814741910323)+(Go.bits .and .u64 (IntKind.u64.wrap ((Go.bits .and .u64 (a0 / 2) 6148914691236517205)+(Go.bits .and .u64 a0 6148914691236517205))) 3689348814741910323))) / 16)+(IntKind.u64.wrap ((Go.bits .and .u64 ((IntKind.u64.wrap ((Go.bits .and .u64 (a0 / 2) 6148914691236517205)+(Go.bits .and .u64 a0 6148914691236517205))) / 4) 3689348814741910323)+(Go.bits .and .u64 (IntKind.u64.wrap ((Go.bits .and .u64 (a0 / 2) 6148914691236517205)+(Go.bits .and .u64 a0 6148914691236517205))) 3689348814741910323))))) 1085102592571150095) / 256)))+((IntKind.u64.wrap ((Go.bits .and .u64 (IntKind.u64.wrap (((IntKind.u64.wrap ((Go.bits .and .u64 ((IntKind.u64.wrap ((Go.bits .and .u64 (a0 / 2) 6148914691236517205)+(Go.bits .and .u64 a0 6148914691236517205))) / 4) 3689348814741910323)+(Go.bits .and .u64 (IntKind.u64.wrap ((Go.bits .and .u64 (a0 / 2) 6148914691236517205)+(Go.bits .and .u64 a0 6148914691236517205))) 3689348814741910323))) / 16)+(IntKind.u64.wrap ((Go.bits .and .u64 ((IntKind.u64.wrap ((Go.bits .and .u64 (a0 / 2) 6148914691236517205)+(Go.bits .and .u64 a0 6148914691236517205))) / 4) 3689348814741910323)+(Go.bits .and .u64 (IntKind.u64.wrap ((Go.bits .and .u64 (a0 / 2) 6148914691236517205)+(Go.bits .and .u64 a0 6148914691236517205))) 3689348814741910323))))) 1085102592571150095)+((Go.bits .and .u64 (IntKind.u64.wrap (((IntKind.u64.wrap ((Go.bits .and .u64 ((IntKind.u64.wrap ((Go.bits .and .u64 (a0 / 2) 6148914691236517205)+(Go.bits .and .u64 a0 6148914691236517205))) / 4) 3689348814741910323)+(Go.bits .and .u64 (IntKind.u64.wrap ((Go.bits .and .u64 (a0 / 2) 6148914691236517205)+(Go.bits .and .u64 a0 6148914691236517205))) 3689348814741910323))) / 16)+(IntKind.u64.wrap ((Go.bits .and .u64 ((IntKind.u64.wrap ((Go.bits .and .u64 (a0 / 2) 6148914691236517205)+(Go.bits .and .u64 a0 6148914691236517205))) / 4) 3689348814741910323)+(Go.bits .and .u64 (IntKind.u64.wrap ((Go.bits .and .u64 (a0 / 2) 6148914691236517205)+(Go.bits .and .u64 a0 6148914691236517205))) 3689348814741910323))))) 1085102592571150095) / 256))) / 65536))) / 4294967296)))) 127)
set_option maxHeartbeats 8000000 in
set_option maxRecDepth 100000 in
theorem bits_OnesCount64.calls (a0:Int) (r:Int) (w:World) (h:bits_OnesCount64.f a0=some r) :
  Calls Try.prog 145 #[.int .u64 a0] w fun e w'=>e=.returned (.int .i64 r)∧Drawn0 w w':=by
 have H:(some (Go.bits .and .i64 (wrap64 (IntKind.u64.wrap ((IntKind.u64.wrap ((IntKind.u64.wrap ((Go.bits .and .u64 (IntKind.u64.wrap (((IntKind.u64.wrap ((Go.bits .and .u64 ((IntKind.u64.wrap ((Go.bits .and .u64 (a0 / 2) 6148914691236517205)+(Go.bits .and .u64 a0 6148914691236517205))) / 4) 3689348814741910323)+(Go.bits .and .u64 (IntKind.u64.wrap ((Go.bits .and .u64 (a0 / 2) 6148914691236517205)+(Go.bits .and .u64 a0 6148914691236517205))) 3689348814741910323))) / 16)+(IntKind.u64.wrap ((Go.bits .and .u64 ((IntKind.u64.wrap ((Go.bits .and .u64 (a0 / 2) 6148914691236517205)+(Go.bits .and .u64 a0 6148914691236517205))) / 4) 3689348814741910323)+(Go.bits .and .u64 (IntKind.u64.wrap ((Go.bits .and .u64 (a0 / 2) 6148914691236517205)+(Go.bits .and .u64 a0 6148914691236517205))) 3689348814741910323))))) 1085102592571150095)+((Go.bits .and .u64 (IntKind.u64.wrap (((IntKind.u64.wrap ((Go.bits .and .u64 ((IntKind.u64.wrap ((Go.bits .and .u64 (a0 / 2) 6148914691236517205)+(Go.bits .and .u64 a0 6148914691236517205))) / 4) 3689348814741910323)+(Go.bits .and .u64 (IntKind.u64.wrap ((Go.bits .and .u64 (a0 / 2) 6148914691236517205)+(Go.bits .and .u64 a0 6148914691236517205))) 3689348814741910323))) / 16)+(IntKind.u64.wrap ((Go.bits .and .u64 ((IntKind.u64.wrap ((Go.bits .and .u64 (a0 / 2) 6148914691236517205)+(Go.bits .and .u64 a0 6148914691236517205))) / 4) 3689348814741910323)+(Go.bits .and .u64 (IntKind.u64.wrap ((Go.bits .and .u64 (a0 / 2) 6148914691236517205)+(Go.bits .and .u64 a0 6148914691236517205))) 3689348814741910323))))) 1085102592571150095) / 256)))+((IntKind.u64.wrap ((Go.bits .and .u64 (IntKind.u64.wrap (((IntKind.u64.wrap ((Go.bits .and .u64 ((IntKind.u64.wrap ((Go.bits .and .u64 (a0 / 2) 6148914691236517205)+(Go.bits .and .u64 a0 6148914691236517205))) / 4) 3689348814741910323)+(Go.bits .and .u64 (IntKind.u64.wrap ((Go.bits .and .u64 (a0 / 2) 6148914691236517205)+(Go.bits .and .u64 a0 6148914691236517205))) 3689348814741910323))) / 16)+(IntKind.u64.wrap ((Go.bits .and .u64 ((IntKind.u64.wrap ((Go.bits .and .u64 (a0 / 2) 6148914691236517205)+(Go.bits .and .u64 a0 6148914691236517205))) / 4) 3689348814741910323)+(Go.bits .and .u64 (IntKind.u64.wrap ((Go.bits .and .u64 (a0 / 2) 6148914691236517205)+(Go.bits .and .u64 a0 6148914691236517205))) 3689348814741910323))))) 1085102592571150095)+((Go.bits .and .u64 (IntKind.u64.wrap (((IntKind.u64.wrap ((Go.bits .and .u64 ((IntKind.u64.wrap ((Go.bits .and .u64 (a0 / 2) 6148914691236517205)+(Go.bits .and .u64 a0 6148914691236517205))) / 4) 3689348814741910323)+(Go.bits .and .u64 (IntKind.u64.wrap ((Go.bits .and .u64 (a0 / 2) 6148914691236517205)+(Go.bits .and .u64 a0 6148914691236517205))) 3689348814741910323))) / 16)+(IntKind.u64.wrap ((Go.bits .and .u64 ((IntKind.u64.wrap ((Go.bits .and .u64 (a0 / 2) 6148914691236517205)+(Go.bits .and .u64 a0 6148914691236517205))) / 4) 3689348814741910323)+(Go.bits .and .u64 (IntKind.u64.wrap ((Go.bits .and .u64 (a0 / 2) 6148914691236517205)+(Go.bits .and .u64 a0 6148914691236517205))) 3689348814741910323))))) 1085102592571150095) / 256))) / 65536)))+((IntKind.u64.wrap ((IntKind.u64.wrap ((Go.bits .and .u64 (IntKind.u64.wrap (((IntKind.u64.wrap ((Go.bits .and .u64 ((IntKind.u64.wrap ((Go.bits .and .u64 (a0 / 2) 6148914691236517205)+(Go.bits .and .u64 a0 6148914691236517205))) / 4) 3689348814741910323)+(Go.bits .and .u64 (IntKind.u64.wrap ((Go.bits .and .u64 (a0 / 2) 6148914691236517205)+(Go.bits .and .u64 a0 6148914691236517205))) 3689348814741910323))) / 16)+(IntKind.u64.wrap ((Go.bits .and .u64 ((IntKind.u64.wrap ((Go.bits .and .u64 (a0 / 2) 6148914691236517205)+(Go.bits .and .u64 a0 6148914691236517205))) / 4) 3689348814741910323)+(Go.bits .and .u64 (IntKind.u64.wrap ((Go.bits .and .u64 (a0 / 2) 6148914691236517205)+(Go.bits .and .u64 a0 6148914691236517205))) 3689348814741910323))))) 1085102592571150095)+((Go.bits .and .u64 (IntKind.u64.wrap (((IntKind.u64.wrap ((Go.bits .and .u64 ((IntKind.u64.wrap ((Go.bits .and .u64 (a0 / 2) 6148914691236517205)+(Go.bits .and .u64 a0 6148914691236517205))) / 4) 3689348814741910323)+(Go.bits .and .u64 (IntKind.u64.wrap ((Go.bits .and .u64 (a0 / 2) 6148914691236517205)+(Go.bits .and .u64 a0 6148914691236517205))) 3689348814741910323))) / 16)+(IntKind.u64.wrap ((Go.bits .and .u64 ((IntKind.u64.wrap ((Go.bits .and .u64 (a0 / 2) 6148914691236517205)+(Go.bits .and .u64 a0 6148914691236517205))) / 4) 3689348814741910323)+(Go.bits .and .u64 (IntKind.u64.wrap ((Go.bits .and .u64 (a0 / 2) 6148914691236517205)+(Go.bits .and .u64 a0 6148914691236517205))) 3689348814741910323))))) 1085102592571150095) / 256)))+((IntKind.u64.wrap ((Go.bits .and .u64 (IntKind.u64.wrap (((IntKind.u64.wrap ((Go.bits .and .u64 ((IntKind.u64.wrap ((Go.bits .and .u64 (a0 / 2) 6148914691236517205)+(Go.bits .and .u64 a0 6148914691236517205))) / 4) 3689348814741910323)+(Go.bits .and .u64 (IntKind.u64.wrap ((Go.bits .and .u64 (a0 / 2) 6148914691236517205)+(Go.bits .and .u64 a0 6148914691236517205))) 3689348814741910323))) / 16)+(IntKind.u64.wrap ((Go.bits .and .u64 ((IntKind.u64.wrap ((Go.bits .and .u64 (a0 / 2) 6148914691236517205)+(Go.bits .and .u64 a0 6148914691236517205))) / 4) 3689348814741910323)+(Go.bits .and .u64 (IntKind.u64.wrap ((Go.bits .and .u64 (a0 / 2) 6148914691236517205)+(Go.bits .and .u64 a0 6148914691236517205))) 3689348814741910323))))) 1085102592571150095)+((Go.bits .and .u64 (IntKind.u64.wrap (((IntKind.u64.wrap ((Go.bits .and .u64 ((IntKind.u64.wrap ((Go.bits .and .u64 (a0 / 2) 6148914691236517205)+(Go.bits .and .u64 a0 6148914691236517205))) / 4) 3689348814741910323)+(Go.bits .and .u64 (IntKind.u64.wrap ((Go.bits .and .u64 (a0 / 2) 6148914691236517205)+(Go.bits .and .u64 a0 6148914691236517205))) 3689348814741910323))) / 16)+(IntKind.u64.wrap ((Go.bits .and .u64 ((IntKind.u64.wrap ((Go.bits .and .u64 (a0 / 2) 6148914691236517205)+(Go.bits .and .u64 a0 6148914691236517205))) / 4) 3689348814741910323)+(Go.bits .and .u64 (IntKind.u64.wrap ((Go.bits .and .u64 (a0 / 2) 6148914691236517205)+(Go.bits .and .u64 a0 6148914691236517205))) 3689348814741910323))))) 1085102592571150095) / 256))) / 65536))) / 4294967296)))) 127))=some r:=h
 clear h
 obtain rfl:=Option.some.inj H
 go_enter Try.func145,Try.ntmps145
 go_wp2
 go_ret
 exact ⟨by first|rfl|(simp;done)|(simp [*];done),by repeat (first|exact Drawn0.refl _|apply Drawn0.step)⟩
def bits_OnesCount.f (a0:Int):Option (Int):=(bits_OnesCount64.f a0).bind fun t285=>(some t285)
set_option maxHeartbeats 8000000 in
set_option maxRecDepth 100000 in
theorem bits_OnesCount.calls (a0:Int) (r:Int) (w:World) (h:bits_OnesCount.f a0=some r) :
  Calls Try.prog 125 #[.int .u64 a0] w fun e w'=>e=.returned (.int .i64 r)∧Drawn0 w w':=by
 have H:((bits_OnesCount64.f a0).bind fun t285=>(some t285))=some r:=h
 clear h
 replace H:=Option.bind_eq_some_iff.mp H
 obtain ⟨t285,A20,H⟩:=H
 try dsimp only at H
 have A2:=Z A20
 clear A20
 obtain rfl:=Option.some.inj H
 go_enter Try.func125,Try.ntmps125
 go_wp2_with (first|((with_reducible refine gate_callee (f:=145) rfl ?_);refine goesL_ (some 7) rfl rfl Try.func145 (by kernel_rfl) rfl #[.int .u64 a0] rfl pG ?_;(with_reducible refine (bits_OnesCount64.calls a0 t285 _ A2.out).mono ?_);rintro e w' ⟨rfl,⟨nd,rfl⟩⟩;refine ⟨_,rfl,?_⟩))
 go_ret
 exact ⟨by first|rfl|(simp;done)|(simp [*];done),by repeat (first|exact Drawn0.refl _|apply Drawn0.step)⟩
def nodeset_Size.f (a0:Int):Option (Int):=(nodeset_Valid.f a0).bind fun t286=>(if t286=true then ((bits_OnesCount.f (IntKind.u64.wrap (a0))).bind fun t287=>(some t287)) else (some 0))
set_option maxHeartbeats 8000000 in
set_option maxRecDepth 100000 in
theorem nodeset_Size.calls (a0:Int) (r:Int) (w:World) (h:nodeset_Size.f a0=some r) :
  Calls Try.prog 108 #[.int .i64 a0] w fun e w'=>e=.returned (.int .i64 r)∧Drawn0 w w':=by
 have H:((nodeset_Valid.f a0).bind fun t286=>(if t286=true then ((bits_OnesCount.f (IntKind.u64.wrap (a0))).bind fun t287=>(some t287)) else (some 0)))=some r:=h
 clear h
 replace H:=Option.bind_eq_some_iff.mp H
 obtain ⟨t286,A20,H⟩:=H
 try dsimp only at H
 have A2:=Z A20
 clear A20
 by_cases c3:t286=true
 ·subst c3
  rw [if_pos rfl] at H
  replace H:=Option.bind_eq_some_iff.mp H
  obtain ⟨t287,A40,H⟩:=H
  try dsimp only at H
  have A4:=Z A40
  clear A40
  obtain rfl:=Option.some.inj H
  go_enter Try.func108,Try.ntmps108
  go_wp2_with (first|((with_reducible refine gate_callee (f:=59) rfl ?_);refine goesL_ (some 4) rfl rfl Try.func59 (by kernel_rfl) rfl #[.int .i64 a0] rfl pG ?_;(with_reducible refine (nodeset_Valid.calls a0 true _ A2.out).mono ?_);rintro e w' ⟨rfl,⟨nd,rfl⟩⟩;refine ⟨_,rfl,?_⟩)|((with_reducible refine gate_callee (f:=125) rfl ?_);refine goesL_ (some 8) rfl rfl Try.func125 (by kernel_rfl) rfl #[.int .u64 (IntKind.u64.wrap (a0))] rfl pG ?_;(with_reducible refine (bits_OnesCount.calls (IntKind.u64.wrap (a0)) t287 _ A4.out).mono ?_);rintro e w' ⟨rfl,⟨nd,rfl⟩⟩;refine ⟨_,rfl,?_⟩))
  go_ret
  exact ⟨by first|rfl|(simp;done)|(simp [*];done),by repeat (first|exact Drawn0.refl _|apply Drawn0.step)⟩
 ·replace c3:=Bool.eq_false_iff.mpr c3
  subst c3
  rw [if_neg (show ¬ (false=true) by decide)] at H
  obtain rfl:=Option.some.inj H
  go_enter Try.func108,Try.ntmps108
  go_wp2_with (first|((with_reducible refine gate_callee (f:=59) rfl ?_);refine goesL_ (some 4) rfl rfl Try.func59 (by kernel_rfl) rfl #[.int .i64 a0] rfl pG ?_;(with_reducible refine (nodeset_Valid.calls a0 false _ A2.out).mono ?_);rintro e w' ⟨rfl,⟨nd,rfl⟩⟩;refine ⟨_,rfl,?_⟩))
  go_ret
  exact ⟨by first|rfl|(simp;done)|(simp [*];done),by repeat (first|exact Drawn0.refl _|apply Drawn0.step)⟩
mutual
def nodeset_Next.j0:Nat→Int→Int→Bool→Option (Int × Bool)
 | 0,_,_,_=>none
 | k+1,x0,x1,x19=>if x19=true then (some (0,false)) else ((nodeset_Size.f x0).bind fun t865=>(nodeset_Next.l0 k x1 t865 (wrap64 (x0+1))))
def nodeset_Next.l0:Nat→Int→Int→Int→Option (Int × Bool)
 | 0,_,_,_=>none
 | k+1,x1,x6,x7=>(nodeset_below.f x7 x1).bind fun t866=>(if t866=true then ((nodeset_Size.f x7).bind fun t867=>(if t867=x6 then (some (x7,true)) else (nodeset_Next.l0 k x1 x6 (wrap64 (x7+1))))) else (if x6=x1 then (some (0,false)) else (if 0≤(wrap64 (x6+1)) then (some (wrap64 ((shl .i64 1 (wrap64 (x6+1))) - 1),true)) else (none))))
end
def nodeset_Next.f (k:Nat) (a0:Int) (a1:Int):Option (Int × Bool):=if a1 < 0 then (nodeset_Next.j0 k a0 a1 true) else (if a1 > 10 then (nodeset_Next.j0 k a0 a1 true) else ((nodeset_below.f a0 a1).bind fun t864=>(nodeset_Next.j0 k a0 a1 (!t864))))
set_option maxHeartbeats 8000000 in
set_option maxRecDepth 100000 in
theorem nodeset_Next.calls (k:Nat) (a0:Int) (a1:Int) (r1:Int) (r2:Bool) (w:World) (h:nodeset_Next.f k a0 a1=some (r1,r2)) :
  Calls Try.prog 141 #[.int .i64 a0,.int .i64 a1] w fun e w'=>e=.returned (.tuple #[.int .i64 r1,.bool r2])∧Drawn0 w w':=by
 have H:(if a1 < 0 then (nodeset_Next.j0 k a0 a1 true) else (if a1 > 10 then (nodeset_Next.j0 k a0 a1 true) else ((nodeset_below.f a0 a1).bind fun t864=>(nodeset_Next.j0 k a0 a1 (!t864)))))=some (r1,r2):=h
 clear h
 have HC3:=Z H
 clear H
 go_enter Try.func141,Try.ntmps141
 go_upto_region 1 with (fail)
 go_cut [19] (fun v19 wc=>∃ (kq:Nat) (x19_2:Bool),v19=.bool x19_2∧Aside0 (nodeset_Next.j0 kq a0 a1 x19_2=some (r1,r2))∧Aside0 (kq≤k)∧Drawn0 w wc)
 case first =>
  have H:=HC3.out
  clear HC3
  by_cases c4:a1 < 0
  ·rw [if_pos c4] at H
   have c4b0:decide (a1 < 0)=true:=decide_eq_true c4
   clear c4
   (first|rw [c4b0]|(simp only [i64_w,i32_w];rw [c4b0])|skip)
   have H':=Z H
   clear H
   go_wp2
   go_meet
   case rel=>exact ⟨_,(true),pE,H',⟨by first|omega|exact Nat.le_refl _⟩,by repeat (first|exact Drawn0.refl _|apply Drawn0.step)⟩
  ·rw [if_neg c4] at H
   have c4b0:decide (a1 < 0)=false:=decide_eq_false c4
   clear c4
   (first|rw [c4b0]|(simp only [i64_w,i32_w];rw [c4b0])|skip)
   by_cases c5:a1 > 10
   ·rw [if_pos c5] at H
    have c5b0:decide (10 < a1)=true:=decide_eq_true c5
    clear c5
    have H':=Z H
    clear H
    go_wp2
    go_meet
    case rel=>exact ⟨_,(true),pE,H',⟨by first|omega|exact Nat.le_refl _⟩,by repeat (first|exact Drawn0.refl _|apply Drawn0.step)⟩
   ·rw [if_neg c5] at H
    have c5b0:decide (10 < a1)=false:=decide_eq_false c5
    clear c5
    replace H:=Option.bind_eq_some_iff.mp H
    obtain ⟨t864,A60,H⟩:=H
    try dsimp only at H
    have A6:=Z A60
    clear A60
    have H':=Z H
    clear H
    go_wp2_with (first|(go_at_call 91;(with_reducible refine (nodeset_below.calls a0 a1 t864 _ A6.out).mono ?_);rintro e w' ⟨rfl,⟨nd,rfl⟩⟩))
    go_meet
    case rel=>exact ⟨_,(!t864),pE,H',⟨by first|omega|exact Nat.le_refl _⟩,by repeat (first|exact Drawn0.refl _|apply Drawn0.step)⟩
 case rest =>
  clear HC3
  try clear c1
  try clear p2
  try clear c4
  try clear c4b0
  try clear c5
  try clear c5b0
  obtain ⟨kq,x19_2,rfl,HA,HJ2,⟨mc2,rfl⟩⟩:=hcut
  cases kq with
  | zero=>exact absurd HA.out (by simp [nodeset_Next.j0])
  | succ kj2 =>
   have H:=HA.out
   clear HA
   simp only [nodeset_Next.j0] at H
   by_cases c7:x19_2=true
   ·subst c7
    rw [if_pos rfl] at H
    simp only [Option.some.injEq,Prod.mk.injEq] at H
    obtain ⟨rfl,rfl⟩:=H
    go_wp2
    go_ret2
    exact ⟨by first|rfl|(simp;done)|(simp [*];done),by repeat (first|exact Drawn0.refl _|apply Drawn0.step)⟩
   ·replace c7:=Bool.eq_false_iff.mpr c7
    subst c7
    rw [if_neg (show ¬ (false=true) by decide)] at H
    replace H:=Option.bind_eq_some_iff.mp H
    obtain ⟨t865,A80,H⟩:=H
    try dsimp only at H
    have A8:=Z A80
    clear A80
    have H':=Z H
    clear H
    go_wp2_with (first|((with_reducible refine gate_callee (f:=108) rfl ?_);refine goesL_ (some 21) rfl rfl Try.func108 (by kernel_rfl) rfl #[.int .i64 a0] rfl pG ?_;(with_reducible refine (nodeset_Size.calls a0 t865 _ A8.out).mono ?_);rintro e w' ⟨rfl,⟨nd,rfl⟩⟩;refine ⟨_,rfl,?_⟩))
    go_loopg [7] kj2 (fun kq v7 w'=>∃ (x7_2:Int),v7=.int .i64 x7_2∧Aside0 (nodeset_Next.l0 kq a1 t865 x7_2=some (r1,r2))∧Aside0 (kq≤kj2)∧Drawn0 w w')
    case atStart=>exact ⟨(wrap64 (a0+1)),pE,H',⟨Nat.le_refl _⟩,by repeat (first|exact Drawn0.refl _|apply Drawn0.step)⟩
    case round =>
     clear H'
     try clear c1
     try clear c2
     try clear p2
     try clear c4
     try clear c4b0
     try clear c5
     try clear c5b0
     try clear p6
     try clear c7
     obtain ⟨x7_2,rfl,HA,HK2,⟨m2,rfl⟩⟩:=hrel
     cases gk with
     | zero=>exact absurd HA.out (by simp [nodeset_Next.l0])
     | succ k2 =>
      have H:=HA.out
      clear HA
      simp only [nodeset_Next.l0] at H
      replace H:=Option.bind_eq_some_iff.mp H
      obtain ⟨t866,A90,H⟩:=H
      try dsimp only at H
      have A9:=Z A90
      clear A90
      by_cases c10:t866=true
      ·subst c10
       rw [if_pos rfl] at H
       replace H:=Option.bind_eq_some_iff.mp H
       obtain ⟨t867,A110,H⟩:=H
       try dsimp only at H
       have A11:=Z A110
       clear A110
       by_cases c12:t867=t865
       ·rw [if_pos c12] at H
        have c12b0:(t867 == t865)=true:=beq_iff_eq.mpr c12
        have c12b1:(t867 != t865)=false:=bne_eq_false_iff_eq.mpr c12
        clear c12
        simp only [Option.some.injEq,Prod.mk.injEq] at H
        obtain ⟨rfl,rfl⟩:=H
        go_wp2_with (first|((with_reducible refine gate_callee (f:=91) rfl ?_);refine goesL_ (some 26) rfl rfl Try.func91 (by kernel_rfl) rfl #[.int .i64 x7_2,.int .i64 a1] rfl pG ?_;(with_reducible refine (nodeset_below.calls x7_2 a1 true _ A9.out).mono ?_);rintro e w' ⟨rfl,⟨nd,rfl⟩⟩;refine ⟨_,rfl,?_⟩)|((with_reducible refine gate_callee (f:=108) rfl ?_);refine goesL_ (some 30) rfl rfl Try.func108 (by kernel_rfl) rfl #[.int .i64 x7_2] rfl pG ?_;(with_reducible refine (nodeset_Size.calls x7_2 t867 _ A11.out).mono ?_);rintro e w' ⟨rfl,⟨nd,rfl⟩⟩;refine ⟨_,rfl,?_⟩))
        go_ret2
        exact ⟨by first|rfl|(simp;done)|(simp [*];done),by repeat (first|exact Drawn0.refl _|apply Drawn0.step)⟩
       ·rw [if_neg c12] at H
        have c12b0:(t867 == t865)=false:=beq_eq_false_iff_ne.mpr c12
        have c12b1:(t867 != t865)=true:=bne_iff_ne.mpr c12
        have H':=Z H
        clear H
        go_wp2_with (first|((with_reducible refine gate_callee (f:=91) rfl ?_);refine goesL_ (some 26) rfl rfl Try.func91 (by kernel_rfl) rfl #[.int .i64 x7_2,.int .i64 a1] rfl pG ?_;(with_reducible refine (nodeset_below.calls x7_2 a1 true _ A9.out).mono ?_);rintro e w' ⟨rfl,⟨nd,rfl⟩⟩;refine ⟨_,rfl,?_⟩)|((with_reducible refine gate_callee (f:=108) rfl ?_);refine goesL_ (some 30) rfl rfl Try.func108 (by kernel_rfl) rfl #[.int .i64 x7_2] rfl pG ?_;(with_reducible refine (nodeset_Size.calls x7_2 t867 _ A11.out).mono ?_);rintro e w' ⟨rfl,⟨nd,rfl⟩⟩;refine ⟨_,rfl,?_⟩))
        go_roundg k2
        case measure=>have:=HJ2.out;have:=HK2.out;omega
        case rel=>exact ⟨(wrap64 (x7_2+1)),pE,H',⟨by have:=HJ2.out;have:=HK2.out;omega⟩,by repeat (first|exact Drawn0.refl _|apply Drawn0.step)⟩
      ·replace c10:=Bool.eq_false_iff.mpr c10
       subst c10
       rw [if_neg (show ¬ (false=true) by decide)] at H
       by_cases c13:t865=a1
       ·rw [if_pos c13] at H
        have c13b0:(t865 == a1)=true:=beq_iff_eq.mpr c13
        have c13b1:(t865 != a1)=false:=bne_eq_false_iff_eq.mpr c13
        clear c13
        simp only [Option.some.injEq,Prod.mk.injEq] at H
        obtain ⟨rfl,rfl⟩:=H
        go_wp2_with (first|((with_reducible refine gate_callee (f:=91) rfl ?_);refine goesL_ (some 26) rfl rfl Try.func91 (by kernel_rfl) rfl #[.int .i64 x7_2,.int .i64 a1] rfl pG ?_;(with_reducible refine (nodeset_below.calls x7_2 a1 false _ A9.out).mono ?_);rintro e w' ⟨rfl,⟨nd,rfl⟩⟩;refine ⟨_,rfl,?_⟩))
        go_ret2
        exact ⟨by first|rfl|(simp;done)|(simp [*];done),by repeat (first|exact Drawn0.refl _|apply Drawn0.step)⟩
       ·rw [if_neg c13] at H
        have c13b0:(t865 == a1)=false:=beq_eq_false_iff_ne.mpr c13
        have c13b1:(t865 != a1)=true:=bne_iff_ne.mpr c13
        obtain ⟨ji14,hji14⟩:∃ j_:Int,(wrap64 (t865+1))=j_:=⟨_,rfl⟩
        replace H:(if 0≤(ji14) then (some (wrap64 ((shl .i64 1 (ji14)) - 1),true)) else (none))=some (r1,r2):=by first|(rw [hji14] at H;exact H)|(simp only [hji14] at H ⊢;exact H)
        (try rw [hji14] at A9)
        have hji14w:(IntKind.i64.wrap (t865+1))=ji14:=(i64_w _).trans hji14
        by_cases c15:0≤(ji14)
        ·rw [if_pos c15] at H
         have c15b0:=eq_true c15
         have c15b1:decide (0≤(ji14))=true:=decide_eq_true c15
         clear c15
         obtain ⟨ji16,hji16⟩:∃ j_:Int,(shl .i64 1 (ji14))=j_:=⟨_,rfl⟩
         replace H:(some (wrap64 ((ji16) - 1),true))=some (r1,r2):=by first|(rw [hji16] at H;exact H)|(simp only [hji16] at H ⊢;exact H)
         (try rw [hji16] at A9)
         have hji16_:(IntKind.i64.wrap (1 * 2 ^ min (ji14).toNat 64))=ji16:=hji16
         have hji16z:(ji14)≤64→(IntKind.i64.wrap (1 * 2 ^ (ji14).toNat))=ji16:=shl_small hji16
         have hji16u:(IntKind.i64.wrap (2 ^ min (ji14).toNat 64))=ji16:=by have h_:=hji16_;rw [Int.one_mul] at h_;exact h_
         have hji16v:(ji14)≤64→(IntKind.i64.wrap (2 ^ (ji14).toNat))=ji16:=fun hle_=>by have h_:=hji16z hle_;rw [Int.one_mul] at h_;exact h_
         have hji16y:(wrap64 (1 * 2 ^ min (ji14).toNat 64))=ji16:=(i64_w _).symm.trans hji16_
         have hji16x:(ji14)≤64→(wrap64 (1 * 2 ^ (ji14).toNat))=ji16:=fun h_=>(i64_w _).symm.trans (hji16z h_)
         simp only [Option.some.injEq,Prod.mk.injEq] at H
         obtain ⟨rfl,rfl⟩:=H
         go_wp2_with (first|((with_reducible refine gate_callee (f:=91) rfl ?_);refine goesL_ (some 26) rfl rfl Try.func91 (by kernel_rfl) rfl #[.int .i64 x7_2,.int .i64 a1] rfl pG ?_;(with_reducible refine (nodeset_below.calls x7_2 a1 false _ A9.out).mono ?_);rintro e w' ⟨rfl,⟨nd,rfl⟩⟩;refine ⟨_,rfl,?_⟩))
         go_ret2
         exact ⟨by first|rfl|(simp;done)|(simp only [← hji14,← hji16] <;> (first|rfl|simp))|(simp [*];done),by repeat (first|exact Drawn0.refl _|apply Drawn0.step)⟩
        ·rw [if_neg c15] at H
         exact absurd H (by simp)
def intersection_members.f (l0_0:List (S34)):Option (Int):=some (wrap64 ((shl .i64 1 (l0_0.length:Int)) - 1))
set_option maxHeartbeats 8000000 in
set_option maxRecDepth 100000 in
theorem intersection_members.calls (A0_0:Option Addr) (c0_0:Nat) (l0_0:List (S34)) (r:Int) (w:World) (hr0_0:Kd.C k34 w A0_0 l0_0.length l0_0) (hc0_0:l0_0.length≤c0_0) (h:intersection_members.f l0_0=some r) :
  Calls Try.prog 142 #[.agg #[.slice A0_0 l0_0.length c0_0]] w fun e w'=>e=.returned (.int .i64 r)∧Below w.heap.size w w':=by
 have hu27:=Try.underlying27
 have HR0_0:=Z hr0_0
 have HC0_0:=Z hc0_0
 clear hr0_0 hc0_0
 have HB:=Z (Below.refl w.heap.size w)
 have H:(some (wrap64 ((shl .i64 1 (l0_0.length:Int)) - 1)))=some r:=h
 clear h
 obtain ⟨ji2,hji2⟩:∃ j_:Int,(shl .i64 1 (l0_0.length:Int))=j_:=⟨_,rfl⟩
 replace H:(some (wrap64 ((ji2) - 1)))=some r:=by first|(rw [hji2] at H;exact H)|(simp only [hji2] at H ⊢;exact H)
 have hji2_:(IntKind.i64.wrap (1 * 2 ^ min (l0_0.length:Int).toNat 64))=ji2:=hji2
 have hji2z:(l0_0.length:Int)≤64→(IntKind.i64.wrap (1 * 2 ^ (l0_0.length:Int).toNat))=ji2:=shl_small hji2
 have hji2p:(IntKind.i64.wrap (1 * 2 ^ min l0_0.length 64))=ji2:=hji2_
 have hji2q:(l0_0.length:Int)≤64→(IntKind.i64.wrap (1 * 2 ^ l0_0.length))=ji2:=hji2z
 have hji2r:(IntKind.i64.wrap (2 ^ min l0_0.length 64))=ji2:=by have h_:=hji2p;rw [Int.one_mul] at h_;exact h_
 have hji2s:(l0_0.length:Int)≤64→(IntKind.i64.wrap (2 ^ l0_0.length))=ji2:=fun hle_=>by have h_:=hji2q hle_;rw [Int.one_mul] at h_;exact h_
 have hji2u:(IntKind.i64.wrap (2 ^ min (l0_0.length:Int).toNat 64))=ji2:=by have h_:=hji2_;rw [Int.one_mul] at h_;exact h_
 have hji2v:(l0_0.length:Int)≤64→(IntKind.i64.wrap (2 ^ (l0_0.length:Int).toNat))=ji2:=fun hle_=>by have h_:=hji2z hle_;rw [Int.one_mul] at h_;exact h_
 have hji2y:(wrap64 (1 * 2 ^ min (l0_0.length:Int).toNat 64))=ji2:=(i64_w _).symm.trans hji2_
 have hji2x:(l0_0.length:Int)≤64→(wrap64 (1 * 2 ^ (l0_0.length:Int).toNat))=ji2:=fun h_=>(i64_w _).symm.trans (hji2z h_)
 obtain rfl:=Option.some.inj H
 go_enter Try.func142,Try.ntmps142
 go_wp2_with (first|((with_reducible refine gate_dst (N:=1) rfl ?_);refine box_event ?hg (N:=1) ?hd (cs:=#[.slice A0_0 l0_0.length c0_0]) (t:=27) ?hr ?_;(case hd=>rfl);(case hg=>rfl);(case hr=>first|(go_simp;done)|(go_simp;rfl));intro gb868 hg w3 hbox hb;have n0_:=Z (below_step pB hb);have n1_:=Z (hbox);have n2_:=Z ((pT hg:w.heap.size≤gb868));have n3_:=Z ((pT hg:w.heap.size≤gb868));clear HB;have HB:=n0_;have BK868:=n1_;have GW868:=n2_;have GE868:=n3_;clear n0_ n1_ n2_ n3_;clear hb hbox hg;have hcz4_0:w3.cell? ⟨gb868,0,none⟩=some (.slice A0_0 l0_0.length c0_0):=(kC BK868.out 0).trans rfl;have hfz4_0:=kF BK868.out 0))
 go_ret
 exact ⟨by first|rfl|(simp [errW_none,errW_some] <;> rfl)|(simp only [← hji2];first|rfl|(simp [errW_none,errW_some] <;> rfl))|(simp [*,errW_none,errW_some] <;> rfl),pB⟩
def intersection_find.l0:Nat→Int→Int→Bool→List (S34)→Option (Int × Int)
 | 0,_,_,_,_=>none
 | k+1,x4,x5,x6,x870000=>if x6=true then ((closure_Quorum.f k x870000 x5).bind fun t870=>(if t870=true then ((intersection_members.f x870000).bind fun t873=>((closure_Greatest.f k x870000 (Go.bits .andNot .i64 t873 x5)).bind fun t874=>(if t874=0 then ((nodeset_Next.f k x5 x4).bind fun bt875=>(intersection_find.l0 k x4 bt875.1 bt875.2 x870000)) else (some (x5,t874))))) else ((nodeset_Next.f k x5 x4).bind fun bt871=>(intersection_find.l0 k x4 bt871.1 bt871.2 x870000)))) else (some (0,0))
def intersection_find.f (k:Nat) (l0_0:List (S34)):Option (Int × Int):=intersection_find.l0 k (l0_0.length:Int) 0 true l0_0
set_option maxHeartbeats 8000000 in
set_option maxRecDepth 100000 in
theorem intersection_find.calls (k:Nat) (A0_0:Option Addr) (c0_0:Nat) (l0_0:List (S34)) (r1:Int) (r2:Int) (w:World) (hr0_0:Kd.C k34 w A0_0 l0_0.length l0_0) (hc0_0:l0_0.length≤c0_0) (h:intersection_find.f k l0_0=some (r1,r2)) :
  Calls Try.prog 121 #[.agg #[.slice A0_0 l0_0.length c0_0]] w fun e w'=>e=.returned (.tuple #[.int .i64 r1,.int .i64 r2])∧Below w.heap.size w w':=by
 have hu27:=Try.underlying27
 have HR0_0:=Z hr0_0
 have HC0_0:=Z hc0_0
 clear hr0_0 hc0_0
 have HB:=Z (Below.refl w.heap.size w)
 have H:(intersection_find.l0 k (l0_0.length:Int) 0 true l0_0)=some (r1,r2):=h
 clear h
 have H':=Z H
 clear H
 go_enter Try.func121,Try.ntmps121
 go_wp2_with (first|((with_reducible refine gate_dst (N:=1) rfl ?_);refine box_event ?hg (N:=1) ?hd (cs:=#[.slice A0_0 l0_0.length c0_0]) (t:=27) ?hr ?_;(case hd=>rfl);(case hg=>rfl);(case hr=>first|(go_simp;done)|(go_simp;rfl));intro gb869 hg w2 hbox hb;have n0_:=Z (below_step pB hb);have n1_:=Z (hbox);have n2_:=Z ((pT hg:w.heap.size≤gb869));have n3_:=Z ((pT hg:w.heap.size≤gb869));clear HB;have HB:=n0_;have BK869:=n1_;have GW869:=n2_;have GE869:=n3_;clear n0_ n1_ n2_ n3_;clear hb hbox hg;have hcz3_0:w2.cell? ⟨gb869,0,none⟩=some (.slice A0_0 l0_0.length c0_0):=(kC BK869.out 0).trans rfl;have hfz3_0:=kF BK869.out 0))
 go_loopg [5,6] k (fun kq v5 v6 w'=>∃ (x5_1:Int) (x6_1:Bool),v5=.int .i64 x5_1∧v6=.bool x6_1∧Aside0 (intersection_find.l0 kq (l0_0.length:Int) x5_1 x6_1 l0_0=some (r1,r2))∧Aside0 (kq≤k)∧Aside0 (w'.heap[gb869]?=some (.cells #[(.slice A0_0 l0_0.length c0_0)] 27 (0,0)))∧Aside0 (Below w.heap.size w w'))
 case atStart=>exact ⟨(0),(true),pE,pE,H',⟨Nat.le_refl _⟩,⟨pK BK869⟩,⟨pB⟩⟩
 case round =>
  clear H'
  try clear c1
  try clear p2
  try clear hcz3_0
  try clear hfz3_0
  obtain ⟨x5_1,x6_1,rfl,rfl,HA,HK1,BK869,HB⟩:=hrel
  cases gk with
  | zero=>exact absurd HA.out (by simp [intersection_find.l0])
  | succ k1 =>
   have H:=HA.out
   clear HA
   simp only [intersection_find.l0] at H
   by_cases c4:x6_1=true
   ·subst c4
    rw [if_pos rfl] at H
    replace H:=Option.bind_eq_some_iff.mp H
    obtain ⟨t870,A50,H⟩:=H
    try dsimp only at H
    have A5:=Z A50
    clear A50
    by_cases c6:t870=true
    ·subst c6
     rw [if_pos rfl] at H
     replace H:=Option.bind_eq_some_iff.mp H
     obtain ⟨t873,A70,H⟩:=H
     try dsimp only at H
     have A7:=Z A70
     clear A70
     replace H:=Option.bind_eq_some_iff.mp H
     obtain ⟨t874,A80,H⟩:=H
     try dsimp only at H
     have A8:=Z A80
     clear A80
     by_cases c9:t874=0
     ·rw [if_pos c9] at H
      have c9b0:(t874 == 0)=true:=beq_iff_eq.mpr c9
      have c9b1:(t874 != 0)=false:=bne_eq_false_iff_eq.mpr c9
      clear c9
      replace H:=Option.bind_eq_some_iff.mp H
      obtain ⟨⟨t875,t876⟩,A100,H⟩:=H
      try dsimp only at H
      have A10:=Z A100
      clear A100
      have H':=Z H
      clear H
      have hcz11_0:wr.cell? ⟨gb869,0,none⟩=some (.slice A0_0 l0_0.length c0_0):=(kC BK869.out 0).trans rfl
      have hfz11_0:=kF BK869.out 0
      try go_wp2_with (first|((with_reducible refine gate_callee (f:=103) rfl ?_);refine goesL_ (some 20) rfl rfl Try.func103 (by kernel_rfl) rfl #[.agg #[.slice A0_0 l0_0.length c0_0],.int .i64 x5_1] rfl pG ?_;(with_reducible refine (closure_Quorum.calls k1 _ _ l0_0 x5_1 true _ ?side1 ?side2 A5.out).mono ?_);(case side1=>repeat (first|exact (Kd.C_below HR0_0.out HB.out)|(with_reducible refine Kd.C_alloc ?_ _)|(with_reducible refine Kd.C_drewN ?_ _)|(with_reducible refine Kd.C_drew ?_)));(case side2=>exact HC0_0.out);rintro e w12 ⟨rfl,hb⟩;refine ⟨_,rfl,?_⟩;have n0_:=Z (blk_below (g:=gb869) (o:=.cells #[.slice A0_0 l0_0.length c0_0] 27 (0,0)) (pK BK869) hb);have n1_:=Z (below_step pB hb);clear BK869;clear HB;have BK869:=n0_;have HB:=n1_;clear n0_ n1_;(try clear hb);(try clear hb2);(try clear hk);(try clear hi)))
      have n0_:=Z (kD BK869.out)
      have n1_:=Z (wD HB.out)
      clear BK869
      clear HB
      have BK869:=n0_
      have HB:=n1_
      clear n0_ n1_
      refine start_ (n:=7) (S:=fun w'=>w'.cell? ⟨gb869,0,none⟩=some (.slice A0_0 l0_0.length c0_0)) (ds:=[]) #[false,false,false,false,false,false,false] (by kernel_rfl) rfl rfl ((kC BK869.out 0).trans rfl) (fun hHeld=>?_)
      generalize w12.drew=w13 at BK869 HB hHeld ⊢
      refine pure_ (i:=3) (N:=some 25) (v:=?_) (a':=?_) #[false,false,false,true,false,false,false] rfl rfl (by kernel_rfl) (fun _ _ _ h=>h) (Or.inl ⟨by rfl,?_⟩) ?_ ?_
      rotate_left
      ·intro w'
       go_simp
       with_reducible rfl
      rotate_left
      ·simp only [Act.put,List.setIfInBounds_toArray,List.set_cons_zero,List.set_cons_succ,i64_w,i32_w]
       rfl
      refine take_ (i:=0) (N:=some 22) (v:=?_) (a':=?_) #[true,false,false,true,false,false,false] rfl rfl (by kernel_rfl) (fun _ _ _ h=>h) (Or.inl ⟨by rfl,?_⟩) hHeld ?_ ?_
      rotate_left
      ·intro w' s0
       go_simp
       with_reducible rfl
      rotate_left
      ·simp only [Act.put,List.setIfInBounds_toArray,List.set_cons_zero,List.set_cons_succ,i64_w,i32_w]
       rfl
      refine take_ (i:=1) (N:=some 23) (v:=?_) (a':=?_) #[true,true,false,true,false,false,false] rfl rfl (by kernel_rfl) (fun _ _ _ h=>h) (Or.inl ⟨by rfl,?_⟩) hHeld ?_ ?_
      rotate_left
      ·intro w' s0
       go_simp
       with_reducible rfl
      rotate_left
      ·simp only [Act.put,List.setIfInBounds_toArray,List.set_cons_zero,List.set_cons_succ,i64_w,i32_w]
       rfl
      refine one_ (i:=2) (N:=some 24) #[true,true,true,true,false,false,false] rfl rfl (by kernel_rfl) (by decide) (fun K hK=>?_)
      refine goes_ Try.func142 (by kernel_rfl) rfl #[.agg #[.slice A0_0 l0_0.length c0_0]] (by rfl) rfl rfl pG ?_
      with_reducible refine (intersection_members.calls _ _ l0_0 t873 _ ?side1 ?side2 A7.out).mono ?_
      (case side1=>repeat (first|exact (Kd.C_below HR0_0.out HB.out)|(with_reducible refine Kd.C_alloc ?_ _)|(with_reducible refine Kd.C_drewN ?_ _)|(with_reducible refine Kd.C_drew ?_)))
      (case side2=>exact HC0_0.out)
      rintro e w14 ⟨rfl,hb⟩
      refine ⟨_,rfl,?_⟩
      have n0_:=Z (blk_below (g:=gb869) (o:=.cells #[.slice A0_0 l0_0.length c0_0] 27 (0,0)) (pK BK869) hb)
      have n1_:=Z (below_step pB hb)
      clear BK869
      clear HB
      have BK869:=n0_
      have HB:=n1_
      clear n0_ n1_
      (try clear hb)
      (try clear hb2)
      (try clear hk)
      (try clear hi)
      refine hK.out _ _ ((kC BK869.out 0).trans rfl) (fun hHeld=>?_)
      clear hK K
      refine norm_ (a':=?_) ?_ ?_
      rotate_left
      ·show Act.put _ (some 24) _=_
       simp only [Act.put,List.setIfInBounds_toArray,List.set_cons_zero,List.set_cons_succ,i64_w,i32_w]
       rfl
      refine pure_ (i:=4) (N:=some 26) (v:=?_) (a':=?_) #[true,true,true,true,true,false,false] rfl rfl (by kernel_rfl) (fun _ _ _ h=>h) (Or.inl ⟨by rfl,?_⟩) ?_ ?_
      rotate_left
      ·intro w'
       go_simp
       with_reducible rfl
      rotate_left
      ·simp only [Act.put,List.setIfInBounds_toArray,List.set_cons_zero,List.set_cons_succ,i64_w,i32_w]
       rfl
      refine one_ (i:=5) (N:=some 27) #[true,true,true,true,true,true,false] rfl rfl (by kernel_rfl) (by decide) (fun K hK=>?_)
      refine goes_ Try.func107 (by kernel_rfl) rfl #[.agg #[.slice A0_0 l0_0.length c0_0],.int .i64 (Go.bits .andNot .i64 t873 x5_1)] (by rfl) rfl rfl pG ?_
      with_reducible refine (closure_Greatest.calls k1 _ _ l0_0 (Go.bits .andNot .i64 t873 x5_1) t874 _ ?side1 ?side2 A8.out).mono ?_
      (case side1=>repeat (first|exact (Kd.C_below HR0_0.out HB.out)|(with_reducible refine Kd.C_alloc ?_ _)|(with_reducible refine Kd.C_drewN ?_ _)|(with_reducible refine Kd.C_drew ?_)))
      (case side2=>exact HC0_0.out)
      rintro e w15 ⟨rfl,hb⟩
      refine ⟨_,rfl,?_⟩
      have n0_:=Z (blk_below (g:=gb869) (o:=.cells #[.slice A0_0 l0_0.length c0_0] 27 (0,0)) (pK BK869) hb)
      have n1_:=Z (below_step pB hb)
      clear BK869
      clear HB
      have BK869:=n0_
      have HB:=n1_
      clear n0_ n1_
      (try clear hb)
      (try clear hb2)
      (try clear hk)
      (try clear hi)
      refine hK.out _ _ ((kC BK869.out 0).trans rfl) (fun hHeld=>?_)
      clear hK K
      refine norm_ (a':=?_) ?_ ?_
      rotate_left
      ·show Act.put _ (some 27) _=_
       simp only [Act.put,List.setIfInBounds_toArray,List.set_cons_zero,List.set_cons_succ,i64_w,i32_w]
       rfl
      refine pure_ (i:=6) (N:=some 7) (v:=?_) (a':=?_) #[true,true,true,true,true,true,true] rfl rfl (by kernel_rfl) (fun _ _ _ h=>h) (Or.inl ⟨by rfl,?_⟩) ?_ ?_
      rotate_left
      ·intro w'
       go_simp
       with_reducible rfl
      rotate_left
      ·simp only [Act.put,List.setIfInBounds_toArray,List.set_cons_zero,List.set_cons_succ,i64_w,i32_w]
       rfl
      refine done_ (by kernel_rfl) ?_
      try go_wp2_with (first|((with_reducible refine gate_callee (f:=141) rfl ?_);refine goesL_ (some 15) rfl rfl Try.func141 (by kernel_rfl) rfl #[.int .i64 x5_1,.int .i64 (l0_0.length:Int)] rfl pG ?_;(with_reducible refine (nodeset_Next.calls k1 x5_1 (l0_0.length:Int) t875 t876 _ A10.out).mono ?_);rintro e w' ⟨rfl,⟨nd,rfl⟩⟩;refine ⟨_,rfl,?_⟩))
      go_roundg k1
      case measure=>have:=HK1.out;omega
      case rel=>exact ⟨(t875),(t876),pE,pE,H',⟨by have:=HK1.out;omega⟩,⟨pK BK869⟩,⟨pB⟩⟩
     ·rw [if_neg c9] at H
      have c9b0:(t874 == 0)=false:=beq_eq_false_iff_ne.mpr c9
      have c9b1:(t874 != 0)=true:=bne_iff_ne.mpr c9
      simp only [Option.some.injEq,Prod.mk.injEq] at H
      obtain ⟨rfl,rfl⟩:=H
      have hcz16_0:wr.cell? ⟨gb869,0,none⟩=some (.slice A0_0 l0_0.length c0_0):=(kC BK869.out 0).trans rfl
      have hfz16_0:=kF BK869.out 0
      try go_wp2_with (first|((with_reducible refine gate_callee (f:=103) rfl ?_);refine goesL_ (some 20) rfl rfl Try.func103 (by kernel_rfl) rfl #[.agg #[.slice A0_0 l0_0.length c0_0],.int .i64 x5_1] rfl pG ?_;(with_reducible refine (closure_Quorum.calls k1 _ _ l0_0 x5_1 true _ ?side1 ?side2 A5.out).mono ?_);(case side1=>repeat (first|exact (Kd.C_below HR0_0.out HB.out)|(with_reducible refine Kd.C_alloc ?_ _)|(with_reducible refine Kd.C_drewN ?_ _)|(with_reducible refine Kd.C_drew ?_)));(case side2=>exact HC0_0.out);rintro e w17 ⟨rfl,hb⟩;refine ⟨_,rfl,?_⟩;have n0_:=Z (blk_below (g:=gb869) (o:=.cells #[.slice A0_0 l0_0.length c0_0] 27 (0,0)) (pK BK869) hb);have n1_:=Z (below_step pB hb);clear BK869;clear HB;have BK869:=n0_;have HB:=n1_;clear n0_ n1_;(try clear hb);(try clear hb2);(try clear hk);(try clear hi)))
      have n0_:=Z (kD BK869.out)
      have n1_:=Z (wD HB.out)
      clear BK869
      clear HB
      have BK869:=n0_
      have HB:=n1_
      clear n0_ n1_
      refine start_ (n:=7) (S:=fun w'=>w'.cell? ⟨gb869,0,none⟩=some (.slice A0_0 l0_0.length c0_0)) (ds:=[]) #[false,false,false,false,false,false,false] (by kernel_rfl) rfl rfl ((kC BK869.out 0).trans rfl) (fun hHeld=>?_)
      generalize w17.drew=w18 at BK869 HB hHeld ⊢
      refine pure_ (i:=3) (N:=some 25) (v:=?_) (a':=?_) #[false,false,false,true,false,false,false] rfl rfl (by kernel_rfl) (fun _ _ _ h=>h) (Or.inl ⟨by rfl,?_⟩) ?_ ?_
      rotate_left
      ·intro w'
       go_simp
       with_reducible rfl
      rotate_left
      ·simp only [Act.put,List.setIfInBounds_toArray,List.set_cons_zero,List.set_cons_succ,i64_w,i32_w]
       rfl
      refine take_ (i:=0) (N:=some 22) (v:=?_) (a':=?_) #[true,false,false,true,false,false,false] rfl rfl (by kernel_rfl) (fun _ _ _ h=>h) (Or.inl ⟨by rfl,?_⟩) hHeld ?_ ?_
      rotate_left
      ·intro w' s0
       go_simp
       with_reducible rfl
      rotate_left
      ·simp only [Act.put,List.setIfInBounds_toArray,List.set_cons_zero,List.set_cons_succ,i64_w,i32_w]
       rfl
      refine take_ (i:=1) (N:=some 23) (v:=?_) (a':=?_) #[true,true,false,true,false,false,false] rfl rfl (by kernel_rfl) (fun _ _ _ h=>h) (Or.inl ⟨by rfl,?_⟩) hHeld ?_ ?_
      rotate_left
      ·intro w' s0
       go_simp
       with_reducible rfl
      rotate_left
      ·simp only [Act.put,List.setIfInBounds_toArray,List.set_cons_zero,List.set_cons_succ,i64_w,i32_w]
       rfl
      refine one_ (i:=2) (N:=some 24) #[true,true,true,true,false,false,false] rfl rfl (by kernel_rfl) (by decide) (fun K hK=>?_)
      refine goes_ Try.func142 (by kernel_rfl) rfl #[.agg #[.slice A0_0 l0_0.length c0_0]] (by rfl) rfl rfl pG ?_
      with_reducible refine (intersection_members.calls _ _ l0_0 t873 _ ?side1 ?side2 A7.out).mono ?_
      (case side1=>repeat (first|exact (Kd.C_below HR0_0.out HB.out)|(with_reducible refine Kd.C_alloc ?_ _)|(with_reducible refine Kd.C_drewN ?_ _)|(with_reducible refine Kd.C_drew ?_)))
      (case side2=>exact HC0_0.out)
      rintro e w19 ⟨rfl,hb⟩
      refine ⟨_,rfl,?_⟩
      have n0_:=Z (blk_below (g:=gb869) (o:=.cells #[.slice A0_0 l0_0.length c0_0] 27 (0,0)) (pK BK869) hb)
      have n1_:=Z (below_step pB hb)
      clear BK869
      clear HB
      have BK869:=n0_
      have HB:=n1_
      clear n0_ n1_
      (try clear hb)
      (try clear hb2)
      (try clear hk)
      (try clear hi)
      refine hK.out _ _ ((kC BK869.out 0).trans rfl) (fun hHeld=>?_)
      clear hK K
      refine norm_ (a':=?_) ?_ ?_
      rotate_left
      ·show Act.put _ (some 24) _=_
       simp only [Act.put,List.setIfInBounds_toArray,List.set_cons_zero,List.set_cons_succ,i64_w,i32_w]
       rfl
      refine pure_ (i:=4) (N:=some 26) (v:=?_) (a':=?_) #[true,true,true,true,true,false,false] rfl rfl (by kernel_rfl) (fun _ _ _ h=>h) (Or.inl ⟨by rfl,?_⟩) ?_ ?_
      rotate_left
      ·intro w'
       go_simp
       with_reducible rfl
      rotate_left
      ·simp only [Act.put,List.setIfInBounds_toArray,List.set_cons_zero,List.set_cons_succ,i64_w,i32_w]
       rfl
      refine one_ (i:=5) (N:=some 27) #[true,true,true,true,true,true,false] rfl rfl (by kernel_rfl) (by decide) (fun K hK=>?_)
      refine goes_ Try.func107 (by kernel_rfl) rfl #[.agg #[.slice A0_0 l0_0.length c0_0],.int .i64 (Go.bits .andNot .i64 t873 x5_1)] (by rfl) rfl rfl pG ?_
      with_reducible refine (closure_Greatest.calls k1 _ _ l0_0 (Go.bits .andNot .i64 t873 x5_1) t874 _ ?side1 ?side2 A8.out).mono ?_
      (case side1=>repeat (first|exact (Kd.C_below HR0_0.out HB.out)|(with_reducible refine Kd.C_alloc ?_ _)|(with_reducible refine Kd.C_drewN ?_ _)|(with_reducible refine Kd.C_drew ?_)))
      (case side2=>exact HC0_0.out)
      rintro e w20 ⟨rfl,hb⟩
      refine ⟨_,rfl,?_⟩
      have n0_:=Z (blk_below (g:=gb869) (o:=.cells #[.slice A0_0 l0_0.length c0_0] 27 (0,0)) (pK BK869) hb)
      have n1_:=Z (below_step pB hb)
      clear BK869
      clear HB
      have BK869:=n0_
      have HB:=n1_
      clear n0_ n1_
      (try clear hb)
      (try clear hb2)
      (try clear hk)
      (try clear hi)
      refine hK.out _ _ ((kC BK869.out 0).trans rfl) (fun hHeld=>?_)
      clear hK K
      refine norm_ (a':=?_) ?_ ?_
      rotate_left
      ·show Act.put _ (some 27) _=_
       simp only [Act.put,List.setIfInBounds_toArray,List.set_cons_zero,List.set_cons_succ,i64_w,i32_w]
       rfl
      refine pure_ (i:=6) (N:=some 7) (v:=?_) (a':=?_) #[true,true,true,true,true,true,true] rfl rfl (by kernel_rfl) (fun _ _ _ h=>h) (Or.inl ⟨by rfl,?_⟩) ?_ ?_
      rotate_left
      ·intro w'
       go_simp
       with_reducible rfl
      rotate_left
      ·simp only [Act.put,List.setIfInBounds_toArray,List.set_cons_zero,List.set_cons_succ,i64_w,i32_w]
       rfl
      refine done_ (by kernel_rfl) ?_
      try go_wp2
      go_ret2
      exact ⟨pF,pB⟩
    ·replace c6:=Bool.eq_false_iff.mpr c6
     subst c6
     rw [if_neg (show ¬ (false=true) by decide)] at H
     replace H:=Option.bind_eq_some_iff.mp H
     obtain ⟨⟨t871,t872⟩,A210,H⟩:=H
     try dsimp only at H
     have A21:=Z A210
     clear A210
     have H':=Z H
     clear H
     have hcz22_0:wr.cell? ⟨gb869,0,none⟩=some (.slice A0_0 l0_0.length c0_0):=(kC BK869.out 0).trans rfl
     have hfz22_0:=kF BK869.out 0
     go_wp2_with (first|((with_reducible refine gate_callee (f:=103) rfl ?_);refine goesL_ (some 20) rfl rfl Try.func103 (by kernel_rfl) rfl #[.agg #[.slice A0_0 l0_0.length c0_0],.int .i64 x5_1] rfl pG ?_;(with_reducible refine (closure_Quorum.calls k1 _ _ l0_0 x5_1 false _ ?side1 ?side2 A5.out).mono ?_);(case side1=>repeat (first|exact (Kd.C_below HR0_0.out HB.out)|(with_reducible refine Kd.C_alloc ?_ _)|(with_reducible refine Kd.C_drewN ?_ _)|(with_reducible refine Kd.C_drew ?_)));(case side2=>exact HC0_0.out);rintro e w23 ⟨rfl,hb⟩;refine ⟨_,rfl,?_⟩;have n0_:=Z (blk_below (g:=gb869) (o:=.cells #[.slice A0_0 l0_0.length c0_0] 27 (0,0)) (pK BK869) hb);have n1_:=Z (below_step pB hb);clear BK869;clear HB;have BK869:=n0_;have HB:=n1_;clear n0_ n1_;(try clear hb);(try clear hb2);(try clear hk);(try clear hi))|((with_reducible refine gate_callee (f:=141) rfl ?_);refine goesL_ (some 15) rfl rfl Try.func141 (by kernel_rfl) rfl #[.int .i64 x5_1,.int .i64 (l0_0.length:Int)] rfl pG ?_;(with_reducible refine (nodeset_Next.calls k1 x5_1 (l0_0.length:Int) t871 t872 _ A21.out).mono ?_);rintro e w' ⟨rfl,⟨nd,rfl⟩⟩;refine ⟨_,rfl,?_⟩))
     go_roundg k1
     case measure=>have:=HK1.out;omega
     case rel=>exact ⟨(t871),(t872),pE,pE,H',⟨by have:=HK1.out;omega⟩,⟨pK BK869⟩,⟨pB⟩⟩
   ·replace c4:=Bool.eq_false_iff.mpr c4
    subst c4
    rw [if_neg (show ¬ (false=true) by decide)] at H
    simp only [Option.some.injEq,Prod.mk.injEq] at H
    obtain ⟨rfl,rfl⟩:=H
    go_wp2
    go_ret2
    exact ⟨pF,pB⟩
def deletion_lowered.f (a0:Int) (a1:Int):Option (Int):=some (wrap64 ((mx a0 a1) - a1))
set_option maxHeartbeats 8000000 in
set_option maxRecDepth 100000 in
theorem deletion_lowered.calls (a0:Int) (a1:Int) (r:Int) (w:World) (h:deletion_lowered.f a0 a1=some r) :
  Calls Try.prog 153 #[.int .i64 a0,.int .i64 a1] w fun e w'=>e=.returned (.int .i64 r)∧Below w.heap.size w w':=by
 have HB:=Z (Below.refl w.heap.size w)
 have H:(some (wrap64 ((mx a0 a1) - a1)))=some r:=h
 clear h
 obtain ⟨ji3,hji3⟩:∃ j_:Int,(mx a0 a1)=j_:=⟨_,rfl⟩
 replace H:(some (wrap64 ((ji3) - a1)))=some r:=by first|(rw [hji3] at H;exact H)|(simp only [hji3] at H ⊢;exact H)
 have hji3_:(if a0 < a1 then a1 else a0)=ji3:=hji3
 obtain rfl:=Option.some.inj H
 go_enter Try.func153,Try.ntmps153
 go_wp2
 go_ret
 exact ⟨by first|rfl|(simp [errW_none,errW_some] <;> rfl)|(simp only [← hji3];first|rfl|(simp [errW_none,errW_some] <;> rfl))|(simp [*,errW_none,errW_some] <;> rfl),pB⟩
end Go.Proofs.Ytkjlcbfjllpcnaa.X
namespace Go.Proofs.Ytkjlcbfjllpcnaa.X
open Go.RowKit Go.Proofs.YtkjlcbfjllpcnaaW.PrintWords Go.Proofs.YtkjlcbfjllpcnaaW.PrintLast Go.Proofs.YtkjlcbfjllpcnaaW.PrintMore
attribute [local go_sem] max2_int min2_int max_two min_two max_three min_three max_four min_four
set_option linter.unusedVariables false
set_option linter.unusedSimpArgs false
mutual
def deletion_level.l0:Nat→Int→List Int→Int→Int→Int→List Int→List (S32)→Int→List Int→Option (Int × List Int × (List (S32)))
 | 0,_,_,_,_,_,_,_,_,_=>none
 | k+1,x1,x15,x16,x17,x882000,x882001,x882002,x884000,x884001=>if x17 < x16 then (if 0≤x17 then (if x17 < (x15.length:Int) then ((nodeset_Has.f x1 (rd x15 x17)).bind fun t885=>(if t885=true then ((deletion_lowered.f x884000 1).bind fun t886=>(deletion_level.l0 k x1 x15 x16 (wrap64 (x17+1)) x882000 x882001 x882002 t886 x884001)) else (if x884001.length < 17592186044416 then (deletion_level.l0 k x1 x15 x16 (wrap64 (x17+1)) x882000 x882001 x882002 x884000 (x884001++[rd x15 x17])) else (none)))) else (none)) else (none)) else (deletion_level.l1 k x1 x882002 (x882002.length:Int) 0 x884000 x884001 ([]:List (S32)))
def deletion_level.l1:Nat→Int→List (S32)→Int→Int→Int→List Int→List (S32)→Option (Int × List Int × (List (S32)))
 | 0,_,_,_,_,_,_,_=>none
 | k+1,x1,x36,x37,x38,x884000,x884001,x884002=>if x38 < x37 then (if 0≤x38 then (if x38 < (x36.length:Int) then ((deletion_level.f k ((rd_T32 x36 x38).f0) ((rd_T32 x36 x38).f1) ((rd_T32 x36 x38).f2) x1).bind fun bt892=>(if bt892.1=0 then ((deletion_lowered.f x884000 1).bind fun t899=>(deletion_level.l1 k x1 x36 x37 (wrap64 (x38+1)) t899 x884001 x884002)) else (if x884002.length < 2513169434916 then (deletion_level.l1 k x1 x36 x37 (wrap64 (x38+1)) x884000 x884001 (x884002++[(⟨bt892.1,bt892.2.1,bt892.2.2⟩:S32)])) else (none)))) else (none)) else (none)) else (some (x884000,x884001,x884002))
def deletion_level.f:Nat→Int→List Int→List (S32)→Int→Option (Int × List Int × (List (S32)))
 | 0,_,_,_,_=>none
 | k+1,a0_0,l0_1,l0_2,a1=>deletion_level.l0 k a1 l0_1 (l0_1.length:Int) 0 a0_0 l0_1 l0_2 (mx a0_0 0) ([]:List Int)
end
set_option maxHeartbeats 8000000 in
set_option maxRecDepth 100000 in
theorem deletion_level.calls (k:Nat):∀ (a0_0:Int) (A0_1:Option Addr) (c0_1:Nat) (l0_1:List Int) (A0_2:Option Addr) (c0_2:Nat) (l0_2:List (S32)) (a1:Int) (r1:Int) (r2:List Int) (r3:List (S32)) (w:World) (hr0_1:Kd.C (Kd.int .i64) w A0_1 l0_1.length l0_1) (hc0_1:l0_1.length≤c0_1) (hr0_2:Kd.C k32 w A0_2 l0_2.length l0_2) (hc0_2:l0_2.length≤c0_2) (h:deletion_level.f k a0_0 l0_1 l0_2 a1=some (r1,r2,r3)),
  Calls Try.prog 143 #[.agg #[.int .i64 a0_0,.slice A0_1 l0_1.length c0_1,.slice A0_2 l0_2.length c0_2],.int .i64 a1] w fun e w'=>∃ v1_ v2_:Value,e=.returned (.agg #[.int .i64 r1,v1_,v2_])∧Kd.R (Kd.int .i64) 3 w' w.heap.size (fun _=>True) v1_ r2∧Kd.R k32 32 w' w.heap.size (fun k_=>some k_ ≠ (v1_:Value).ownBlock) v2_ r3∧Below w.heap.size w w':=by
 induction k using Nat.strongRecOn with
 | _ k ih =>
 intro a0_0 A0_1 c0_1 l0_1 A0_2 c0_2 l0_2 a1 r1 r2 r3 w hr0_1 hc0_1 hr0_2 hc0_2 h
 cases k with
 | zero=>exact absurd h (by simp [deletion_level.f])
 | succ k =>
 simp only [deletion_level.f] at h
 have hu32:=Try.underlying32
 have HR0_1:=Z hr0_1
 have HC0_1:=Z hc0_1
 clear hr0_1 hc0_1
 have HR0_2:=Z hr0_2
 have HC0_2:=Z hc0_2
 clear hr0_2 hc0_2
 have HB:=Z (Below.refl w.heap.size w)
 have H:(deletion_level.l0 k a1 l0_1 (l0_1.length:Int) 0 a0_0 l0_1 l0_2 (mx a0_0 0) ([]:List Int))=some (r1,r2,r3):=h
 clear h
 obtain ⟨ji3,hji3⟩:∃ j_:Int,(mx a0_0 0)=j_:=⟨_,rfl⟩
 replace H:(deletion_level.l0 k a1 l0_1 (l0_1.length:Int) 0 a0_0 l0_1 l0_2 ji3 ([]:List Int))=some (r1,r2,r3):=by first|(rw [hji3] at H;exact H)|(simp only [hji3] at H ⊢;exact H)
 (try (have hji3l:0≤ji3:=by (rw [← hji3];unfold mx;(repeat' split) <;> omega)))
 (try (have hji3m:0≤ji3:=by omega))
 have hji3_:(if a0_0 < 0 then 0 else a0_0)=ji3:=hji3
 have H':=Z H
 clear H
 go_enter Try.func143,Try.ntmps143
 go_wp2_with (first|((with_reducible refine gate_dst (N:=2) rfl ?_);refine box_event ?hg (N:=2) ?hd (cs:=#[.int .i64 a0_0,.slice A0_1 l0_1.length c0_1,.slice A0_2 l0_2.length c0_2]) (t:=32) ?hr ?_;(case hd=>rfl);(case hg=>rfl);(case hr=>first|(go_simp;done)|(go_simp;rfl));intro gb881 hg w4 hbox hb;have n0_:=Z (below_step pB hb);have n1_:=Z (hbox);have n2_:=Z ((pT hg:w.heap.size≤gb881));have n3_:=Z ((pT hg:w.heap.size≤gb881));clear HB;have HB:=n0_;have BK881:=n1_;have GW881:=n2_;have GE881:=n3_;clear n0_ n1_ n2_ n3_;clear hb hbox hg)|((with_reducible refine gate_dst (N:=4) rfl ?_);refine box_event ?hg (N:=4) ?hd (cs:=#[.int .i64 0,.slice none 0 0,.slice none 0 0]) (t:=32) ?hr ?_;(case hd=>rfl);(case hg=>rfl);(case hr=>first|(go_simp;done)|(go_simp;rfl));intro gb882 hg w5 hbox hb;have n0_:=Z (blk_below (g:=gb881) (o:=.cells #[.int .i64 a0_0,.slice A0_1 l0_1.length c0_1,.slice A0_2 l0_2.length c0_2] 32 (0,0)) (pK BK881) hb);have n1_:=Z (below_step pB hb);have n2_:=Z (hbox);have n3_:=Z ((pT hg:w.heap.size≤gb882));have n4_:=Z ((pT hg:w.heap.size≤gb882));have n5_:=Z ((pL hg (pK BK881):gb881 ≠ gb882));have n6_:=Z ((pM hg (pK BK881):gb882 ≠ gb881));clear BK881;clear HB;have BK881:=n0_;have HB:=n1_;have BK882:=n2_;have GW882:=n3_;have GE882:=n4_;have NB881_882:=n5_;have NB882_881:=n6_;clear n0_ n1_ n2_ n3_ n4_ n5_ n6_;clear hb hbox hg;have hnb6:=NB881_882.out;have hnc6:=NB882_881.out;have hcz7_0:w5.cell? ⟨gb881,0,none⟩=some (.int .i64 a0_0):=(kC BK881.out 0).trans rfl;have hcz7_1:w5.cell? ⟨gb881,1,none⟩=some (.slice A0_1 l0_1.length c0_1):=(kC BK881.out 1).trans rfl;have hcz7_2:w5.cell? ⟨gb881,2,none⟩=some (.slice A0_2 l0_2.length c0_2):=(kC BK881.out 2).trans rfl;have hfz7_0:=kF BK881.out 0;have hfz7_1:=kF BK881.out 1;have hfz7_2:=kF BK881.out 2)|((with_reducible refine gate_dst (N:=5) rfl ?_);refine box_event ?hg (N:=5) ?hd (cs:=#[.int .i64 0,.slice none 0 0,.slice none 0 0]) (t:=32) ?hr ?_;(case hd=>rfl);(case hg=>rfl);(case hr=>first|(go_simp;done)|(go_simp;rfl));intro gb883 hg w8 hbox hb;have n0_:=Z (blk_below (g:=gb881) (o:=.cells #[.int .i64 a0_0,.slice A0_1 l0_1.length c0_1,.slice A0_2 l0_2.length c0_2] 32 (0,0)) (pK BK881) hb);have n1_:=Z (blk_below (g:=gb882) (o:=.cells #[.int .i64 0,.slice none 0 0,.slice none 0 0] 32 (0,0)) (pK BK882) hb);have n2_:=Z (below_step pB hb);have n3_:=Z (hbox);have n4_:=Z ((pT hg:w.heap.size≤gb883));have n5_:=Z ((pT hg:w.heap.size≤gb883));have n6_:=Z ((pL hg (pK BK881):gb881 ≠ gb883));have n7_:=Z ((pM hg (pK BK881):gb883 ≠ gb881));have n8_:=Z ((pL hg (pK BK882):gb882 ≠ gb883));have n9_:=Z ((pM hg (pK BK882):gb883 ≠ gb882));clear BK881;clear BK882;clear HB;have BK881:=n0_;have BK882:=n1_;have HB:=n2_;have BK883:=n3_;have GW883:=n4_;have GE883:=n5_;have NB881_883:=n6_;have NB883_881:=n7_;have NB882_883:=n8_;have NB883_882:=n9_;clear n0_ n1_ n2_ n3_ n4_ n5_ n6_ n7_ n8_ n9_;clear hb hbox hg;have hnb9:=NB883_881.out;have hnc9:=NB881_883.out;have hnb10:=NB883_882.out;have hnc10:=NB882_883.out;have hcz11_0:w8.cell? ⟨gb883,0,none⟩=some (.int .i64 0):=(kC BK883.out 0).trans rfl;have hcz11_1:w8.cell? ⟨gb883,1,none⟩=some (.slice none 0 0):=(kC BK883.out 1).trans rfl;have hcz11_2:w8.cell? ⟨gb883,2,none⟩=some (.slice none 0 0):=(kC BK883.out 2).trans rfl;have hfz11_0:=kF BK883.out 0;have hfz11_1:=kF BK883.out 1;have hfz11_2:=kF BK883.out 2;have hcz12_0:w8.cell? ⟨gb881,0,none⟩=some (.int .i64 a0_0):=(kC BK881.out 0).trans rfl;have hcz12_1:w8.cell? ⟨gb881,1,none⟩=some (.slice A0_1 l0_1.length c0_1):=(kC BK881.out 1).trans rfl;have hcz12_2:w8.cell? ⟨gb881,2,none⟩=some (.slice A0_2 l0_2.length c0_2):=(kC BK881.out 2).trans rfl;have hfz12_0:=kF BK881.out 0;have hfz12_1:=kF BK881.out 1;have hfz12_2:=kF BK881.out 2))
 go_loopg [17] k (fun kq v17 w'=>∃ (x17_1:Int) (x884000_1:Int) (x884001_1:List Int) (u884001:Value),v17=.int .i64 x17_1∧Aside0 (deletion_level.l0 kq a1 l0_1 (l0_1.length:Int) x17_1 a0_0 l0_1 l0_2 x884000_1 x884001_1=some (r1,r2,r3))∧Aside0 (kq≤k)∧Aside0 (Kd.R (Kd.int .i64) 3 w' w.heap.size (fun _=>True) u884001 x884001_1)∧Aside0 (w'.heap[gb881]?=some (.cells #[.int .i64 a0_0,(.slice A0_1 l0_1.length c0_1),(.slice A0_2 l0_2.length c0_2)] 32 (0,0)))∧Aside0 (w'.heap[gb882]?=some (.cells #[.int .i64 0,(.slice none 0 0),(.slice none 0 0)] 32 (0,0)))∧Aside0 (w'.heap[gb883]?=some (.cells #[.int .i64 x884000_1,u884001,(.slice none 0 0)] 32 (0,0)))∧Aside0 (Below w.heap.size w w'))
 case atStart=>exact ⟨(0),(ji3),(([]:List Int)),(.slice none 0 0),pE,H',⟨Nat.le_refl _⟩,⟨pN⟩,⟨by (with_reducible repeat (first|refine kN ?_ _|refine kD ?_|refine kA ?_ _));refine blk_far ?_ NB881_883.out _;(with_reducible repeat (first|refine kN ?_ _|refine kD ?_|refine kA ?_ _));refine blk_far ?_ NB881_883.out _;(with_reducible repeat (first|refine kN ?_ _|refine kD ?_|refine kA ?_ _));refine blk_far ?_ NB881_883.out _;(with_reducible repeat (first|refine kN ?_ _|refine kD ?_|refine kA ?_ _));exact BK881.out⟩,⟨by (with_reducible repeat (first|refine kN ?_ _|refine kD ?_|refine kA ?_ _));refine blk_far ?_ NB882_883.out _;(with_reducible repeat (first|refine kN ?_ _|refine kD ?_|refine kA ?_ _));refine blk_far ?_ NB882_883.out _;(with_reducible repeat (first|refine kN ?_ _|refine kD ?_|refine kA ?_ _));refine blk_far ?_ NB882_883.out _;(with_reducible repeat (first|refine kN ?_ _|refine kD ?_|refine kA ?_ _));exact BK882.out⟩,⟨by (with_reducible repeat (first|refine kN ?_ _|refine kD ?_|refine kA ?_ _));refine blk_put (cs:=#[.int .i64 ji3,.slice none 0 0,.slice none 0 0]) ?_ 2 _ rfl;(with_reducible repeat (first|refine kN ?_ _|refine kD ?_|refine kA ?_ _));refine blk_put (cs:=#[.int .i64 ji3,.slice none 0 0,.slice none 0 0]) ?_ 1 _ rfl;(with_reducible repeat (first|refine kN ?_ _|refine kD ?_|refine kA ?_ _));refine blk_put (cs:=#[.int .i64 0,.slice none 0 0,.slice none 0 0]) ?_ 0 _ rfl;(with_reducible repeat (first|refine kN ?_ _|refine kD ?_|refine kA ?_ _));exact BK883.out⟩,⟨pB⟩⟩
 case round =>
  clear H'
  try clear c1
  try clear p2
  try clear c6
  try clear c9
  try clear c10
  try clear hcz11_0
  try clear hcz11_1
  try clear hcz11_2
  try clear hcz12_0
  try clear hcz12_1
  try clear hcz12_2
  try clear hcz7_0
  try clear hcz7_1
  try clear hcz7_2
  try clear hfz11_0
  try clear hfz11_1
  try clear hfz11_2
  try clear hfz12_0
  try clear hfz12_1
  try clear hfz12_2
  try clear hfz7_0
  try clear hfz7_1
  try clear hfz7_2
  obtain ⟨x17_1,x884000_1,x884001_1,u884001,rfl,HA,HK1,HO_884001,BK881,BK882,BK883,HB⟩:=hrel
  cases gk with
  | zero=>exact absurd HA.out (by simp [deletion_level.l0])
  | succ k1 =>
   have H:=HA.out
   clear HA
   simp only [deletion_level.l0] at H
   by_cases c13:x17_1 < (l0_1.length:Int)
   ·rw [if_pos c13] at H
    have c13b0:decide (x17_1 < (l0_1.length:Int))=true:=decide_eq_true c13
    clear c13
    by_cases c14:0≤x17_1
    ·rw [if_pos c14] at H
     have c14b0:decide (0≤x17_1)=true:=decide_eq_true c14
     clear c14
     by_cases c15:x17_1 < (l0_1.length:Int)
     ·rw [if_pos c15] at H
      have c15b0:decide (x17_1 < (l0_1.length:Int))=true:=decide_eq_true c15
      clear c15
      replace H:=Option.bind_eq_some_iff.mp H
      obtain ⟨t885,A160,H⟩:=H
      try dsimp only at H
      have A16:=Z A160
      clear A160
      by_cases c17:t885=true
      ·subst c17
       rw [if_pos rfl] at H
       replace H:=Option.bind_eq_some_iff.mp H
       obtain ⟨t886,A180,H⟩:=H
       try dsimp only at H
       have A18:=Z A180
       clear A180
       have H':=Z H
       clear H
       have p884:0≤(x17_1:Int):=of_decide_eq_true (by first|(with_reducible assumption)|assumption)
       have q884:x17_1 < (l0_1.length:Int):=of_decide_eq_true (by first|(with_reducible assumption)|assumption)
       obtain ⟨ad884,e884,hx884_0⟩:=Kd.at_int HR0_1.out x17_1 p884 q884
       cases e884
       replace hx884_0:=(HB.out.cell (World.block_lt_of_cell? w _ hx884_0)).trans hx884_0
       replace p884:=eq_true p884
       replace q884:=eq_true q884
       go_wp2_with (first|((with_reducible refine gate_callee (f:=60) rfl ?_);refine goesL_ (some 23) rfl rfl Try.func60 (by kernel_rfl) rfl #[.int .i64 a1,.int .i64 (rd l0_1 x17_1)] rfl pG ?_;(with_reducible refine (nodeset_Has.calls a1 (rd l0_1 x17_1) true _ A16.out).mono ?_);rintro e w' ⟨rfl,⟨nd,rfl⟩⟩;refine ⟨_,rfl,?_⟩;(try (rw [drewN_self wr];generalize hq_:World.drewN wr _=wr;have n0_:Aside0 (Kd.R (Kd.int .i64) 3 wr w.heap.size (fun _=>True) u884001 x884001_1):=⟨by rw [← hq_];exact (pR HO_884001)⟩;have n1_:Aside0 (wr.heap[gb881]?=some (.cells #[.int .i64 a0_0,.slice (some ad884) l0_1.length c0_1,.slice A0_2 l0_2.length c0_2] 32 (0,0))):=⟨by rw [← hq_];exact (pK BK881)⟩;have n2_:Aside0 (wr.heap[gb882]?=some (.cells #[.int .i64 0,.slice none 0 0,.slice none 0 0] 32 (0,0))):=⟨by rw [← hq_];exact (pK BK882)⟩;have n3_:Aside0 (wr.heap[gb883]?=some (.cells #[.int .i64 x884000_1,u884001,.slice none 0 0] 32 (0,0))):=⟨by rw [← hq_];exact (pK BK883)⟩;have n4_:Aside0 (Below w.heap.size w wr):=⟨by rw [← hq_];exact pB⟩;clear HO_884001 BK881 BK882 BK883 HB hq_;have HO_884001:=n0_;have BK881:=n1_;have BK882:=n2_;have BK883:=n3_;have HB:=n4_;clear n0_ n1_ n2_ n3_ n4_));have hnb19:=NB883_881.out;have hnc19:=NB881_883.out;have hnb20:=NB883_882.out;have hnc20:=NB882_883.out;have hcz21_0:wr.cell? ⟨gb883,0,none⟩=some (.int .i64 x884000_1):=(kC BK883.out 0).trans rfl;have hcz21_1:wr.cell? ⟨gb883,1,none⟩=some (u884001):=(kC BK883.out 1).trans rfl;have hcz21_2:wr.cell? ⟨gb883,2,none⟩=some (.slice none 0 0):=(kC BK883.out 2).trans rfl;have hfz21_0:=kF BK883.out 0;have hfz21_1:=kF BK883.out 1;have hfz21_2:=kF BK883.out 2)|((with_reducible refine gate_callee (f:=153) rfl ?_);refine goesL_ (some 26) rfl rfl Try.func153 (by kernel_rfl) rfl #[.int .i64 x884000_1,.int .i64 1] rfl pG ?_;(with_reducible refine (deletion_lowered.calls x884000_1 1 t886 _ A18.out).mono ?_);rintro e w22 ⟨rfl,hb⟩;refine ⟨_,rfl,?_⟩;have n0_:=Z (Kd.R_below (pR HO_884001) hb);have n1_:=Z (blk_below (g:=gb881) (o:=.cells #[.int .i64 a0_0,.slice (some ad884) l0_1.length c0_1,.slice A0_2 l0_2.length c0_2] 32 (0,0)) (pK BK881) hb);have n2_:=Z (blk_below (g:=gb882) (o:=.cells #[.int .i64 0,.slice none 0 0,.slice none 0 0] 32 (0,0)) (pK BK882) hb);have n3_:=Z (blk_below (g:=gb883) (o:=.cells #[.int .i64 x884000_1,u884001,.slice none 0 0] 32 (0,0)) (pK BK883) hb);have n4_:=Z (below_step pB hb);clear HO_884001;clear BK881;clear BK882;clear BK883;clear HB;have HO_884001:=n0_;have BK881:=n1_;have BK882:=n2_;have BK883:=n3_;have HB:=n4_;clear n0_ n1_ n2_ n3_ n4_;(try clear hb);(try clear hb2);(try clear hk);(try clear hi);have hcz23_0:w22.cell? ⟨gb883,0,none⟩=some (.int .i64 x884000_1):=(kC BK883.out 0).trans rfl;have hcz23_1:w22.cell? ⟨gb883,1,none⟩=some (u884001):=(kC BK883.out 1).trans rfl;have hcz23_2:w22.cell? ⟨gb883,2,none⟩=some (.slice none 0 0):=(kC BK883.out 2).trans rfl;have hfz23_0:=kF BK883.out 0;have hfz23_1:=kF BK883.out 1;have hfz23_2:=kF BK883.out 2))
       go_roundg k1
       case measure=>have:=HK1.out;omega
       case rel=>exact ⟨(wrap64 (x17_1+1)),(t886),(x884001_1),(u884001),pE,H',⟨by have:=HK1.out;omega⟩,⟨by (with_reducible repeat (first|apply Kd.R_alloc|apply Kd.R_drewN|apply Kd.R_drew));exact Kd.R_mono (Kd.R_far (p:=⟨gb883,0,none⟩) (Kd.R_types HO_884001.out BK883.out (by decide)) (fun _ hk=>hk.2) (.int .i64 t886)) (fun _ hk=>trivial)⟩,⟨by (with_reducible repeat (first|refine kN ?_ _|refine kD ?_|refine kA ?_ _));refine blk_far ?_ NB881_883.out _;(with_reducible repeat (first|refine kN ?_ _|refine kD ?_|refine kA ?_ _));exact BK881.out⟩,⟨by (with_reducible repeat (first|refine kN ?_ _|refine kD ?_|refine kA ?_ _));refine blk_far ?_ NB882_883.out _;(with_reducible repeat (first|refine kN ?_ _|refine kD ?_|refine kA ?_ _));exact BK882.out⟩,⟨by (with_reducible repeat (first|refine kN ?_ _|refine kD ?_|refine kA ?_ _));refine blk_put (cs:=#[.int .i64 x884000_1,u884001,.slice none 0 0]) ?_ 0 _ rfl;(with_reducible repeat (first|refine kN ?_ _|refine kD ?_|refine kA ?_ _));exact BK883.out⟩,⟨pB⟩⟩
      ·replace c17:=Bool.eq_false_iff.mpr c17
       subst c17
       rw [if_neg (show ¬ (false=true) by decide)] at H
       by_cases c24:x884001_1.length < 17592186044416
       ·rw [if_pos c24] at H
        have LMc24:=Z c24
        clear c24
        obtain ⟨y887,hy887⟩:∃ y_:List Int,y_=(x884001_1++[rd l0_1 x17_1]):=⟨_,rfl⟩
        first|rw [← hy887] at H|(replace H:=(Option.bind_some _ _).symm.trans H;rw [← hy887] at H)
        have Ny887:=Z hy887
        clear hy887
        have H':=Z H
        clear H
        have p884:0≤(x17_1:Int):=of_decide_eq_true (by first|(with_reducible assumption)|assumption)
        have q884:x17_1 < (l0_1.length:Int):=of_decide_eq_true (by first|(with_reducible assumption)|assumption)
        obtain ⟨ad884,e884,hx884_0⟩:=Kd.at_int HR0_1.out x17_1 p884 q884
        cases e884
        replace hx884_0:=(HB.out.cell (World.block_lt_of_cell? w _ hx884_0)).trans hx884_0
        replace p884:=eq_true p884
        replace q884:=eq_true q884
        go_wp2_with (first|((with_reducible refine gate_callee (f:=60) rfl ?_);refine goesL_ (some 23) rfl rfl Try.func60 (by kernel_rfl) rfl #[.int .i64 a1,.int .i64 (rd l0_1 x17_1)] rfl pG ?_;(with_reducible refine (nodeset_Has.calls a1 (rd l0_1 x17_1) false _ A16.out).mono ?_);rintro e w' ⟨rfl,⟨nd,rfl⟩⟩;refine ⟨_,rfl,?_⟩;(try (rw [drewN_self wr];generalize hq_:World.drewN wr _=wr;have n0_:Aside0 (Kd.R (Kd.int .i64) 3 wr w.heap.size (fun _=>True) u884001 x884001_1):=⟨by rw [← hq_];exact (pR HO_884001)⟩;have n1_:Aside0 (wr.heap[gb881]?=some (.cells #[.int .i64 a0_0,.slice (some ad884) l0_1.length c0_1,.slice A0_2 l0_2.length c0_2] 32 (0,0))):=⟨by rw [← hq_];exact (pK BK881)⟩;have n2_:Aside0 (wr.heap[gb882]?=some (.cells #[.int .i64 0,.slice none 0 0,.slice none 0 0] 32 (0,0))):=⟨by rw [← hq_];exact (pK BK882)⟩;have n3_:Aside0 (wr.heap[gb883]?=some (.cells #[.int .i64 x884000_1,u884001,.slice none 0 0] 32 (0,0))):=⟨by rw [← hq_];exact (pK BK883)⟩;have n4_:Aside0 (Below w.heap.size w wr):=⟨by rw [← hq_];exact pB⟩;clear HO_884001 BK881 BK882 BK883 HB hq_;have HO_884001:=n0_;have BK881:=n1_;have BK882:=n2_;have BK883:=n3_;have HB:=n4_;clear n0_ n1_ n2_ n3_ n4_));have hnb25:=NB883_881.out;have hnc25:=NB881_883.out;have hnb26:=NB883_882.out;have hnc26:=NB882_883.out;have hcz27_0:wr.cell? ⟨gb883,0,none⟩=some (.int .i64 x884000_1):=(kC BK883.out 0).trans rfl;have hcz27_1:wr.cell? ⟨gb883,1,none⟩=some (u884001):=(kC BK883.out 1).trans rfl;have hcz27_2:wr.cell? ⟨gb883,2,none⟩=some (.slice none 0 0):=(kC BK883.out 2).trans rfl;have hfz27_0:=kF BK883.out 0;have hfz27_1:=kF BK883.out 1;have hfz27_2:=kF BK883.out 2)|((with_reducible refine gate_builtin (b:=.append) (xs:=#[.tmp 29,.tmp 31]) rfl ?_);at_builtin;refine Kd.R_append (Kd.int .i64) (w0:=w) w.heap.size rfl (.tmp 29) (.tmp 31) 22 3 (.int .i64 0) 8 rfl Try.underlying22 info3 rfl (by decide) (by omega) u884001 x884001_1 (rd l0_1 x17_1) [.int .i64 (rd l0_1 x17_1)] (fun _=>True) (fun _=>False) rfl rfl ?aP (fun _ hk=>hk.elim) ?aF ?aO ?aB ?aS ?aL ?_;(case aP=>exact rfl);(case aB=>exact pB);(case aF=>exact (fun _ _=>trivial));(case aO=>exact (pR HO_884001));(case aS=>exact (below_size pB));(case aL=>have:=LMc24.out;omega);intro v888 w28 ho hb hg hat;rw [← Ny887.out] at ho;have n0_:=Z (blk_grown (g:=gb881) (o:=.cells #[.int .i64 a0_0,.slice (some ad884) l0_1.length c0_1,.slice A0_2 l0_2.length c0_2] 32 (0,0)) (pK BK881) hg (Kd.R_ne HO_884001.out BK881.out (by decide)));have n1_:=Z (blk_grown (g:=gb882) (o:=.cells #[.int .i64 0,.slice none 0 0,.slice none 0 0] 32 (0,0)) (pK BK882) hg (Kd.R_ne HO_884001.out BK882.out (by decide)));have n2_:=Z (blk_grown (g:=gb883) (o:=.cells #[.int .i64 x884000_1,u884001,.slice none 0 0] 32 (0,0)) (pK BK883) hg (Kd.R_ne HO_884001.out BK883.out (by decide)));have n3_:=Z (hb);have n4_:=Z (ho);clear BK881;clear BK882;clear BK883;clear HB;clear HO_884001;have BK881:=n0_;have BK882:=n1_;have BK883:=n2_;have HB:=n3_;have HO889:=n4_;clear n0_ n1_ n2_ n3_ n4_;clear ho hb hg hat;obtain ⟨Ao29,co29,eo29⟩:=Kd.R_slice HO889.out;subst eo29;have hcz30_0:w28.cell? ⟨gb883,0,none⟩=some (.int .i64 x884000_1):=(kC BK883.out 0).trans rfl;have hcz30_1:w28.cell? ⟨gb883,1,none⟩=some (u884001):=(kC BK883.out 1).trans rfl;have hcz30_2:w28.cell? ⟨gb883,2,none⟩=some (.slice none 0 0):=(kC BK883.out 2).trans rfl;have hfz30_0:=kF BK883.out 0;have hfz30_1:=kF BK883.out 1;have hfz30_2:=kF BK883.out 2))
        go_roundg k1
        case measure=>have:=HK1.out;omega
        case rel=>exact ⟨(wrap64 (x17_1+1)),(x884000_1),(y887),(.slice Ao29 y887.length co29),pE,H',⟨by have:=HK1.out;omega⟩,⟨by (with_reducible repeat (first|apply Kd.R_alloc|apply Kd.R_drewN|apply Kd.R_drew));exact Kd.R_mono (Kd.R_far (p:=⟨gb883,1,none⟩) (Kd.R_types HO889.out BK883.out (by decide)) (fun _ hk=>hk.2) (.slice Ao29 y887.length co29)) (fun _ hk=>trivial)⟩,⟨by (with_reducible repeat (first|refine kN ?_ _|refine kD ?_|refine kA ?_ _));refine blk_far ?_ NB881_883.out _;(with_reducible repeat (first|refine kN ?_ _|refine kD ?_|refine kA ?_ _));exact BK881.out⟩,⟨by (with_reducible repeat (first|refine kN ?_ _|refine kD ?_|refine kA ?_ _));refine blk_far ?_ NB882_883.out _;(with_reducible repeat (first|refine kN ?_ _|refine kD ?_|refine kA ?_ _));exact BK882.out⟩,⟨by (with_reducible repeat (first|refine kN ?_ _|refine kD ?_|refine kA ?_ _));refine blk_put (cs:=#[.int .i64 x884000_1,u884001,.slice none 0 0]) ?_ 1 _ rfl;(with_reducible repeat (first|refine kN ?_ _|refine kD ?_|refine kA ?_ _));exact BK883.out⟩,⟨pB⟩⟩
       ·rw [if_neg c24] at H
        exact absurd H (by simp)
     ·rw [if_neg c15] at H
      exact absurd H (by simp)
    ·rw [if_neg c14] at H
     exact absurd H (by simp)
   ·rw [if_neg c13] at H
    have c13b0:decide (x17_1 < (l0_1.length:Int))=false:=decide_eq_false c13
    clear c13
    have H':=Z H
    clear H
    have hnb31:=NB881_882.out
    have hnc31:=NB882_881.out
    have hnb32:=NB881_883.out
    have hnc32:=NB883_881.out
    have hcz33_0:wr.cell? ⟨gb881,0,none⟩=some (.int .i64 a0_0):=(kC BK881.out 0).trans rfl
    have hcz33_1:wr.cell? ⟨gb881,1,none⟩=some (.slice A0_1 l0_1.length c0_1):=(kC BK881.out 1).trans rfl
    have hcz33_2:wr.cell? ⟨gb881,2,none⟩=some (.slice A0_2 l0_2.length c0_2):=(kC BK881.out 2).trans rfl
    have hfz33_0:=kF BK881.out 0
    have hfz33_1:=kF BK881.out 1
    have hfz33_2:=kF BK881.out 2
    go_wp2
    go_loopg [38] k1 (fun kq v38 w'=>∃ (x38_2:Int) (x884000_2:Int) (x884002_2:List (S32)) (u884002:Value),v38=.int .i64 x38_2∧Aside0 (deletion_level.l1 kq a1 l0_2 (l0_2.length:Int) x38_2 x884000_2 x884001_1 x884002_2=some (r1,r2,r3))∧Aside0 (kq≤k1)∧Aside0 (Kd.R (Kd.int .i64) 3 w' w.heap.size (fun _=>True) u884001 x884001_1)∧Aside0 (Kd.R k32 32 w' w.heap.size (fun k_=>some k_ ≠ (u884001:Value).ownBlock∧k_ ≠ gb881∧k_ ≠ gb882∧k_ ≠ gb883) u884002 x884002_2)∧Aside0 (w'.heap[gb881]?=some (.cells #[.int .i64 a0_0,(.slice A0_1 l0_1.length c0_1),(.slice A0_2 l0_2.length c0_2)] 32 (0,0)))∧Aside0 (w'.heap[gb882]?=some (.cells #[.int .i64 0,(.slice none 0 0),(.slice none 0 0)] 32 (0,0)))∧Aside0 (w'.heap[gb883]?=some (.cells #[.int .i64 x884000_2,u884001,u884002] 32 (0,0)))∧Aside0 (Below w.heap.size w w'))
    case atStart=>exact ⟨(0),(x884000_1),(([]:List (S32))),(.slice none 0 0),pE,H',⟨Nat.le_refl _⟩,⟨pR HO_884001⟩,⟨pN⟩,⟨pK BK881⟩,⟨pK BK882⟩,⟨pK BK883⟩,⟨pB⟩⟩
    case round =>
     clear H'
     try clear c1
     try clear c2
     try clear p2
     try clear c3
     try clear c6
     try clear p6
     try clear p8
     try clear q8
     try clear hx8
     try clear c9
     try clear c10
     try clear c13
     try clear c13b0
     try clear c14
     try clear c14b0
     try clear c15
     try clear c15b0
     try clear c17
     try clear c19
     try clear c20
     try clear c24
     try clear c25
     try clear c26
     try clear c31
     try clear c32
     try clear hcz11_0
     try clear hcz11_1
     try clear hcz11_2
     try clear hcz12_0
     try clear hcz12_1
     try clear hcz12_2
     try clear hcz21_0
     try clear hcz21_1
     try clear hcz21_2
     try clear hcz23_0
     try clear hcz23_1
     try clear hcz23_2
     try clear hcz27_0
     try clear hcz27_1
     try clear hcz27_2
     try clear hcz30_0
     try clear hcz30_1
     try clear hcz30_2
     try clear hcz33_0
     try clear hcz33_1
     try clear hcz33_2
     try clear hcz7_0
     try clear hcz7_1
     try clear hcz7_2
     try clear hfz11_0
     try clear hfz11_1
     try clear hfz11_2
     try clear hfz12_0
     try clear hfz12_1
     try clear hfz12_2
     try clear hfz21_0
     try clear hfz21_1
     try clear hfz21_2
     try clear hfz23_0
     try clear hfz23_1
     try clear hfz23_2
     try clear hfz27_0
     try clear hfz27_1
     try clear hfz27_2
     try clear hfz30_0
     try clear hfz30_1
     try clear hfz30_2
     try clear hfz33_0
     try clear hfz33_1
     try clear hfz33_2
     try clear hfz7_0
     try clear hfz7_1
     try clear hfz7_2
     try clear hx884_0
     try clear p884
     try clear q884
     obtain ⟨x38_2,x884000_2,x884002_2,u884002,rfl,HA,HK2,HO_884001,HO_884002,BK881,BK882,BK883,HB⟩:=hrel
     cases gk with
     | zero=>exact absurd HA.out (by simp [deletion_level.l1])
     | succ k2 =>
      have H:=HA.out
      clear HA
      simp only [deletion_level.l1] at H
      by_cases c34:x38_2 < (l0_2.length:Int)
      ·rw [if_pos c34] at H
       have c34b0:decide (x38_2 < (l0_2.length:Int))=true:=decide_eq_true c34
       clear c34
       by_cases c35:0≤x38_2
       ·rw [if_pos c35] at H
        have c35b0:decide (0≤x38_2)=true:=decide_eq_true c35
        clear c35
        by_cases c36:x38_2 < (l0_2.length:Int)
        ·rw [if_pos c36] at H
         have c36b0:decide (x38_2 < (l0_2.length:Int))=true:=decide_eq_true c36
         clear c36
         replace H:=Option.bind_eq_some_iff.mp H
         obtain ⟨⟨t892,t893,t896⟩,A370,H⟩:=H
         try dsimp only at H
         have A37:=Z A370
         clear A370
         by_cases c38:t892=0
         ·rw [if_pos c38] at H
          have c38b0:(t892 == 0)=true:=beq_iff_eq.mpr c38
          have c38b1:(t892 != 0)=false:=bne_eq_false_iff_eq.mpr c38
          clear c38
          replace H:=Option.bind_eq_some_iff.mp H
          obtain ⟨t899,A390,H⟩:=H
          try dsimp only at H
          have A39:=Z A390
          clear A390
          have H':=Z H
          clear H
          have p890:0≤(x38_2:Int):=of_decide_eq_true (by first|(with_reducible assumption)|assumption)
          have q890:x38_2 < (l0_2.length:Int):=of_decide_eq_true (by first|(with_reducible assumption)|assumption)
          obtain ⟨ad890,A890_1,c890_1,A890_2,c890_2,e890,hx890_0,hx890_1,hx890_2,hl890_1,hi890_1,hl890_2,hi890_2⟩:=at_T32 HR0_2.out x38_2 p890 q890
          cases e890
          replace hx890_0:=(HB.out.cell (World.block_lt_of_cell? w _ hx890_0)).trans hx890_0
          replace hx890_1:=(HB.out.cell (World.block_lt_of_cell? w _ hx890_1)).trans hx890_1
          replace hx890_2:=(HB.out.cell (World.block_lt_of_cell? w _ hx890_2)).trans hx890_2
          have HR890_1:=Z hi890_1
          have HC890_1:=Z hl890_1
          clear hi890_1 hl890_1
          have HR890_2:=Z hi890_2
          have HC890_2:=Z hl890_2
          clear hi890_2 hl890_2
          replace p890:=eq_true p890
          replace q890:=eq_true q890
          go_wp2_with (first|((with_reducible refine gate_dst (N:=9) rfl ?_);refine box_event ?hg (N:=9) ?hd (cs:=#[.int .i64 0,.slice none 0 0,.slice none 0 0]) (t:=32) ?hr ?_;(case hd=>rfl);(case hg=>rfl);(case hr=>first|(go_simp;done)|(go_simp;rfl));intro gb891 hg w40 hbox hb;have n0_:=Z (Kd.R_below (pR HO_884001) hb);have n1_:=Z (Kd.R_below (Kd.R_elderB (pR HO_884002) gb891 (Nat.le_of_eq hg.symm)) hb);have n2_:=Z (blk_below (g:=gb881) (o:=.cells #[.int .i64 a0_0,.slice A0_1 l0_1.length c0_1,.slice (some ad890) l0_2.length c0_2] 32 (0,0)) (pK BK881) hb);have n3_:=Z (blk_below (g:=gb882) (o:=.cells #[.int .i64 0,.slice none 0 0,.slice none 0 0] 32 (0,0)) (pK BK882) hb);have n4_:=Z (blk_below (g:=gb883) (o:=.cells #[.int .i64 x884000_2,u884001,u884002] 32 (0,0)) (pK BK883) hb);have n5_:=Z (below_step pB hb);have n6_:=Z (hbox);have n7_:=Z ((pT hg:w.heap.size≤gb891));have n8_:=Z ((pT hg:w.heap.size≤gb891));have n9_:=Z ((pL hg (pK BK881):gb881 ≠ gb891));have n10_:=Z ((pM hg (pK BK881):gb891 ≠ gb881));have n11_:=Z ((pL hg (pK BK882):gb882 ≠ gb891));have n12_:=Z ((pM hg (pK BK882):gb891 ≠ gb882));have n13_:=Z ((pL hg (pK BK883):gb883 ≠ gb891));have n14_:=Z ((pM hg (pK BK883):gb891 ≠ gb883));clear HO_884001;clear HO_884002;clear BK881;clear BK882;clear BK883;clear HB;have HO_884001:=n0_;have HO_884002:=n1_;have BK881:=n2_;have BK882:=n3_;have BK883:=n4_;have HB:=n5_;have BK891:=n6_;have GW891:=n7_;have GE891:=n8_;have NB881_891:=n9_;have NB891_881:=n10_;have NB882_891:=n11_;have NB891_882:=n12_;have NB883_891:=n13_;have NB891_883:=n14_;clear n0_ n1_ n2_ n3_ n4_ n5_ n6_ n7_ n8_ n9_ n10_ n11_ n12_ n13_ n14_;clear hb hbox hg;have hnb41:=NB891_881.out;have hnc41:=NB881_891.out;have hnb42:=NB891_882.out;have hnc42:=NB882_891.out;have hnb43:=NB891_883.out;have hnc43:=NB883_891.out;have hcz44_0:w40.cell? ⟨gb891,0,none⟩=some (.int .i64 0):=(kC BK891.out 0).trans rfl;have hcz44_1:w40.cell? ⟨gb891,1,none⟩=some (.slice none 0 0):=(kC BK891.out 1).trans rfl;have hcz44_2:w40.cell? ⟨gb891,2,none⟩=some (.slice none 0 0):=(kC BK891.out 2).trans rfl;have hfz44_0:=kF BK891.out 0;have hfz44_1:=kF BK891.out 1;have hfz44_2:=kF BK891.out 2)|((with_reducible refine gate_callee (f:=143) rfl ?_);refine goesL_ (some 44) rfl rfl Try.func143 (by kernel_rfl) rfl #[.agg #[.int .i64 ((rd_T32 l0_2 x38_2).f0),.slice A890_1 ((rd_T32 l0_2 x38_2).f1).length c890_1,.slice A890_2 ((rd_T32 l0_2 x38_2).f2).length c890_2],.int .i64 a1] rfl pG ?_;(with_reducible refine (ih k2 (by have:=HK1.out;have:=HK2.out;omega) ((rd_T32 l0_2 x38_2).f0) _ _ ((rd_T32 l0_2 x38_2).f1) _ _ ((rd_T32 l0_2 x38_2).f2) a1 t892 t893 t896 _ ?side1 ?side2 ?side3 ?side4 A37.out).mono ?_);(case side1=>exact Kd.C_below HR890_1.out pB);(case side2=>exact HC890_1.out);(case side3=>exact Kd.C_below HR890_2.out pB);(case side4=>exact HC890_2.out);rintro e w45 ⟨v894,v897,rfl,ho0,ho1,hb⟩;refine ⟨_,rfl,?_⟩;have n0_:=Z (Kd.R_elder' (by (with_reducible repeat (first|apply Kd.R_alloc|apply Kd.R_drewN|apply Kd.R_drew));exact (Kd.R_mono (Kd.R_far (p:=⟨gb891,2,none⟩) (Kd.R_far (p:=⟨gb891,1,none⟩) (Kd.R_far (p:=⟨gb891,0,none⟩) (Kd.R_types HO_884001.out BK891.out (by decide)) (fun _ hk=>hk.2) (.int .i64 ((rd_T32 l0_2 x38_2).f0))) (fun _ hk=>hk.2) (.slice A890_1 ((rd_T32 l0_2 x38_2).f1).length c890_1)) (fun _ hk=>hk.2) (.slice A890_2 ((rd_T32 l0_2 x38_2).f2).length c890_2)) (fun _ h_=>h_.1))) (Kd.R_base ho0) hb);have n1_:=Z (Kd.R_mono (Kd.R_told (Kd.R_told (Kd.R_old (by (with_reducible repeat (first|apply Kd.R_alloc|apply Kd.R_drewN|apply Kd.R_drew));exact (Kd.R_mono (Kd.R_far (p:=⟨gb891,2,none⟩) (Kd.R_far (p:=⟨gb891,1,none⟩) (Kd.R_far (p:=⟨gb891,0,none⟩) (Kd.R_mono HO_884002.out (fun k_ hk=>(⟨hk,hk.2⟩:_∧k_ ≠ gb891))) (fun _ hk=>hk.2) (.int .i64 ((rd_T32 l0_2 x38_2).f0))) (fun _ hk=>hk.2) (.slice A890_1 ((rd_T32 l0_2 x38_2).f1).length c890_1)) (fun _ hk=>hk.2) (.slice A890_2 ((rd_T32 l0_2 x38_2).f2).length c890_2)) (fun _ h_=>h_.1))) hb) (Kd.R_base ho0)) (Kd.R_base ho1)) (fun _ h_=>h_.1));have n2_:=Z (Kd.R_lower (Kd.R_new' ho0 (Kd.R_lt (by (with_reducible repeat (first|apply Kd.R_alloc|apply Kd.R_drewN|apply Kd.R_drew));exact (Kd.R_mono (Kd.R_far (p:=⟨gb891,2,none⟩) (Kd.R_far (p:=⟨gb891,1,none⟩) (Kd.R_far (p:=⟨gb891,0,none⟩) (Kd.R_types HO_884001.out BK891.out (by decide)) (fun _ hk=>hk.2) (.int .i64 ((rd_T32 l0_2 x38_2).f0))) (fun _ hk=>hk.2) (.slice A890_1 ((rd_T32 l0_2 x38_2).f1).length c890_1)) (fun _ hk=>hk.2) (.slice A890_2 ((rd_T32 l0_2 x38_2).f2).length c890_2)) (fun _ h_=>h_.1))))) (below_size pB));have n3_:=Z (Kd.R_lower (Kd.R_newB (Kd.R_newB (Kd.R_newB (Kd.R_newB (Kd.R_new' (Kd.R_new' ho1 (Kd.R_lt (by (with_reducible repeat (first|apply Kd.R_alloc|apply Kd.R_drewN|apply Kd.R_drew));exact (Kd.R_mono (Kd.R_far (p:=⟨gb891,2,none⟩) (Kd.R_far (p:=⟨gb891,1,none⟩) (Kd.R_far (p:=⟨gb891,0,none⟩) (Kd.R_types HO_884001.out BK891.out (by decide)) (fun _ hk=>hk.2) (.int .i64 ((rd_T32 l0_2 x38_2).f0))) (fun _ hk=>hk.2) (.slice A890_1 ((rd_T32 l0_2 x38_2).f1).length c890_1)) (fun _ hk=>hk.2) (.slice A890_2 ((rd_T32 l0_2 x38_2).f2).length c890_2)) (fun _ h_=>h_.1))))) (Kd.R_lt (by (with_reducible repeat (first|apply Kd.R_alloc|apply Kd.R_drewN|apply Kd.R_drew));exact (Kd.R_mono (Kd.R_far (p:=⟨gb891,2,none⟩) (Kd.R_far (p:=⟨gb891,1,none⟩) (Kd.R_far (p:=⟨gb891,0,none⟩) (Kd.R_mono HO_884002.out (fun k_ hk=>(⟨hk,hk.2⟩:_∧k_ ≠ gb891))) (fun _ hk=>hk.2) (.int .i64 ((rd_T32 l0_2 x38_2).f0))) (fun _ hk=>hk.2) (.slice A890_1 ((rd_T32 l0_2 x38_2).f1).length c890_1)) (fun _ hk=>hk.2) (.slice A890_2 ((rd_T32 l0_2 x38_2).f2).length c890_2)) (fun _ h_=>h_.1))))) (g:=gb881) (o:=.cells #[.int .i64 a0_0,.slice A0_1 l0_1.length c0_1,.slice (some ad890) l0_2.length c0_2] 32 (0,0)) (by (with_reducible repeat (first|refine kN ?_ _|refine kD ?_|refine kA ?_ _));refine blk_far ?_ NB881_891.out _;(with_reducible repeat (first|refine kN ?_ _|refine kD ?_|refine kA ?_ _));refine blk_far ?_ NB881_891.out _;(with_reducible repeat (first|refine kN ?_ _|refine kD ?_|refine kA ?_ _));refine blk_far ?_ NB881_891.out _;(with_reducible repeat (first|refine kN ?_ _|refine kD ?_|refine kA ?_ _));exact BK881.out)) (g:=gb882) (o:=.cells #[.int .i64 0,.slice none 0 0,.slice none 0 0] 32 (0,0)) (by (with_reducible repeat (first|refine kN ?_ _|refine kD ?_|refine kA ?_ _));refine blk_far ?_ NB882_891.out _;(with_reducible repeat (first|refine kN ?_ _|refine kD ?_|refine kA ?_ _));refine blk_far ?_ NB882_891.out _;(with_reducible repeat (first|refine kN ?_ _|refine kD ?_|refine kA ?_ _));refine blk_far ?_ NB882_891.out _;(with_reducible repeat (first|refine kN ?_ _|refine kD ?_|refine kA ?_ _));exact BK882.out)) (g:=gb883) (o:=.cells #[.int .i64 x884000_2,u884001,u884002] 32 (0,0)) (by (with_reducible repeat (first|refine kN ?_ _|refine kD ?_|refine kA ?_ _));refine blk_far ?_ NB883_891.out _;(with_reducible repeat (first|refine kN ?_ _|refine kD ?_|refine kA ?_ _));refine blk_far ?_ NB883_891.out _;(with_reducible repeat (first|refine kN ?_ _|refine kD ?_|refine kA ?_ _));refine blk_far ?_ NB883_891.out _;(with_reducible repeat (first|refine kN ?_ _|refine kD ?_|refine kA ?_ _));exact BK883.out)) (g:=gb891) (o:=.cells #[.int .i64 ((rd_T32 l0_2 x38_2).f0),.slice A890_1 ((rd_T32 l0_2 x38_2).f1).length c890_1,.slice A890_2 ((rd_T32 l0_2 x38_2).f2).length c890_2] 32 (0,0)) (by (with_reducible repeat (first|refine kN ?_ _|refine kD ?_|refine kA ?_ _));refine blk_put (cs:=#[.int .i64 ((rd_T32 l0_2 x38_2).f0),.slice A890_1 ((rd_T32 l0_2 x38_2).f1).length c890_1,.slice none 0 0]) ?_ 2 _ rfl;(with_reducible repeat (first|refine kN ?_ _|refine kD ?_|refine kA ?_ _));refine blk_put (cs:=#[.int .i64 ((rd_T32 l0_2 x38_2).f0),.slice none 0 0,.slice none 0 0]) ?_ 1 _ rfl;(with_reducible repeat (first|refine kN ?_ _|refine kD ?_|refine kA ?_ _));refine blk_put (cs:=#[.int .i64 0,.slice none 0 0,.slice none 0 0]) ?_ 0 _ rfl;(with_reducible repeat (first|refine kN ?_ _|refine kD ?_|refine kA ?_ _));exact BK891.out)) (below_size pB));have n4_:=Z (blk_below (g:=gb881) (o:=.cells #[.int .i64 a0_0,.slice A0_1 l0_1.length c0_1,.slice (some ad890) l0_2.length c0_2] 32 (0,0)) (by (with_reducible repeat (first|refine kN ?_ _|refine kD ?_|refine kA ?_ _));refine blk_far ?_ NB881_891.out _;(with_reducible repeat (first|refine kN ?_ _|refine kD ?_|refine kA ?_ _));refine blk_far ?_ NB881_891.out _;(with_reducible repeat (first|refine kN ?_ _|refine kD ?_|refine kA ?_ _));refine blk_far ?_ NB881_891.out _;(with_reducible repeat (first|refine kN ?_ _|refine kD ?_|refine kA ?_ _));exact BK881.out) hb);have n5_:=Z (blk_below (g:=gb882) (o:=.cells #[.int .i64 0,.slice none 0 0,.slice none 0 0] 32 (0,0)) (by (with_reducible repeat (first|refine kN ?_ _|refine kD ?_|refine kA ?_ _));refine blk_far ?_ NB882_891.out _;(with_reducible repeat (first|refine kN ?_ _|refine kD ?_|refine kA ?_ _));refine blk_far ?_ NB882_891.out _;(with_reducible repeat (first|refine kN ?_ _|refine kD ?_|refine kA ?_ _));refine blk_far ?_ NB882_891.out _;(with_reducible repeat (first|refine kN ?_ _|refine kD ?_|refine kA ?_ _));exact BK882.out) hb);have n6_:=Z (blk_below (g:=gb883) (o:=.cells #[.int .i64 x884000_2,u884001,u884002] 32 (0,0)) (by (with_reducible repeat (first|refine kN ?_ _|refine kD ?_|refine kA ?_ _));refine blk_far ?_ NB883_891.out _;(with_reducible repeat (first|refine kN ?_ _|refine kD ?_|refine kA ?_ _));refine blk_far ?_ NB883_891.out _;(with_reducible repeat (first|refine kN ?_ _|refine kD ?_|refine kA ?_ _));refine blk_far ?_ NB883_891.out _;(with_reducible repeat (first|refine kN ?_ _|refine kD ?_|refine kA ?_ _));exact BK883.out) hb);have n7_:=Z (blk_below (g:=gb891) (o:=.cells #[.int .i64 ((rd_T32 l0_2 x38_2).f0),.slice A890_1 ((rd_T32 l0_2 x38_2).f1).length c890_1,.slice A890_2 ((rd_T32 l0_2 x38_2).f2).length c890_2] 32 (0,0)) (by (with_reducible repeat (first|refine kN ?_ _|refine kD ?_|refine kA ?_ _));refine blk_put (cs:=#[.int .i64 ((rd_T32 l0_2 x38_2).f0),.slice A890_1 ((rd_T32 l0_2 x38_2).f1).length c890_1,.slice none 0 0]) ?_ 2 _ rfl;(with_reducible repeat (first|refine kN ?_ _|refine kD ?_|refine kA ?_ _));refine blk_put (cs:=#[.int .i64 ((rd_T32 l0_2 x38_2).f0),.slice none 0 0,.slice none 0 0]) ?_ 1 _ rfl;(with_reducible repeat (first|refine kN ?_ _|refine kD ?_|refine kA ?_ _));refine blk_put (cs:=#[.int .i64 0,.slice none 0 0,.slice none 0 0]) ?_ 0 _ rfl;(with_reducible repeat (first|refine kN ?_ _|refine kD ?_|refine kA ?_ _));exact BK891.out) hb);have n8_:=Z (below_step pB hb);clear HO_884001;clear HO_884002;clear BK881;clear BK882;clear BK883;clear BK891;clear HB;have HO_884001:=n0_;have HO_884002:=n1_;have HO895:=n2_;have HO898:=n3_;have BK881:=n4_;have BK882:=n5_;have BK883:=n6_;have BK891:=n7_;have HB:=n8_;clear n0_ n1_ n2_ n3_ n4_ n5_ n6_ n7_ n8_;(try clear hb);(try clear hb2);(try clear hk);(try clear hi);(try clear ho0);(try clear ho1);have hcz46_0:w45.cell? ⟨gb891,0,none⟩=some (.int .i64 ((rd_T32 l0_2 x38_2).f0)):=(kC BK891.out 0).trans rfl;have hcz46_1:w45.cell? ⟨gb891,1,none⟩=some (.slice A890_1 ((rd_T32 l0_2 x38_2).f1).length c890_1):=(kC BK891.out 1).trans rfl;have hcz46_2:w45.cell? ⟨gb891,2,none⟩=some (.slice A890_2 ((rd_T32 l0_2 x38_2).f2).length c890_2):=(kC BK891.out 2).trans rfl;have hfz46_0:=kF BK891.out 0;have hfz46_1:=kF BK891.out 1;have hfz46_2:=kF BK891.out 2;obtain ⟨Ao47,co47,eo47⟩:=Kd.R_slice HO895.out;subst eo47;obtain ⟨Ao48,co48,eo48⟩:=Kd.R_slice HO898.out;subst eo48;have hnb49:=NB883_881.out;have hnc49:=NB881_883.out;have hnb50:=NB883_882.out;have hnc50:=NB882_883.out;have hcz51_0:w45.cell? ⟨gb883,0,none⟩=some (.int .i64 x884000_2):=(kC BK883.out 0).trans rfl;have hcz51_1:w45.cell? ⟨gb883,1,none⟩=some (u884001):=(kC BK883.out 1).trans rfl;have hcz51_2:w45.cell? ⟨gb883,2,none⟩=some (u884002):=(kC BK883.out 2).trans rfl;have hfz51_0:=kF BK883.out 0;have hfz51_1:=kF BK883.out 1;have hfz51_2:=kF BK883.out 2)|((with_reducible refine gate_callee (f:=153) rfl ?_);refine goesL_ (some 50) rfl rfl Try.func153 (by kernel_rfl) rfl #[.int .i64 x884000_2,.int .i64 1] rfl pG ?_;(with_reducible refine (deletion_lowered.calls x884000_2 1 t899 _ A39.out).mono ?_);rintro e w52 ⟨rfl,hb⟩;refine ⟨_,rfl,?_⟩;have n0_:=Z (Kd.R_below (by (with_reducible repeat (first|apply Kd.R_alloc|apply Kd.R_drewN|apply Kd.R_drew));exact (Kd.R_mono (Kd.R_far (p:=⟨gb891,2,none⟩) (Kd.R_far (p:=⟨gb891,1,none⟩) (Kd.R_far (p:=⟨gb891,0,none⟩) (Kd.R_types HO_884001.out BK891.out (by decide)) (fun _ hk=>hk.2) (.int .i64 t892)) (fun _ hk=>hk.2) (.slice Ao47 t893.length co47)) (fun _ hk=>hk.2) (.slice Ao48 t896.length co48)) (fun _ h_=>h_.1))) hb);have n1_:=Z (Kd.R_below (by (with_reducible repeat (first|apply Kd.R_alloc|apply Kd.R_drewN|apply Kd.R_drew));exact (Kd.R_mono (Kd.R_far (p:=⟨gb891,2,none⟩) (Kd.R_far (p:=⟨gb891,1,none⟩) (Kd.R_far (p:=⟨gb891,0,none⟩) (Kd.R_mono HO_884002.out (fun k_ hk=>(⟨hk,hk.1.1.2⟩:_∧k_ ≠ gb891))) (fun _ hk=>hk.2) (.int .i64 t892)) (fun _ hk=>hk.2) (.slice Ao47 t893.length co47)) (fun _ hk=>hk.2) (.slice Ao48 t896.length co48)) (fun _ h_=>h_.1))) hb);have n2_:=Z (Kd.R_below (by (with_reducible repeat (first|apply Kd.R_alloc|apply Kd.R_drewN|apply Kd.R_drew));exact (Kd.R_mono (Kd.R_far (p:=⟨gb891,2,none⟩) (Kd.R_far (p:=⟨gb891,1,none⟩) (Kd.R_far (p:=⟨gb891,0,none⟩) (Kd.R_types HO895.out BK891.out (by decide)) (fun _ hk=>hk.2) (.int .i64 t892)) (fun _ hk=>hk.2) (.slice Ao47 t893.length co47)) (fun _ hk=>hk.2) (.slice Ao48 t896.length co48)) (fun _ h_=>h_.1))) hb);have n3_:=Z (Kd.R_below (by (with_reducible repeat (first|apply Kd.R_alloc|apply Kd.R_drewN|apply Kd.R_drew));exact (Kd.R_mono (Kd.R_far (p:=⟨gb891,2,none⟩) (Kd.R_far (p:=⟨gb891,1,none⟩) (Kd.R_far (p:=⟨gb891,0,none⟩) (Kd.R_mono HO898.out (fun k_ hk=>(⟨hk,hk.2⟩:_∧k_ ≠ gb891))) (fun _ hk=>hk.2) (.int .i64 t892)) (fun _ hk=>hk.2) (.slice Ao47 t893.length co47)) (fun _ hk=>hk.2) (.slice Ao48 t896.length co48)) (fun _ h_=>h_.1))) hb);have n4_:=Z (blk_below (g:=gb881) (o:=.cells #[.int .i64 a0_0,.slice A0_1 l0_1.length c0_1,.slice (some ad890) l0_2.length c0_2] 32 (0,0)) (by (with_reducible repeat (first|refine kN ?_ _|refine kD ?_|refine kA ?_ _));refine blk_far ?_ NB881_891.out _;(with_reducible repeat (first|refine kN ?_ _|refine kD ?_|refine kA ?_ _));refine blk_far ?_ NB881_891.out _;(with_reducible repeat (first|refine kN ?_ _|refine kD ?_|refine kA ?_ _));refine blk_far ?_ NB881_891.out _;(with_reducible repeat (first|refine kN ?_ _|refine kD ?_|refine kA ?_ _));exact BK881.out) hb);have n5_:=Z (blk_below (g:=gb882) (o:=.cells #[.int .i64 0,.slice none 0 0,.slice none 0 0] 32 (0,0)) (by (with_reducible repeat (first|refine kN ?_ _|refine kD ?_|refine kA ?_ _));refine blk_far ?_ NB882_891.out _;(with_reducible repeat (first|refine kN ?_ _|refine kD ?_|refine kA ?_ _));refine blk_far ?_ NB882_891.out _;(with_reducible repeat (first|refine kN ?_ _|refine kD ?_|refine kA ?_ _));refine blk_far ?_ NB882_891.out _;(with_reducible repeat (first|refine kN ?_ _|refine kD ?_|refine kA ?_ _));exact BK882.out) hb);have n6_:=Z (blk_below (g:=gb883) (o:=.cells #[.int .i64 x884000_2,u884001,u884002] 32 (0,0)) (by (with_reducible repeat (first|refine kN ?_ _|refine kD ?_|refine kA ?_ _));refine blk_far ?_ NB883_891.out _;(with_reducible repeat (first|refine kN ?_ _|refine kD ?_|refine kA ?_ _));refine blk_far ?_ NB883_891.out _;(with_reducible repeat (first|refine kN ?_ _|refine kD ?_|refine kA ?_ _));refine blk_far ?_ NB883_891.out _;(with_reducible repeat (first|refine kN ?_ _|refine kD ?_|refine kA ?_ _));exact BK883.out) hb);have n7_:=Z (blk_below (g:=gb891) (o:=.cells #[.int .i64 t892,.slice Ao47 t893.length co47,.slice Ao48 t896.length co48] 32 (0,0)) (by (with_reducible repeat (first|refine kN ?_ _|refine kD ?_|refine kA ?_ _));refine blk_put (cs:=#[.int .i64 t892,.slice Ao47 t893.length co47,.slice A890_2 ((rd_T32 l0_2 x38_2).f2).length c890_2]) ?_ 2 _ rfl;(with_reducible repeat (first|refine kN ?_ _|refine kD ?_|refine kA ?_ _));refine blk_put (cs:=#[.int .i64 t892,.slice A890_1 ((rd_T32 l0_2 x38_2).f1).length c890_1,.slice A890_2 ((rd_T32 l0_2 x38_2).f2).length c890_2]) ?_ 1 _ rfl;(with_reducible repeat (first|refine kN ?_ _|refine kD ?_|refine kA ?_ _));refine blk_put (cs:=#[.int .i64 ((rd_T32 l0_2 x38_2).f0),.slice A890_1 ((rd_T32 l0_2 x38_2).f1).length c890_1,.slice A890_2 ((rd_T32 l0_2 x38_2).f2).length c890_2]) ?_ 0 _ rfl;(with_reducible repeat (first|refine kN ?_ _|refine kD ?_|refine kA ?_ _));exact BK891.out) hb);have n8_:=Z (below_step pB hb);clear HO_884001;clear HO_884002;clear HO895;clear HO898;clear BK881;clear BK882;clear BK883;clear BK891;clear HB;have HO_884001:=n0_;have HO_884002:=n1_;have HO895:=n2_;have HO898:=n3_;have BK881:=n4_;have BK882:=n5_;have BK883:=n6_;have BK891:=n7_;have HB:=n8_;clear n0_ n1_ n2_ n3_ n4_ n5_ n6_ n7_ n8_;(try clear hb);(try clear hb2);(try clear hk);(try clear hi);have hcz53_0:w52.cell? ⟨gb883,0,none⟩=some (.int .i64 x884000_2):=(kC BK883.out 0).trans rfl;have hcz53_1:w52.cell? ⟨gb883,1,none⟩=some (u884001):=(kC BK883.out 1).trans rfl;have hcz53_2:w52.cell? ⟨gb883,2,none⟩=some (u884002):=(kC BK883.out 2).trans rfl;have hfz53_0:=kF BK883.out 0;have hfz53_1:=kF BK883.out 1;have hfz53_2:=kF BK883.out 2))
          go_roundg k2
          case measure=>have:=HK1.out;have:=HK2.out;omega
          case rel=>exact ⟨(wrap64 (x38_2+1)),(t899),(x884002_2),(u884002),pE,H',⟨by have:=HK1.out;have:=HK2.out;omega⟩,⟨by (with_reducible repeat (first|apply Kd.R_alloc|apply Kd.R_drewN|apply Kd.R_drew));exact Kd.R_mono (Kd.R_far (p:=⟨gb883,0,none⟩) (Kd.R_types HO_884001.out BK883.out (by decide)) (fun _ hk=>hk.2) (.int .i64 t899)) (fun _ hk=>trivial)⟩,⟨by (with_reducible repeat (first|apply Kd.R_alloc|apply Kd.R_drewN|apply Kd.R_drew));exact Kd.R_mono (Kd.R_far (p:=⟨gb883,0,none⟩) (Kd.R_mono HO_884002.out (fun k_ hk=>(⟨hk,hk.1.1.1.2.2.2⟩:_∧k_ ≠ gb883))) (fun _ hk=>hk.2) (.int .i64 t899)) (fun _ hk=>⟨hk.1.1.1.1.1,⟨hk.1.1.1.1.2.1,⟨hk.1.1.1.1.2.2.1,hk.1.1.1.1.2.2.2⟩⟩⟩)⟩,⟨by (with_reducible repeat (first|refine kN ?_ _|refine kD ?_|refine kA ?_ _));refine blk_far ?_ NB881_883.out _;(with_reducible repeat (first|refine kN ?_ _|refine kD ?_|refine kA ?_ _));exact BK881.out⟩,⟨by (with_reducible repeat (first|refine kN ?_ _|refine kD ?_|refine kA ?_ _));refine blk_far ?_ NB882_883.out _;(with_reducible repeat (first|refine kN ?_ _|refine kD ?_|refine kA ?_ _));exact BK882.out⟩,⟨by (with_reducible repeat (first|refine kN ?_ _|refine kD ?_|refine kA ?_ _));refine blk_put (cs:=#[.int .i64 x884000_2,u884001,u884002]) ?_ 0 _ rfl;(with_reducible repeat (first|refine kN ?_ _|refine kD ?_|refine kA ?_ _));exact BK883.out⟩,⟨pB⟩⟩
         ·rw [if_neg c38] at H
          have c38b0:(t892 == 0)=false:=beq_eq_false_iff_ne.mpr c38
          have c38b1:(t892 != 0)=true:=bne_iff_ne.mpr c38
          by_cases c54:x884002_2.length < 2513169434916
          ·rw [if_pos c54] at H
           have LMc54:=Z c54
           clear c54
           obtain ⟨y900,hy900⟩:∃ y_:List (S32),y_=(x884002_2++[(⟨t892,t893,t896⟩:S32)]):=⟨_,rfl⟩
           first|rw [← hy900] at H|(replace H:=(Option.bind_some _ _).symm.trans H;rw [← hy900] at H)
           have Ny900:=Z hy900
           clear hy900
           have H':=Z H
           clear H
           have p890:0≤(x38_2:Int):=of_decide_eq_true (by first|(with_reducible assumption)|assumption)
           have q890:x38_2 < (l0_2.length:Int):=of_decide_eq_true (by first|(with_reducible assumption)|assumption)
           obtain ⟨ad890,A890_1,c890_1,A890_2,c890_2,e890,hx890_0,hx890_1,hx890_2,hl890_1,hi890_1,hl890_2,hi890_2⟩:=at_T32 HR0_2.out x38_2 p890 q890
           cases e890
           replace hx890_0:=(HB.out.cell (World.block_lt_of_cell? w _ hx890_0)).trans hx890_0
           replace hx890_1:=(HB.out.cell (World.block_lt_of_cell? w _ hx890_1)).trans hx890_1
           replace hx890_2:=(HB.out.cell (World.block_lt_of_cell? w _ hx890_2)).trans hx890_2
           have HR890_1:=Z hi890_1
           have HC890_1:=Z hl890_1
           clear hi890_1 hl890_1
           have HR890_2:=Z hi890_2
           have HC890_2:=Z hl890_2
           clear hi890_2 hl890_2
           replace p890:=eq_true p890
           replace q890:=eq_true q890
           go_wp2_with (first|((with_reducible refine gate_dst (N:=9) rfl ?_);refine box_event ?hg (N:=9) ?hd (cs:=#[.int .i64 0,.slice none 0 0,.slice none 0 0]) (t:=32) ?hr ?_;(case hd=>rfl);(case hg=>rfl);(case hr=>first|(go_simp;done)|(go_simp;rfl));intro gb891 hg w55 hbox hb;have n0_:=Z (Kd.R_below (pR HO_884001) hb);have n1_:=Z (Kd.R_below (Kd.R_elderB (pR HO_884002) gb891 (Nat.le_of_eq hg.symm)) hb);have n2_:=Z (blk_below (g:=gb881) (o:=.cells #[.int .i64 a0_0,.slice A0_1 l0_1.length c0_1,.slice (some ad890) l0_2.length c0_2] 32 (0,0)) (pK BK881) hb);have n3_:=Z (blk_below (g:=gb882) (o:=.cells #[.int .i64 0,.slice none 0 0,.slice none 0 0] 32 (0,0)) (pK BK882) hb);have n4_:=Z (blk_below (g:=gb883) (o:=.cells #[.int .i64 x884000_2,u884001,u884002] 32 (0,0)) (pK BK883) hb);have n5_:=Z (below_step pB hb);have n6_:=Z (hbox);have n7_:=Z ((pT hg:w.heap.size≤gb891));have n8_:=Z ((pT hg:w.heap.size≤gb891));have n9_:=Z ((pL hg (pK BK881):gb881 ≠ gb891));have n10_:=Z ((pM hg (pK BK881):gb891 ≠ gb881));have n11_:=Z ((pL hg (pK BK882):gb882 ≠ gb891));have n12_:=Z ((pM hg (pK BK882):gb891 ≠ gb882));have n13_:=Z ((pL hg (pK BK883):gb883 ≠ gb891));have n14_:=Z ((pM hg (pK BK883):gb891 ≠ gb883));clear HO_884001;clear HO_884002;clear BK881;clear BK882;clear BK883;clear HB;have HO_884001:=n0_;have HO_884002:=n1_;have BK881:=n2_;have BK882:=n3_;have BK883:=n4_;have HB:=n5_;have BK891:=n6_;have GW891:=n7_;have GE891:=n8_;have NB881_891:=n9_;have NB891_881:=n10_;have NB882_891:=n11_;have NB891_882:=n12_;have NB883_891:=n13_;have NB891_883:=n14_;clear n0_ n1_ n2_ n3_ n4_ n5_ n6_ n7_ n8_ n9_ n10_ n11_ n12_ n13_ n14_;clear hb hbox hg;have hnb56:=NB891_881.out;have hnc56:=NB881_891.out;have hnb57:=NB891_882.out;have hnc57:=NB882_891.out;have hnb58:=NB891_883.out;have hnc58:=NB883_891.out;have hcz59_0:w55.cell? ⟨gb891,0,none⟩=some (.int .i64 0):=(kC BK891.out 0).trans rfl;have hcz59_1:w55.cell? ⟨gb891,1,none⟩=some (.slice none 0 0):=(kC BK891.out 1).trans rfl;have hcz59_2:w55.cell? ⟨gb891,2,none⟩=some (.slice none 0 0):=(kC BK891.out 2).trans rfl;have hfz59_0:=kF BK891.out 0;have hfz59_1:=kF BK891.out 1;have hfz59_2:=kF BK891.out 2)|((with_reducible refine gate_callee (f:=143) rfl ?_);refine goesL_ (some 44) rfl rfl Try.func143 (by kernel_rfl) rfl #[.agg #[.int .i64 ((rd_T32 l0_2 x38_2).f0),.slice A890_1 ((rd_T32 l0_2 x38_2).f1).length c890_1,.slice A890_2 ((rd_T32 l0_2 x38_2).f2).length c890_2],.int .i64 a1] rfl pG ?_;(with_reducible refine (ih k2 (by have:=HK1.out;have:=HK2.out;omega) ((rd_T32 l0_2 x38_2).f0) _ _ ((rd_T32 l0_2 x38_2).f1) _ _ ((rd_T32 l0_2 x38_2).f2) a1 t892 t893 t896 _ ?side1 ?side2 ?side3 ?side4 A37.out).mono ?_);(case side1=>exact Kd.C_below HR890_1.out pB);(case side2=>exact HC890_1.out);(case side3=>exact Kd.C_below HR890_2.out pB);(case side4=>exact HC890_2.out);rintro e w60 ⟨v894,v897,rfl,ho0,ho1,hb⟩;refine ⟨_,rfl,?_⟩;have n0_:=Z (Kd.R_elder' (by (with_reducible repeat (first|apply Kd.R_alloc|apply Kd.R_drewN|apply Kd.R_drew));exact (Kd.R_mono (Kd.R_far (p:=⟨gb891,2,none⟩) (Kd.R_far (p:=⟨gb891,1,none⟩) (Kd.R_far (p:=⟨gb891,0,none⟩) (Kd.R_types HO_884001.out BK891.out (by decide)) (fun _ hk=>hk.2) (.int .i64 ((rd_T32 l0_2 x38_2).f0))) (fun _ hk=>hk.2) (.slice A890_1 ((rd_T32 l0_2 x38_2).f1).length c890_1)) (fun _ hk=>hk.2) (.slice A890_2 ((rd_T32 l0_2 x38_2).f2).length c890_2)) (fun _ h_=>h_.1))) (Kd.R_base ho0) hb);have n1_:=Z (Kd.R_mono (Kd.R_told (Kd.R_told (Kd.R_old (by (with_reducible repeat (first|apply Kd.R_alloc|apply Kd.R_drewN|apply Kd.R_drew));exact (Kd.R_mono (Kd.R_far (p:=⟨gb891,2,none⟩) (Kd.R_far (p:=⟨gb891,1,none⟩) (Kd.R_far (p:=⟨gb891,0,none⟩) (Kd.R_mono HO_884002.out (fun k_ hk=>(⟨hk,hk.2⟩:_∧k_ ≠ gb891))) (fun _ hk=>hk.2) (.int .i64 ((rd_T32 l0_2 x38_2).f0))) (fun _ hk=>hk.2) (.slice A890_1 ((rd_T32 l0_2 x38_2).f1).length c890_1)) (fun _ hk=>hk.2) (.slice A890_2 ((rd_T32 l0_2 x38_2).f2).length c890_2)) (fun _ h_=>h_.1))) hb) (Kd.R_base ho0)) (Kd.R_base ho1)) (fun _ h_=>h_.1));have n2_:=Z (Kd.R_lower (Kd.R_new' ho0 (Kd.R_lt (by (with_reducible repeat (first|apply Kd.R_alloc|apply Kd.R_drewN|apply Kd.R_drew));exact (Kd.R_mono (Kd.R_far (p:=⟨gb891,2,none⟩) (Kd.R_far (p:=⟨gb891,1,none⟩) (Kd.R_far (p:=⟨gb891,0,none⟩) (Kd.R_types HO_884001.out BK891.out (by decide)) (fun _ hk=>hk.2) (.int .i64 ((rd_T32 l0_2 x38_2).f0))) (fun _ hk=>hk.2) (.slice A890_1 ((rd_T32 l0_2 x38_2).f1).length c890_1)) (fun _ hk=>hk.2) (.slice A890_2 ((rd_T32 l0_2 x38_2).f2).length c890_2)) (fun _ h_=>h_.1))))) (below_size pB));have n3_:=Z (Kd.R_lower (Kd.R_newB (Kd.R_newB (Kd.R_newB (Kd.R_newB (Kd.R_new' (Kd.R_new' ho1 (Kd.R_lt (by (with_reducible repeat (first|apply Kd.R_alloc|apply Kd.R_drewN|apply Kd.R_drew));exact (Kd.R_mono (Kd.R_far (p:=⟨gb891,2,none⟩) (Kd.R_far (p:=⟨gb891,1,none⟩) (Kd.R_far (p:=⟨gb891,0,none⟩) (Kd.R_types HO_884001.out BK891.out (by decide)) (fun _ hk=>hk.2) (.int .i64 ((rd_T32 l0_2 x38_2).f0))) (fun _ hk=>hk.2) (.slice A890_1 ((rd_T32 l0_2 x38_2).f1).length c890_1)) (fun _ hk=>hk.2) (.slice A890_2 ((rd_T32 l0_2 x38_2).f2).length c890_2)) (fun _ h_=>h_.1))))) (Kd.R_lt (by (with_reducible repeat (first|apply Kd.R_alloc|apply Kd.R_drewN|apply Kd.R_drew));exact (Kd.R_mono (Kd.R_far (p:=⟨gb891,2,none⟩) (Kd.R_far (p:=⟨gb891,1,none⟩) (Kd.R_far (p:=⟨gb891,0,none⟩) (Kd.R_mono HO_884002.out (fun k_ hk=>(⟨hk,hk.2⟩:_∧k_ ≠ gb891))) (fun _ hk=>hk.2) (.int .i64 ((rd_T32 l0_2 x38_2).f0))) (fun _ hk=>hk.2) (.slice A890_1 ((rd_T32 l0_2 x38_2).f1).length c890_1)) (fun _ hk=>hk.2) (.slice A890_2 ((rd_T32 l0_2 x38_2).f2).length c890_2)) (fun _ h_=>h_.1))))) (g:=gb881) (o:=.cells #[.int .i64 a0_0,.slice A0_1 l0_1.length c0_1,.slice (some ad890) l0_2.length c0_2] 32 (0,0)) (by (with_reducible repeat (first|refine kN ?_ _|refine kD ?_|refine kA ?_ _));refine blk_far ?_ NB881_891.out _;(with_reducible repeat (first|refine kN ?_ _|refine kD ?_|refine kA ?_ _));refine blk_far ?_ NB881_891.out _;(with_reducible repeat (first|refine kN ?_ _|refine kD ?_|refine kA ?_ _));refine blk_far ?_ NB881_891.out _;(with_reducible repeat (first|refine kN ?_ _|refine kD ?_|refine kA ?_ _));exact BK881.out)) (g:=gb882) (o:=.cells #[.int .i64 0,.slice none 0 0,.slice none 0 0] 32 (0,0)) (by (with_reducible repeat (first|refine kN ?_ _|refine kD ?_|refine kA ?_ _));refine blk_far ?_ NB882_891.out _;(with_reducible repeat (first|refine kN ?_ _|refine kD ?_|refine kA ?_ _));refine blk_far ?_ NB882_891.out _;(with_reducible repeat (first|refine kN ?_ _|refine kD ?_|refine kA ?_ _));refine blk_far ?_ NB882_891.out _;(with_reducible repeat (first|refine kN ?_ _|refine kD ?_|refine kA ?_ _));exact BK882.out)) (g:=gb883) (o:=.cells #[.int .i64 x884000_2,u884001,u884002] 32 (0,0)) (by (with_reducible repeat (first|refine kN ?_ _|refine kD ?_|refine kA ?_ _));refine blk_far ?_ NB883_891.out _;(with_reducible repeat (first|refine kN ?_ _|refine kD ?_|refine kA ?_ _));refine blk_far ?_ NB883_891.out _;(with_reducible repeat (first|refine kN ?_ _|refine kD ?_|refine kA ?_ _));refine blk_far ?_ NB883_891.out _;(with_reducible repeat (first|refine kN ?_ _|refine kD ?_|refine kA ?_ _));exact BK883.out)) (g:=gb891) (o:=.cells #[.int .i64 ((rd_T32 l0_2 x38_2).f0),.slice A890_1 ((rd_T32 l0_2 x38_2).f1).length c890_1,.slice A890_2 ((rd_T32 l0_2 x38_2).f2).length c890_2] 32 (0,0)) (by (with_reducible repeat (first|refine kN ?_ _|refine kD ?_|refine kA ?_ _));refine blk_put (cs:=#[.int .i64 ((rd_T32 l0_2 x38_2).f0),.slice A890_1 ((rd_T32 l0_2 x38_2).f1).length c890_1,.slice none 0 0]) ?_ 2 _ rfl;(with_reducible repeat (first|refine kN ?_ _|refine kD ?_|refine kA ?_ _));refine blk_put (cs:=#[.int .i64 ((rd_T32 l0_2 x38_2).f0),.slice none 0 0,.slice none 0 0]) ?_ 1 _ rfl;(with_reducible repeat (first|refine kN ?_ _|refine kD ?_|refine kA ?_ _));refine blk_put (cs:=#[.int .i64 0,.slice none 0 0,.slice none 0 0]) ?_ 0 _ rfl;(with_reducible repeat (first|refine kN ?_ _|refine kD ?_|refine kA ?_ _));exact BK891.out)) (below_size pB));have n4_:=Z (blk_below (g:=gb881) (o:=.cells #[.int .i64 a0_0,.slice A0_1 l0_1.length c0_1,.slice (some ad890) l0_2.length c0_2] 32 (0,0)) (by (with_reducible repeat (first|refine kN ?_ _|refine kD ?_|refine kA ?_ _));refine blk_far ?_ NB881_891.out _;(with_reducible repeat (first|refine kN ?_ _|refine kD ?_|refine kA ?_ _));refine blk_far ?_ NB881_891.out _;(with_reducible repeat (first|refine kN ?_ _|refine kD ?_|refine kA ?_ _));refine blk_far ?_ NB881_891.out _;(with_reducible repeat (first|refine kN ?_ _|refine kD ?_|refine kA ?_ _));exact BK881.out) hb);have n5_:=Z (blk_below (g:=gb882) (o:=.cells #[.int .i64 0,.slice none 0 0,.slice none 0 0] 32 (0,0)) (by (with_reducible repeat (first|refine kN ?_ _|refine kD ?_|refine kA ?_ _));refine blk_far ?_ NB882_891.out _;(with_reducible repeat (first|refine kN ?_ _|refine kD ?_|refine kA ?_ _));refine blk_far ?_ NB882_891.out _;(with_reducible repeat (first|refine kN ?_ _|refine kD ?_|refine kA ?_ _));refine blk_far ?_ NB882_891.out _;(with_reducible repeat (first|refine kN ?_ _|refine kD ?_|refine kA ?_ _));exact BK882.out) hb);have n6_:=Z (blk_below (g:=gb883) (o:=.cells #[.int .i64 x884000_2,u884001,u884002] 32 (0,0)) (by (with_reducible repeat (first|refine kN ?_ _|refine kD ?_|refine kA ?_ _));refine blk_far ?_ NB883_891.out _;(with_reducible repeat (first|refine kN ?_ _|refine kD ?_|refine kA ?_ _));refine blk_far ?_ NB883_891.out _;(with_reducible repeat (first|refine kN ?_ _|refine kD ?_|refine kA ?_ _));refine blk_far ?_ NB883_891.out _;(with_reducible repeat (first|refine kN ?_ _|refine kD ?_|refine kA ?_ _));exact BK883.out) hb);have n7_:=Z (blk_below (g:=gb891) (o:=.cells #[.int .i64 ((rd_T32 l0_2 x38_2).f0),.slice A890_1 ((rd_T32 l0_2 x38_2).f1).length c890_1,.slice A890_2 ((rd_T32 l0_2 x38_2).f2).length c890_2] 32 (0,0)) (by (with_reducible repeat (first|refine kN ?_ _|refine kD ?_|refine kA ?_ _));refine blk_put (cs:=#[.int .i64 ((rd_T32 l0_2 x38_2).f0),.slice A890_1 ((rd_T32 l0_2 x38_2).f1).length c890_1,.slice none 0 0]) ?_ 2 _ rfl;(with_reducible repeat (first|refine kN ?_ _|refine kD ?_|refine kA ?_ _));refine blk_put (cs:=#[.int .i64 ((rd_T32 l0_2 x38_2).f0),.slice none 0 0,.slice none 0 0]) ?_ 1 _ rfl;(with_reducible repeat (first|refine kN ?_ _|refine kD ?_|refine kA ?_ _));refine blk_put (cs:=#[.int .i64 0,.slice none 0 0,.slice none 0 0]) ?_ 0 _ rfl;(with_reducible repeat (first|refine kN ?_ _|refine kD ?_|refine kA ?_ _));exact BK891.out) hb);have n8_:=Z (below_step pB hb);clear HO_884001;clear HO_884002;clear BK881;clear BK882;clear BK883;clear BK891;clear HB;have HO_884001:=n0_;have HO_884002:=n1_;have HO895:=n2_;have HO898:=n3_;have BK881:=n4_;have BK882:=n5_;have BK883:=n6_;have BK891:=n7_;have HB:=n8_;clear n0_ n1_ n2_ n3_ n4_ n5_ n6_ n7_ n8_;(try clear hb);(try clear hb2);(try clear hk);(try clear hi);(try clear ho0);(try clear ho1);have hcz61_0:w60.cell? ⟨gb891,0,none⟩=some (.int .i64 ((rd_T32 l0_2 x38_2).f0)):=(kC BK891.out 0).trans rfl;have hcz61_1:w60.cell? ⟨gb891,1,none⟩=some (.slice A890_1 ((rd_T32 l0_2 x38_2).f1).length c890_1):=(kC BK891.out 1).trans rfl;have hcz61_2:w60.cell? ⟨gb891,2,none⟩=some (.slice A890_2 ((rd_T32 l0_2 x38_2).f2).length c890_2):=(kC BK891.out 2).trans rfl;have hfz61_0:=kF BK891.out 0;have hfz61_1:=kF BK891.out 1;have hfz61_2:=kF BK891.out 2;obtain ⟨Ao62,co62,eo62⟩:=Kd.R_slice HO895.out;subst eo62;obtain ⟨Ao63,co63,eo63⟩:=Kd.R_slice HO898.out;subst eo63)|((with_reducible refine gate_store (t:=32) (p:=9) rfl ?_);refine store_event (t:=32) (p:=9) (v:=?vo_w64) (w1:=(((w60.setCell ⟨gb891,0,none⟩ (.int .i64 t892)).setCell ⟨gb891,1,none⟩ (.slice Ao62 t893.length co62)).setCell ⟨gb891,2,none⟩ (.slice Ao63 t896.length co63))) ?hg ?ho ?hn ?hr ?_;(case ho=>rfl);(case hg=>rfl);(case hn=>rfl);(case hr=>first|(go_simp;done)|(go_simp;rfl));intro w64 hw;have n0_:Aside0 (Kd.R (Kd.int .i64) 3 w64 w.heap.size (fun k_=>some k_ ≠ (.slice Ao62 t893.length co62:Value).ownBlock) u884001 x884001_1):=⟨(by rw [hw];exact (by (with_reducible repeat (first|apply Kd.R_alloc|apply Kd.R_drewN|apply Kd.R_drew));exact Kd.R_mono (Kd.R_far (p:=⟨gb891,2,none⟩) (Kd.R_far (p:=⟨gb891,1,none⟩) (Kd.R_far (p:=⟨gb891,0,none⟩) (Kd.R_types HO_884001.out BK891.out (by decide)) (fun _ hk=>hk.2) (.int .i64 t892)) (fun _ hk=>hk.2) (.slice Ao62 t893.length co62)) (fun _ hk=>hk.2) (.slice Ao63 t896.length co63)) (fun _ hk=>hk.1.2)))⟩;have n1_:Aside0 (Kd.R k32 32 w64 w.heap.size (fun k_=>some k_ ≠ (u884001:Value).ownBlock∧some k_ ≠ (.slice Ao62 t893.length co62:Value).ownBlock∧some k_ ≠ (.slice Ao63 t896.length co63:Value).ownBlock∧k_ ≠ gb881∧k_ ≠ gb882∧k_ ≠ gb883∧k_ ≠ gb891) u884002 x884002_2):=⟨(by rw [hw];exact (by (with_reducible repeat (first|apply Kd.R_alloc|apply Kd.R_drewN|apply Kd.R_drew));exact Kd.R_mono (Kd.R_far (p:=⟨gb891,2,none⟩) (Kd.R_far (p:=⟨gb891,1,none⟩) (Kd.R_far (p:=⟨gb891,0,none⟩) (Kd.R_mono HO_884002.out (fun k_ hk=>(⟨hk,hk.1.1.2⟩:_∧k_ ≠ gb891))) (fun _ hk=>hk.2) (.int .i64 t892)) (fun _ hk=>hk.2) (.slice Ao62 t893.length co62)) (fun _ hk=>hk.2) (.slice Ao63 t896.length co63)) (fun _ hk=>⟨hk.1.1.1.1.1,⟨hk.1.1.2,⟨hk.1.2,⟨hk.1.1.1.1.2.1,⟨hk.1.1.1.1.2.2.1,⟨hk.1.1.1.1.2.2.2,hk.1.1.1.2⟩⟩⟩⟩⟩⟩)))⟩;have n2_:Aside0 (Kd.R (Kd.int .i64) 3 w64 w.heap.size (fun k_=>some k_ ≠ (u884001:Value).ownBlock) (.slice Ao62 t893.length co62) t893):=⟨(by rw [hw];exact (by (with_reducible repeat (first|apply Kd.R_alloc|apply Kd.R_drewN|apply Kd.R_drew));exact Kd.R_mono (Kd.R_far (p:=⟨gb891,2,none⟩) (Kd.R_far (p:=⟨gb891,1,none⟩) (Kd.R_far (p:=⟨gb891,0,none⟩) (Kd.R_types HO895.out BK891.out (by decide)) (fun _ hk=>hk.2) (.int .i64 t892)) (fun _ hk=>hk.2) (.slice Ao62 t893.length co62)) (fun _ hk=>hk.2) (.slice Ao63 t896.length co63)) (fun _ hk=>hk.1.2)))⟩;have n3_:Aside0 (Kd.R k32 32 w64 w.heap.size (fun k_=>some k_ ≠ (u884001:Value).ownBlock∧some k_ ≠ (u884002:Value).ownBlock∧some k_ ≠ (.slice Ao62 t893.length co62:Value).ownBlock∧k_ ≠ gb881∧k_ ≠ gb882∧k_ ≠ gb883∧k_ ≠ gb891) (.slice Ao63 t896.length co63) t896):=⟨(by rw [hw];exact (by (with_reducible repeat (first|apply Kd.R_alloc|apply Kd.R_drewN|apply Kd.R_drew));exact Kd.R_mono (Kd.R_far (p:=⟨gb891,2,none⟩) (Kd.R_far (p:=⟨gb891,1,none⟩) (Kd.R_far (p:=⟨gb891,0,none⟩) (Kd.R_mono HO898.out (fun k_ hk=>(⟨hk,hk.2⟩:_∧k_ ≠ gb891))) (fun _ hk=>hk.2) (.int .i64 t892)) (fun _ hk=>hk.2) (.slice Ao62 t893.length co62)) (fun _ hk=>hk.2) (.slice Ao63 t896.length co63)) (fun _ hk=>⟨hk.1.1.1.1.1.1.2,⟨hk.1.1.1.1.1.2,⟨hk.1.1.1.1.1.1.1,⟨hk.1.1.1.1.2,⟨hk.1.1.1.2,⟨hk.1.1.2,hk.1.2⟩⟩⟩⟩⟩⟩)))⟩;have n4_:Aside0 (w64.heap[gb881]?=some (.cells #[.int .i64 a0_0,.slice A0_1 l0_1.length c0_1,.slice (some ad890) l0_2.length c0_2] 32 (0,0))):=⟨(by rw [hw];exact (by (with_reducible repeat (first|refine kN ?_ _|refine kD ?_|refine kA ?_ _));refine blk_far ?_ NB881_891.out _;(with_reducible repeat (first|refine kN ?_ _|refine kD ?_|refine kA ?_ _));refine blk_far ?_ NB881_891.out _;(with_reducible repeat (first|refine kN ?_ _|refine kD ?_|refine kA ?_ _));refine blk_far ?_ NB881_891.out _;(with_reducible repeat (first|refine kN ?_ _|refine kD ?_|refine kA ?_ _));exact BK881.out))⟩;have n5_:Aside0 (w64.heap[gb882]?=some (.cells #[.int .i64 0,.slice none 0 0,.slice none 0 0] 32 (0,0))):=⟨(by rw [hw];exact (by (with_reducible repeat (first|refine kN ?_ _|refine kD ?_|refine kA ?_ _));refine blk_far ?_ NB882_891.out _;(with_reducible repeat (first|refine kN ?_ _|refine kD ?_|refine kA ?_ _));refine blk_far ?_ NB882_891.out _;(with_reducible repeat (first|refine kN ?_ _|refine kD ?_|refine kA ?_ _));refine blk_far ?_ NB882_891.out _;(with_reducible repeat (first|refine kN ?_ _|refine kD ?_|refine kA ?_ _));exact BK882.out))⟩;have n6_:Aside0 (w64.heap[gb883]?=some (.cells #[.int .i64 x884000_2,u884001,u884002] 32 (0,0))):=⟨(by rw [hw];exact (by (with_reducible repeat (first|refine kN ?_ _|refine kD ?_|refine kA ?_ _));refine blk_far ?_ NB883_891.out _;(with_reducible repeat (first|refine kN ?_ _|refine kD ?_|refine kA ?_ _));refine blk_far ?_ NB883_891.out _;(with_reducible repeat (first|refine kN ?_ _|refine kD ?_|refine kA ?_ _));refine blk_far ?_ NB883_891.out _;(with_reducible repeat (first|refine kN ?_ _|refine kD ?_|refine kA ?_ _));exact BK883.out))⟩;have n7_:Aside0 (w64.heap[gb891]?=some (.cells #[.int .i64 t892,.slice Ao62 t893.length co62,.slice Ao63 t896.length co63] 32 (0,0))):=⟨(by rw [hw];exact (by (with_reducible repeat (first|refine kN ?_ _|refine kD ?_|refine kA ?_ _));refine blk_put (cs:=#[.int .i64 t892,.slice Ao62 t893.length co62,.slice A890_2 ((rd_T32 l0_2 x38_2).f2).length c890_2]) ?_ 2 _ rfl;(with_reducible repeat (first|refine kN ?_ _|refine kD ?_|refine kA ?_ _));refine blk_put (cs:=#[.int .i64 t892,.slice A890_1 ((rd_T32 l0_2 x38_2).f1).length c890_1,.slice A890_2 ((rd_T32 l0_2 x38_2).f2).length c890_2]) ?_ 1 _ rfl;(with_reducible repeat (first|refine kN ?_ _|refine kD ?_|refine kA ?_ _));refine blk_put (cs:=#[.int .i64 ((rd_T32 l0_2 x38_2).f0),.slice A890_1 ((rd_T32 l0_2 x38_2).f1).length c890_1,.slice A890_2 ((rd_T32 l0_2 x38_2).f2).length c890_2]) ?_ 0 _ rfl;(with_reducible repeat (first|refine kN ?_ _|refine kD ?_|refine kA ?_ _));exact BK891.out))⟩;have n8_:Aside0 (Below w.heap.size w w64):=⟨(by rw [hw];exact pB)⟩;clear hw;clear HO_884001;clear HO_884002;clear HO895;clear HO898;clear BK881;clear BK882;clear BK883;clear BK891;clear HB;have HO_884001:=n0_;have HO_884002:=n1_;have HO895:=n2_;have HO898:=n3_;have BK881:=n4_;have BK882:=n5_;have BK883:=n6_;have BK891:=n7_;have HB:=n8_;clear n0_ n1_ n2_ n3_ n4_ n5_ n6_ n7_ n8_;have hcz65_0:w64.cell? ⟨gb891,0,none⟩=some (.int .i64 t892):=(kC BK891.out 0).trans rfl;have hcz65_1:w64.cell? ⟨gb891,1,none⟩=some (.slice Ao62 t893.length co62):=(kC BK891.out 1).trans rfl;have hcz65_2:w64.cell? ⟨gb891,2,none⟩=some (.slice Ao63 t896.length co63):=(kC BK891.out 2).trans rfl;have hfz65_0:=kF BK891.out 0;have hfz65_1:=kF BK891.out 1;have hfz65_2:=kF BK891.out 2;have hnb66:=NB883_881.out;have hnc66:=NB881_883.out;have hnb67:=NB883_882.out;have hnc67:=NB882_883.out;have hcz68_0:w64.cell? ⟨gb883,0,none⟩=some (.int .i64 x884000_2):=(kC BK883.out 0).trans rfl;have hcz68_1:w64.cell? ⟨gb883,1,none⟩=some (u884001):=(kC BK883.out 1).trans rfl;have hcz68_2:w64.cell? ⟨gb883,2,none⟩=some (u884002):=(kC BK883.out 2).trans rfl;have hfz68_0:=kF BK883.out 0;have hfz68_1:=kF BK883.out 1;have hfz68_2:=kF BK883.out 2)|((with_reducible refine gate_builtin (b:=.append) (xs:=#[.tmp 53,.tmp 55]) rfl ?_);at_builtin;refine Kd.R_append k32 (w0:=w) w.heap.size rfl (.tmp 53) (.tmp 55) 30 32 (.agg #[(.int .i64 0),(.slice none 0 0),(.slice none 0 0)]) 56 rfl Try.underlying30 info32 rfl (by decide) (by omega) u884002 x884002_2 (⟨t892,t893,t896⟩:S32) [.int .i64 t892,.slice Ao62 t893.length co62,.slice Ao63 t896.length co63] (fun k_=>some k_ ≠ (u884001:Value).ownBlock∧k_ ≠ gb881∧k_ ≠ gb882∧k_ ≠ gb883∧k_ ≠ gb891) (fun k_=>((fun k_=>some k_ ≠ (u884001:Value).ownBlock∧k_ ≠ gb881∧k_ ≠ gb882∧k_ ≠ gb883∧k_ ≠ gb891)) k_∧some k_ ≠ (u884002:Value).ownBlock) rfl rfl ?aP (fun _ hk=>hk) ?aF ?aO ?aB ?aS ?aL ?_;(case aP=>exact k32_mkM _ _ _ (⟨t892,t893,t896⟩:S32) (Kd.R_mono (Kd.R_types (Kd.R_types (Kd.R_types (Kd.R_types (Kd.R_apart' (HO895.out) (Kd.R_typed HO_884002.out) (by decide)) BK881.out (by decide)) BK882.out (by decide)) BK883.out (by decide)) BK891.out (by decide)) (fun k_ hk=>⟨⟨hk.1.1.1.1.1,⟨hk.1.1.1.2,⟨hk.1.1.2,⟨hk.1.2,hk.2⟩⟩⟩⟩,hk.1.1.1.1.2⟩)) (Kd.R_mono (HO898.out) (fun k_ hk=>⟨⟨hk.1,⟨hk.2.2.2.1,⟨hk.2.2.2.2.1,⟨hk.2.2.2.2.2.1,hk.2.2.2.2.2.2⟩⟩⟩⟩,hk.2.1⟩)));(case aB=>exact pB);(case aF=>exact (fun k_ hk=>⟨Kd.fresh' (Kd.R_lt (pR HO_884001)) k_ hk,Kd.freshB (g:=gb881) (o:=.cells #[.int .i64 a0_0,.slice A0_1 l0_1.length c0_1,.slice (some ad890) l0_2.length c0_2] 32 (0,0)) (pK BK881) k_ hk,Kd.freshB (g:=gb882) (o:=.cells #[.int .i64 0,.slice none 0 0,.slice none 0 0] 32 (0,0)) (pK BK882) k_ hk,Kd.freshB (g:=gb883) (o:=.cells #[.int .i64 x884000_2,u884001,u884002] 32 (0,0)) (pK BK883) k_ hk,Kd.freshB (g:=gb891) (o:=.cells #[.int .i64 t892,.slice Ao62 t893.length co62,.slice Ao63 t896.length co63] 32 (0,0)) (pK BK891) k_ hk⟩));(case aO=>exact (by (with_reducible repeat (first|apply Kd.R_alloc|apply Kd.R_drewN|apply Kd.R_drew));exact Kd.R_mono HO_884002.out (fun _ hk=>⟨hk.1,⟨hk.2.2.2.1,⟨hk.2.2.2.2.1,⟨hk.2.2.2.2.2.1,hk.2.2.2.2.2.2⟩⟩⟩⟩)));(case aS=>exact (below_size pB));(case aL=>have:=LMc54.out;omega);intro v901 w69 ho hb hg hat;rw [← Ny900.out] at ho;have n0_:=Z (Kd.R_over' (pR HO_884001) (Kd.R_typed (pR HO_884002)) (by decide) hg);have n1_:=Z (blk_grown (g:=gb881) (o:=.cells #[.int .i64 a0_0,.slice A0_1 l0_1.length c0_1,.slice (some ad890) l0_2.length c0_2] 32 (0,0)) (pK BK881) hg (Kd.R_away HO_884002.out (fun _ hk=>hk.2.2.2.1)));have n2_:=Z (blk_grown (g:=gb882) (o:=.cells #[.int .i64 0,.slice none 0 0,.slice none 0 0] 32 (0,0)) (pK BK882) hg (Kd.R_away HO_884002.out (fun _ hk=>hk.2.2.2.2.1)));have n3_:=Z (blk_grown (g:=gb883) (o:=.cells #[.int .i64 x884000_2,u884001,u884002] 32 (0,0)) (pK BK883) hg (Kd.R_away HO_884002.out (fun _ hk=>hk.2.2.2.2.2.1)));have n4_:=Z (blk_grown (g:=gb891) (o:=.cells #[.int .i64 t892,.slice Ao62 t893.length co62,.slice Ao63 t896.length co63] 32 (0,0)) (pK BK891) hg (Kd.R_away HO_884002.out (fun _ hk=>hk.2.2.2.2.2.2)));have n5_:=Z (hb);have n6_:=Z (ho);clear HO_884001;clear BK881;clear BK882;clear BK883;clear BK891;clear HB;clear HO_884002;clear HO895;clear HO898;have HO_884001:=n0_;have BK881:=n1_;have BK882:=n2_;have BK883:=n3_;have BK891:=n4_;have HB:=n5_;have HO902:=n6_;clear n0_ n1_ n2_ n3_ n4_ n5_ n6_;clear ho hb hg hat;obtain ⟨Ao70,co70,eo70⟩:=Kd.R_slice HO902.out;subst eo70;have hcz71_0:w69.cell? ⟨gb883,0,none⟩=some (.int .i64 x884000_2):=(kC BK883.out 0).trans rfl;have hcz71_1:w69.cell? ⟨gb883,1,none⟩=some (u884001):=(kC BK883.out 1).trans rfl;have hcz71_2:w69.cell? ⟨gb883,2,none⟩=some (u884002):=(kC BK883.out 2).trans rfl;have hfz71_0:=kF BK883.out 0;have hfz71_1:=kF BK883.out 1;have hfz71_2:=kF BK883.out 2))
           go_roundg k2
           case measure=>have:=HK1.out;have:=HK2.out;omega
           case rel=>exact ⟨(wrap64 (x38_2+1)),(x884000_2),(y900),(.slice Ao70 y900.length co70),pE,H',⟨by have:=HK1.out;have:=HK2.out;omega⟩,⟨by (with_reducible repeat (first|apply Kd.R_alloc|apply Kd.R_drewN|apply Kd.R_drew));exact Kd.R_mono (Kd.R_far (p:=⟨gb883,2,none⟩) (Kd.R_types HO_884001.out BK883.out (by decide)) (fun _ hk=>hk.2) (.slice Ao70 y900.length co70)) (fun _ hk=>trivial)⟩,⟨by (with_reducible repeat (first|apply Kd.R_alloc|apply Kd.R_drewN|apply Kd.R_drew));exact Kd.R_mono (Kd.R_far (p:=⟨gb883,2,none⟩) (Kd.R_mono HO902.out (fun k_ hk=>(⟨hk,hk.2.2.2.1⟩:_∧k_ ≠ gb883))) (fun _ hk=>hk.2) (.slice Ao70 y900.length co70)) (fun _ hk=>⟨hk.1.1,⟨hk.1.2.1,⟨hk.1.2.2.1,hk.1.2.2.2.1⟩⟩⟩)⟩,⟨by (with_reducible repeat (first|refine kN ?_ _|refine kD ?_|refine kA ?_ _));refine blk_far ?_ NB881_883.out _;(with_reducible repeat (first|refine kN ?_ _|refine kD ?_|refine kA ?_ _));exact BK881.out⟩,⟨by (with_reducible repeat (first|refine kN ?_ _|refine kD ?_|refine kA ?_ _));refine blk_far ?_ NB882_883.out _;(with_reducible repeat (first|refine kN ?_ _|refine kD ?_|refine kA ?_ _));exact BK882.out⟩,⟨by (with_reducible repeat (first|refine kN ?_ _|refine kD ?_|refine kA ?_ _));refine blk_put (cs:=#[.int .i64 x884000_2,u884001,u884002]) ?_ 2 _ rfl;(with_reducible repeat (first|refine kN ?_ _|refine kD ?_|refine kA ?_ _));exact BK883.out⟩,⟨pB⟩⟩
          ·rw [if_neg c54] at H
           exact absurd H (by simp)
        ·rw [if_neg c36] at H
         exact absurd H (by simp)
       ·rw [if_neg c35] at H
        exact absurd H (by simp)
      ·rw [if_neg c34] at H
       have c34b0:decide (x38_2 < (l0_2.length:Int))=false:=decide_eq_false c34
       clear c34
       simp only [Option.some.injEq,Prod.mk.injEq] at H
       obtain ⟨rfl,rfl,rfl⟩:=H
       have hnb72:=NB883_881.out
       have hnc72:=NB881_883.out
       have hnb73:=NB883_882.out
       have hnc73:=NB882_883.out
       have hcz74_0:wr.cell? ⟨gb883,0,none⟩=some (.int .i64 x884000_2):=(kC BK883.out 0).trans rfl
       have hcz74_1:wr.cell? ⟨gb883,1,none⟩=some (u884001):=(kC BK883.out 1).trans rfl
       have hcz74_2:wr.cell? ⟨gb883,2,none⟩=some (u884002):=(kC BK883.out 2).trans rfl
       have hfz74_0:=kF BK883.out 0
       have hfz74_1:=kF BK883.out 1
       have hfz74_2:=kF BK883.out 2
       have hnb75:=NB882_881.out
       have hnc75:=NB881_882.out
       have hcz76_0:wr.cell? ⟨gb882,0,none⟩=some (.int .i64 0):=(kC BK882.out 0).trans rfl
       have hcz76_1:wr.cell? ⟨gb882,1,none⟩=some (.slice none 0 0):=(kC BK882.out 1).trans rfl
       have hcz76_2:wr.cell? ⟨gb882,2,none⟩=some (.slice none 0 0):=(kC BK882.out 2).trans rfl
       have hfz76_0:=kF BK882.out 0
       have hfz76_1:=kF BK882.out 1
       have hfz76_2:=kF BK882.out 2
       obtain ⟨Ao77,co77,eo77⟩:=Kd.R_slice HO_884001.out
       subst eo77
       obtain ⟨Ao78,co78,eo78⟩:=Kd.R_slice HO_884002.out
       subst eo78
       go_wp2
       refine bodyPost_ret (results_cell_row rfl _ _ gb882 32 #[.int .i64 x884000_2,.slice Ao77 x884001_1.length co77,.slice Ao78 x884002_2.length co78] (0,0) _ rfl (by (with_reducible repeat (first|refine kN ?_ _|refine kD ?_|refine kA ?_ _));refine blk_put (cs:=#[.int .i64 x884000_2,.slice Ao77 x884001_1.length co77,.slice none 0 0]) ?_ 2 _ rfl;(with_reducible repeat (first|refine kN ?_ _|refine kD ?_|refine kA ?_ _));refine blk_put (cs:=#[.int .i64 x884000_2,.slice none 0 0,.slice none 0 0]) ?_ 1 _ rfl;(with_reducible repeat (first|refine kN ?_ _|refine kD ?_|refine kA ?_ _));refine blk_put (cs:=#[.int .i64 0,.slice none 0 0,.slice none 0 0]) ?_ 0 _ rfl;(with_reducible repeat (first|refine kN ?_ _|refine kD ?_|refine kA ?_ _));exact BK882.out) Try.underlying32 rfl (by kernel_rfl)) rfl ?_
       exact ⟨_,_,by first|rfl|(simp [errW_none,errW_some] <;> rfl)|(simp only [← hji3];first|rfl|(simp [errW_none,errW_some] <;> rfl))|(simp [*,errW_none,errW_some] <;> rfl),by (with_reducible repeat (first|apply Kd.R_alloc|apply Kd.R_drewN|apply Kd.R_drew));exact Kd.R_mono (Kd.R_far (p:=⟨gb882,2,none⟩) (Kd.R_far (p:=⟨gb882,1,none⟩) (Kd.R_far (p:=⟨gb882,0,none⟩) (Kd.R_types HO_884001.out BK882.out (by decide)) (fun _ hk=>hk.2) (.int .i64 x884000_2)) (fun _ hk=>hk.2) (.slice Ao77 x884001_1.length co77)) (fun _ hk=>hk.2) (.slice Ao78 x884002_2.length co78)) (fun _ hk=>trivial),by (with_reducible repeat (first|apply Kd.R_alloc|apply Kd.R_drewN|apply Kd.R_drew));exact Kd.R_mono (Kd.R_far (p:=⟨gb882,2,none⟩) (Kd.R_far (p:=⟨gb882,1,none⟩) (Kd.R_far (p:=⟨gb882,0,none⟩) (Kd.R_mono HO_884002.out (fun k_ hk=>(⟨hk,hk.2.2.1⟩:_∧k_ ≠ gb882))) (fun _ hk=>hk.2) (.int .i64 x884000_2)) (fun _ hk=>hk.2) (.slice Ao77 x884001_1.length co77)) (fun _ hk=>hk.2) (.slice Ao78 x884002_2.length co78)) (fun _ hk=>hk.1.1),pB⟩
end Go.Proofs.Ytkjlcbfjllpcnaa.X
namespace Go.Proofs.Ytkjlcbfjllpcnaa.X
open Go.RowKit Go.Proofs.YtkjlcbfjllpcnaaW.PrintWords Go.Proofs.YtkjlcbfjllpcnaaW.PrintLast Go.Proofs.YtkjlcbfjllpcnaaW.PrintMore
set_option linter.unusedVariables false
def deletion_copied.f (a0:Int) (a1:List Int) (a2:List S32):Option (Int × List Int × List S32):=if a1=[] then (if a2=[] then some (a0,[],[]) else none) else none
theorem step_append_void {P:Program} {ops:Array Oper} {o:Oper} {a:Act} {w:World} {K:Act→World→Prop} {Q:Exit→Act→World→Prop} {E:Prop} (hg:o.guard=none) (s x:Operand) (t e:TypeId)
  (hop:o.op=Op.call { callee:=Callee.builtin Builtin.append,args:=#[s,x],argTypes:=#[t,t] }) (ht:P.underlying t=some (.slice e)) (i:TypeInfo) (hi:P.info? e=some i) (A:Option Addr) (c:Nat) (hs:a.eval s=.slice none 0 0) (hx:a.eval x=.slice A 0 c)
  (hK:K (a.put o.dst (.slice none 0 0)) w):if Region.wanted o (yielded ops a.tmps)=true then Oper.wp P o a w K Q else E:=by
 have hw:Region.wanted o (yielded ops a.tmps)=true:=by simp [Region.wanted,hg]
 rw [if_pos hw]
 have hrun:(Builtin.append_ #[t,t] o.type #[.slice none 0 0,.slice A 0 c]).run P w=.ok (.slice none 0 0) w:=by
  cases A <;> simp [Builtin.append_,run_underlying ht,sizeOf,typeInfo,hi,Builtin.lenOf,Builtin.firstCells,loadCells,loadCellsFrom]
 unfold Oper.wp
 simp [execOp,hop,resolve,invoke,builtin,hs,hx,hrun,Result.andThen]
 exact hK
set_option maxHeartbeats 4000000 in
theorem deletion_copied.calls (a0_0:Int) (A0_1:Option Addr) (c0_1:Nat) (l0_1:List Int) (A0_2:Option Addr) (c0_2:Nat) (l0_2:List (S32)) (r1:Int) (r2:List Int) (r3:List S32) (w:World) (hr0_1:Kd.C (Kd.int .i64) w A0_1 l0_1.length l0_1) (hc0_1:l0_1.length≤c0_1) (hr0_2:Kd.C k32 w A0_2 l0_2.length l0_2) (hc0_2:l0_2.length≤c0_2) (h:deletion_copied.f a0_0 l0_1 l0_2=some (r1,r2,r3)):Calls Try.prog 123 #[.agg #[.int .i64 a0_0,.slice A0_1 l0_1.length c0_1,.slice A0_2 l0_2.length c0_2]] w fun e w'=>∃ v1_ v2_:Value,e=.returned (.agg #[.int .i64 r1,v1_,v2_])∧Kd.R (Kd.int .i64) 3 w' w.heap.size (fun _=>True) v1_ r2∧Kd.R k32 32 w' w.heap.size (fun k_=>some k_ ≠ (v1_:Value).ownBlock) v2_ r3∧Below w.heap.size w w':=by
 unfold deletion_copied.f at h
 by_cases h1:l0_1=[]
 case neg=>rw [if_neg h1] at h;cases h
 by_cases h2:l0_2=[]
 case neg=>rw [if_pos h1,if_neg h2] at h;cases h
 rw [if_pos h1,if_pos h2] at h
 simp only [Option.some.injEq,Prod.mk.injEq] at h
 obtain ⟨rfl,rfl,rfl⟩:=h
 subst h1
 subst h2
 have hu32:=Try.underlying32
 have hu27:=Try.underlying27
 have hu3:=Try.underlying3
 have hu22:=Try.underlying22
 clear hr0_1 hr0_2
 simp only [List.length_nil] at hc0_1 hc0_2 ⊢
 go_enter Try.func123,Try.ntmps123
 obtain ⟨i3,hi3,_⟩:=Option.map_eq_some_iff.1 info3
 go_wp2
 go_region_law (refine step_append_void rfl _ (.tmp 9) 22 3 rfl Try.underlying22 i3 hi3 A0_1 c0_1 rfl (by simp [Act.eval,Act.put]) ?_)
 all_goals
  obtain ⟨W,hW⟩:∃ W,W=(((w.alloc (.cells #[.int .i64 a0_0,.slice A0_1 0 c0_1,.slice A0_2 0 c0_2] 32)).alloc (.cells #[.int .i64 0,.slice none 0 0,.slice none 0 0] 32)).alloc (.cells #[.int .i64 a0_0,.slice none 0 0,.slice none 0 0] 32)).drew:=⟨_,rfl⟩
  rw [← hW]
  have hs0:W.heap[w.heap.size]?=some (.cells #[.int .i64 a0_0,.slice A0_1 0 c0_1,.slice A0_2 0 c0_2] 32 (0,0)):=by rw [hW];exact kD (kA (kA (heap_alloc_new _ _) _) _)
  have hs1:W.heap[w.heap.size+1]?=some (.cells #[.int .i64 0,.slice none 0 0,.slice none 0 0] 32 (0,0)):=by rw [hW,show w.heap.size+1=(w.alloc (.cells #[.int .i64 a0_0,.slice A0_1 0 c0_1,.slice A0_2 0 c0_2] 32)).heap.size by simp];exact kD (kA (heap_alloc_new _ _) _)
  have hs2:W.heap[w.heap.size+1+1]?=some (.cells #[.int .i64 a0_0,.slice none 0 0,.slice none 0 0] 32 (0,0)):=by rw [hW,show w.heap.size+1+1=((w.alloc (.cells #[.int .i64 a0_0,.slice A0_1 0 c0_1,.slice A0_2 0 c0_2] 32)).alloc (.cells #[.int .i64 0,.slice none 0 0,.slice none 0 0] 32)).heap.size by simp];exact kD (heap_alloc_new _ _)
  have hb:RowKit.Below w.heap.size w W:=by rw [hW];exact wD (wA (wA (wA (Below.refl _ _) _) _) _)
  clear hW
  have c0:=kC hs0 2
  have c1:=kC hs1 0
  have c2:=kC hs1 1
  have c3:=kC hs1 2
  have d1:=kC hs2 0
  have d2:=kC hs2 1
  have d3:=kC hs2 2
  have f1:=kF hs1 0
  have f2:=kF hs1 1
  have f3:=kF hs1 2
  go_wp2
  go_loopw [15] (fun i wr=>i=.int .i64 0∧wr=W) (fun _ _=>0)
  case atStart=>exact ⟨rfl,rfl⟩
  case round =>
   obtain ⟨rfl,rfl⟩:=hrel
   go_wp2
   refine bodyPost_ret (results_cell_row rfl _ _ (w.heap.size+1) 32 #[.int .i64 a0_0,.slice none 0 0,.slice none 0 0] (0,0) _ rfl ?_ Try.underlying32 rfl (by kernel_rfl)) rfl ?_
   ·refine blk_put (cs:=#[.int .i64 a0_0,.slice none 0 0,.slice none 0 0]) ?_ 2 _ rfl
    refine blk_put (cs:=#[.int .i64 a0_0,.slice none 0 0,.slice none 0 0]) ?_ 1 _ rfl
    exact blk_put (cs:=#[.int .i64 0,.slice none 0 0,.slice none 0 0]) hs1 0 _ rfl
   ·exact ⟨_,_,rfl,Kd.R_nil _ _ _ _ _,Kd.R_nil _ _ _ _ _,wS (wS (wS hb (by omega)) (by omega)) (by omega)⟩
end Go.Proofs.Ytkjlcbfjllpcnaa.X
