/- Proof of the statement DangerSplitting: part 4 of 9, what it computes and why that answers true. -/
import Derived.Test.YtkjlcbfjllpcnaaGreatQ13
import Derived.Deep.MidRow
import Derived.LoopN
import Derived.Great.BuildSlice
import Derived.Maps.AppendAt
import Derived.Orders
import Derived.Laws.CopyOwn
set_option linter.unusedVariables false
set_option linter.unusedSimpArgs false
namespace Go.Proofs.YtkjlcbfjllpcnaaGreat.X
open Go.RowKit Go.Proofs.YtkjlcbfjllpcnaaGreatW.PrintWords Go.Proofs.YtkjlcbfjllpcnaaGreatW.PrintLast Go.Proofs.YtkjlcbfjllpcnaaGreatW.PrintMore
attribute [local go_sem] max2_int min2_int max_two min_two max_three min_three max_four min_four
set_option linter.unusedVariables false
set_option linter.unusedSimpArgs false
def configuration_Declared.l0:Nat→Int→List (S92)→Int→Int→Option (Int)
 | 0,_,_,_,_=>none
 | k+1,x3,x7,x8,x9=>if x9 < x8 then (if 0≤x9 then (if x9 < (x7.length:Int) then (if (rd_T92 x7 x9).f0=true then (if x9 < 10 then (configuration_Declared.l0 k (Go.bits .or .i64 x3 (shl .i64 1 x9)) x7 x8 (wrap64 (x9+1))) else (configuration_Declared.l0 k x3 x7 x8 (wrap64 (x9+1)))) else (configuration_Declared.l0 k x3 x7 x8 (wrap64 (x9+1)))) else (none)) else (none)) else (some x3)
def configuration_Declared.f (k:Nat) (l0_0:List (S92)):Option (Int):=configuration_Declared.l0 k 0 l0_0 (l0_0.length:Int) 0
set_option maxHeartbeats 8000000 in
set_option maxRecDepth 100000 in
theorem configuration_Declared.calls (k:Nat) (A0_0:Option Addr) (c0_0:Nat) (l0_0:List (S92)) (r:Int) (w:World) (hr0_0:Kd.C k92 w A0_0 l0_0.length l0_0) (hc0_0:l0_0.length≤c0_0) (h:configuration_Declared.f k l0_0=some r) :
  Calls Tryz.prog 102 #[.agg #[.slice A0_0 l0_0.length c0_0]] w fun e w'=>e=.returned (.int .i64 r)∧Below w.heap.size w w':=by
 have hu25:=Tryz.underlying25
 have hu92:=Tryz.underlying92
 have HR0_0:=Z hr0_0
 have HC0_0:=Z hc0_0
 clear hr0_0 hc0_0
 have HB:=Z (Below.refl w.heap.size w)
 have H:(configuration_Declared.l0 k 0 l0_0 (l0_0.length:Int) 0)=some r:=h
 clear h
 have H':=Z H
 clear H
 go_enter Tryz.func102,Tryz.ntmps102
 go_wp2_with (first|((with_reducible refine gate_dst (N:=1) rfl ?_);refine box_event ?hg (N:=1) ?hd (cs:=#[.slice A0_0 l0_0.length c0_0]) (t:=25) ?hr ?_;(case hd=>rfl);(case hg=>rfl);(case hr=>first|(go_simp;done)|(go_simp;rfl));intro gb153 hg w2 hbox hb;have n0_:=Z (below_step pB hb);have BK153:=Z (hbox);have GW153:=Z ((pT hg:w.heap.size≤gb153));have GE153:=Z ((pT hg:w.heap.size≤gb153));clear HB;have HB:=n0_;clear n0_ hb hbox hg;obtain ⟨hcz3_0,hfz3_0⟩:=p1 BK153))
 go_loopg [3,9] k (fun kq v3 v9 w'=>∃ (x3_1:Int) (x9_1:Int),v3=.int .i64 x3_1∧v9=.int .i64 x9_1∧Aside0 (configuration_Declared.l0 kq x3_1 l0_0 (l0_0.length:Int) x9_1=some r)∧Aside0 (kq≤k)∧Aside0 (w'.heap[gb153]?=some (.cells #[(.slice A0_0 l0_0.length c0_0)] 25 (0,0)))∧Aside0 (Below w.heap.size w w'))
 case atStart=>exact ⟨(0),(0),pE,pE,H',⟨Nat.le_refl _⟩,⟨pK BK153⟩,⟨pB⟩⟩
 case round =>
  clear H'
  try clear c1
  try clear p2
  try clear hcz3_0
  try clear hfz3_0
  obtain ⟨x3_1,x9_1,rfl,rfl,HA,HK1,BK153,HB⟩:=hrel
  cases gk with
  | zero=>exact absurd HA.out (by simp [configuration_Declared.l0])
  | succ k1 =>
   have H:=HA.out
   clear HA
   simp only [configuration_Declared.l0] at H
   by_cases c4:x9_1 < (l0_0.length:Int)
   ·rw [if_pos c4] at H
    have c4b0:decide (x9_1 < (l0_0.length:Int))=true:=decide_eq_true c4
    clear c4
    by_cases c5:0≤x9_1
    ·rw [if_pos c5] at H
     have c5b0:decide (0≤x9_1)=true:=decide_eq_true c5
     clear c5
     by_cases c6:x9_1 < (l0_0.length:Int)
     ·rw [if_pos c6] at H
      have c6b0:decide (x9_1 < (l0_0.length:Int))=true:=decide_eq_true c6
      clear c6
      obtain ⟨bq7,hbq7⟩:∃ b_:Bool,b_=((rd_T92 l0_0 x9_1).f0):=⟨_,rfl⟩
      replace H:(if bq7=true then (if x9_1 < 10 then (configuration_Declared.l0 k1 (Go.bits .or .i64 x3_1 (shl .i64 1 x9_1)) l0_0 (l0_0.length:Int) (wrap64 (x9_1+1))) else (configuration_Declared.l0 k1 x3_1 l0_0 (l0_0.length:Int) (wrap64 (x9_1+1)))) else (configuration_Declared.l0 k1 x3_1 l0_0 (l0_0.length:Int) (wrap64 (x9_1+1))))=some r:=by rw [← hbq7] at H;exact H
      have Nbq7:=Z hbq7
      clear hbq7
      by_cases c8:bq7=true
      ·subst c8
       rw [if_pos rfl] at H
       by_cases c9:x9_1 < 10
       ·rw [if_pos c9] at H
        have c9b0:decide (x9_1 < 10)=true:=decide_eq_true c9
        clear c9
        have c10b0:=eq_true (of_decide_eq_true pA:0≤x9_1)
        obtain ⟨ji11,hji11⟩:∃ j_:Int,(shl .i64 1 x9_1)=j_:=⟨_,rfl⟩
        replace H:(configuration_Declared.l0 k1 (Go.bits .or .i64 x3_1 (ji11)) l0_0 (l0_0.length:Int) (wrap64 (x9_1+1)))=some r:=by first|(rw [hji11] at H;exact H)|(simp only [hji11] at H ⊢;exact H)
        have hji11_:(IntKind.i64.wrap (1 * 2 ^ min x9_1.toNat 64))=ji11:=hji11
        have hji11z:x9_1≤64→(IntKind.i64.wrap (1 * 2 ^ x9_1.toNat))=ji11:=shl_small hji11
        have hji11u:(IntKind.i64.wrap (2 ^ min x9_1.toNat 64))=ji11:=by have h_:=hji11_;rw [Int.one_mul] at h_;exact h_
        have hji11v:x9_1≤64→(IntKind.i64.wrap (2 ^ x9_1.toNat))=ji11:=fun hle_=>by have h_:=hji11z hle_;rw [Int.one_mul] at h_;exact h_
        have hji11y:(wrap64 (1 * 2 ^ min x9_1.toNat 64))=ji11:=(i64_w _).symm.trans hji11_
        have hji11x:x9_1≤64→(wrap64 (1 * 2 ^ x9_1.toNat))=ji11:=fun h_=>(i64_w _).symm.trans (hji11z h_)
        have H':=Z H
        clear H
        have p154:0≤(x9_1:Int):=of_decide_eq_true pA
        have q154:x9_1 < (l0_0.length:Int):=of_decide_eq_true pA
        obtain ⟨ad154,A154_2,c154_2,A154_3,c154_3,e154,hx154_0,hx154_1,hx154_2,hx154_3,hl154_2,hi154_2,hl154_3,hi154_3⟩:=at_T92 HR0_0.out x9_1 p154 q154
        (try rw [← Nbq7.out] at hx154_0)
        cases e154
        replace hx154_0:=pX HB hx154_0
        replace hx154_1:=pX HB hx154_1
        replace hx154_2:=pX HB hx154_2
        replace hx154_3:=pX HB hx154_3
        have HR154_2:=Z hi154_2
        have HC154_2:=Z hl154_2
        clear hi154_2 hl154_2
        have HR154_3:=Z hi154_3
        have HC154_3:=Z hl154_3
        clear hi154_3 hl154_3
        replace p154:=eq_true p154
        replace q154:=eq_true q154
        go_wp2_with (first|((with_reducible refine gate_dst (N:=5) rfl ?_);refine box_event ?hg (N:=5) ?hd (cs:=#[.bool false,.int .i64 0,.slice none 0 0,.slice none 0 0]) (t:=92) ?hr ?_;(case hd=>rfl);(case hg=>rfl);(case hr=>first|(go_simp;done)|(go_simp;rfl));intro gb155 hg w12 hbox hb;have n0_:=Z (blk_below (g:=gb153) (o:=.cells #[.slice (some ad154) l0_0.length c0_0] 25 (0,0)) (pK BK153) hb);have n1_:=Z (below_step pB hb);have BK155:=Z (hbox);have GW155:=Z ((pT hg:w.heap.size≤gb155));have GE155:=Z ((pT hg:w.heap.size≤gb155));have NB153_155:=Z ((pL hg (pK BK153):gb153 ≠ gb155));have NB155_153:=Z ((pM hg (pK BK153):gb155 ≠ gb153));clear BK153 HB;have BK153:=n0_;have HB:=n1_;clear n0_ n1_ hb hbox hg;have hnb13:=NB155_153.out;have hnc13:=NB153_155.out;obtain ⟨hcz14_0,hcz14_1,hcz14_2,hcz14_3,hfz14_0,hfz14_1,hfz14_2,hfz14_3⟩:=p4 BK155))
        go_roundg k1
        case measure=>have:=HK1.out;omega
        case rel=>exact ⟨(Go.bits .or .i64 x3_1 (ji11)),(wrap64 (x9_1+1)),(by first|exact pE|(simp only [← hji11] <;> (first|rfl|simp))),pE,H',⟨by have:=HK1.out;omega⟩,⟨by refine pQ ?_;refine blk_far ?_ NB153_155.out _;refine pQ ?_;refine blk_far ?_ NB153_155.out _;refine pQ ?_;refine blk_far ?_ NB153_155.out _;refine pQ ?_;refine blk_far ?_ NB153_155.out _;exact pK BK153⟩,⟨pB⟩⟩
       ·rw [if_neg c9] at H
        have c9b0:decide (x9_1 < 10)=false:=decide_eq_false c9
        clear c9
        have H':=Z H
        clear H
        have p154:0≤(x9_1:Int):=of_decide_eq_true pA
        have q154:x9_1 < (l0_0.length:Int):=of_decide_eq_true pA
        obtain ⟨ad154,A154_2,c154_2,A154_3,c154_3,e154,hx154_0,hx154_1,hx154_2,hx154_3,hl154_2,hi154_2,hl154_3,hi154_3⟩:=at_T92 HR0_0.out x9_1 p154 q154
        (try rw [← Nbq7.out] at hx154_0)
        cases e154
        replace hx154_0:=pX HB hx154_0
        replace hx154_1:=pX HB hx154_1
        replace hx154_2:=pX HB hx154_2
        replace hx154_3:=pX HB hx154_3
        have HR154_2:=Z hi154_2
        have HC154_2:=Z hl154_2
        clear hi154_2 hl154_2
        have HR154_3:=Z hi154_3
        have HC154_3:=Z hl154_3
        clear hi154_3 hl154_3
        replace p154:=eq_true p154
        replace q154:=eq_true q154
        go_wp2_with (first|((with_reducible refine gate_dst (N:=5) rfl ?_);refine box_event ?hg (N:=5) ?hd (cs:=#[.bool false,.int .i64 0,.slice none 0 0,.slice none 0 0]) (t:=92) ?hr ?_;(case hd=>rfl);(case hg=>rfl);(case hr=>first|(go_simp;done)|(go_simp;rfl));intro gb155 hg w15 hbox hb;have n0_:=Z (blk_below (g:=gb153) (o:=.cells #[.slice (some ad154) l0_0.length c0_0] 25 (0,0)) (pK BK153) hb);have n1_:=Z (below_step pB hb);have BK155:=Z (hbox);have GW155:=Z ((pT hg:w.heap.size≤gb155));have GE155:=Z ((pT hg:w.heap.size≤gb155));have NB153_155:=Z ((pL hg (pK BK153):gb153 ≠ gb155));have NB155_153:=Z ((pM hg (pK BK153):gb155 ≠ gb153));clear BK153 HB;have BK153:=n0_;have HB:=n1_;clear n0_ n1_ hb hbox hg;have hnb16:=NB155_153.out;have hnc16:=NB153_155.out;obtain ⟨hcz17_0,hcz17_1,hcz17_2,hcz17_3,hfz17_0,hfz17_1,hfz17_2,hfz17_3⟩:=p4 BK155))
        go_roundg k1
        case measure=>have:=HK1.out;omega
        case rel=>exact ⟨(x3_1),(wrap64 (x9_1+1)),pE,pE,H',⟨by have:=HK1.out;omega⟩,⟨by refine pQ ?_;refine blk_far ?_ NB153_155.out _;refine pQ ?_;refine blk_far ?_ NB153_155.out _;refine pQ ?_;refine blk_far ?_ NB153_155.out _;refine pQ ?_;refine blk_far ?_ NB153_155.out _;exact pK BK153⟩,⟨pB⟩⟩
      ·replace c8:=Bool.eq_false_iff.mpr c8
       subst c8
       rw [if_neg (show ¬ (false=true) by decide)] at H
       have H':=Z H
       clear H
       have p154:0≤(x9_1:Int):=of_decide_eq_true pA
       have q154:x9_1 < (l0_0.length:Int):=of_decide_eq_true pA
       obtain ⟨ad154,A154_2,c154_2,A154_3,c154_3,e154,hx154_0,hx154_1,hx154_2,hx154_3,hl154_2,hi154_2,hl154_3,hi154_3⟩:=at_T92 HR0_0.out x9_1 p154 q154
       (try rw [← Nbq7.out] at hx154_0)
       cases e154
       replace hx154_0:=pX HB hx154_0
       replace hx154_1:=pX HB hx154_1
       replace hx154_2:=pX HB hx154_2
       replace hx154_3:=pX HB hx154_3
       have HR154_2:=Z hi154_2
       have HC154_2:=Z hl154_2
       clear hi154_2 hl154_2
       have HR154_3:=Z hi154_3
       have HC154_3:=Z hl154_3
       clear hi154_3 hl154_3
       replace p154:=eq_true p154
       replace q154:=eq_true q154
       go_wp2_with (first|((with_reducible refine gate_dst (N:=5) rfl ?_);refine box_event ?hg (N:=5) ?hd (cs:=#[.bool false,.int .i64 0,.slice none 0 0,.slice none 0 0]) (t:=92) ?hr ?_;(case hd=>rfl);(case hg=>rfl);(case hr=>first|(go_simp;done)|(go_simp;rfl));intro gb155 hg w18 hbox hb;have n0_:=Z (blk_below (g:=gb153) (o:=.cells #[.slice (some ad154) l0_0.length c0_0] 25 (0,0)) (pK BK153) hb);have n1_:=Z (below_step pB hb);have BK155:=Z (hbox);have GW155:=Z ((pT hg:w.heap.size≤gb155));have GE155:=Z ((pT hg:w.heap.size≤gb155));have NB153_155:=Z ((pL hg (pK BK153):gb153 ≠ gb155));have NB155_153:=Z ((pM hg (pK BK153):gb155 ≠ gb153));clear BK153 HB;have BK153:=n0_;have HB:=n1_;clear n0_ n1_ hb hbox hg;have hnb19:=NB155_153.out;have hnc19:=NB153_155.out;obtain ⟨hcz20_0,hcz20_1,hcz20_2,hcz20_3,hfz20_0,hfz20_1,hfz20_2,hfz20_3⟩:=p4 BK155))
       go_roundg k1
       case measure=>have:=HK1.out;omega
       case rel=>exact ⟨(x3_1),(wrap64 (x9_1+1)),pE,pE,H',⟨by have:=HK1.out;omega⟩,⟨by refine pQ ?_;refine blk_far ?_ NB153_155.out _;refine pQ ?_;refine blk_far ?_ NB153_155.out _;refine pQ ?_;refine blk_far ?_ NB153_155.out _;refine pQ ?_;refine blk_far ?_ NB153_155.out _;exact pK BK153⟩,⟨pB⟩⟩
     ·rw [if_neg c6] at H
      exact absurd H (by simp)
    ·rw [if_neg c5] at H
     exact absurd H (by simp)
   ·rw [if_neg c4] at H
    have c4b0:decide (x9_1 < (l0_0.length:Int))=false:=decide_eq_false c4
    clear c4
    obtain rfl:=Option.some.inj H
    go_wp2
    go_ret
    exact ⟨pF,pB⟩
def nodeset_Nodes.l0:Nat→Int→List Int→Int→Option (List Int)
 | 0,_,_,_=>none
 | k+1,x0,x3,x5=>if x5 < 10 then ((nodeset_Has.f x0 x5).bind fun t158=>(if t158=true then (if x3.length < 17592186044416 then (nodeset_Nodes.l0 k x0 (x3++[x5]) (wrap64 (x5+1))) else (none)) else (nodeset_Nodes.l0 k x0 x3 (wrap64 (x5+1))))) else (some x3)
def nodeset_Nodes.f (k:Nat) (a0:Int):Option (List Int):=nodeset_Nodes.l0 k a0 ([]:List Int) 0
set_option maxHeartbeats 8000000 in
set_option maxRecDepth 100000 in
theorem nodeset_Nodes.calls (k:Nat) (a0:Int) (r:List Int) (w:World) (h:nodeset_Nodes.f k a0=some r) :
  Calls Tryz.prog 101 #[.int .i64 a0] w fun e w'=>∃ v0_:Value,e=.returned (v0_)∧Kd.R (Kd.int .i64) 3 w' w.heap.size (fun _=>True) v0_ r∧Below w.heap.size w w':=by
 have HB:=Z (Below.refl w.heap.size w)
 have H:(nodeset_Nodes.l0 k a0 ([]:List Int) 0)=some r:=h
 clear h
 have H':=Z H
 clear H
 go_enter Tryz.func101,Tryz.ntmps101
 go_wp2
 go_loopg [3,5] k (fun kq v3 v5 w'=>∃ (x3_1:List Int) (x5_1:Int),v5=.int .i64 x5_1∧Aside0 (nodeset_Nodes.l0 kq a0 x3_1 x5_1=some r)∧Aside0 (kq≤k)∧Aside0 (Kd.R (Kd.int .i64) 3 w' w.heap.size (fun _=>True) v3 x3_1)∧Aside0 (Below w.heap.size w w'))
 case atStart=>exact ⟨(([]:List Int)),(0),pE,H',⟨Nat.le_refl _⟩,⟨pN⟩,⟨pB⟩⟩
 case round =>
  clear H'
  try clear c1
  obtain ⟨x3_1,x5_1,rfl,HA,HK1,HO_3,HB⟩:=hrel
  cases gk with
  | zero=>exact absurd HA.out (by simp [nodeset_Nodes.l0])
  | succ k1 =>
   have H:=HA.out
   clear HA
   simp only [nodeset_Nodes.l0] at H
   by_cases c2:x5_1 < 10
   ·rw [if_pos c2] at H
    have c2b0:decide (x5_1 < 10)=true:=decide_eq_true c2
    clear c2
    replace H:=pO H
    obtain ⟨t158,A30,H⟩:=H
    try dsimp only at H
    have A3:=Z A30
    clear A30
    by_cases c4:t158=true
    ·subst c4
     rw [if_pos rfl] at H
     by_cases c5:x3_1.length < 17592186044416
     ·rw [if_pos c5] at H
      have LMc5:=Z c5
      clear c5
      obtain ⟨y159,hy159⟩:∃ y_:List Int,y_=(x3_1++[x5_1]):=⟨_,rfl⟩
      first|rw [← hy159] at H|(replace H:=(Option.bind_some _ _).symm.trans H;rw [← hy159] at H)
      have Ny159:=Z hy159
      clear hy159
      have H':=Z H
      clear H
      go_wp2_with (first|((with_reducible refine gate_callee (f:=104) rfl ?_);refine goesL_ (some 10) rfl rfl Tryz.func104 pU rfl #[.int .i64 a0,.int .i64 x5_1] rfl pG ?_;(with_reducible refine (nodeset_Has.calls a0 x5_1 true _ A3.out).mono ?_);rintro e w' ⟨rfl,⟨nd,rfl⟩⟩;refine ⟨_,rfl,?_⟩)|((with_reducible refine gate_builtin (b:=.append) (xs:=#[.tmp 11,.tmp 13]) rfl ?_);at_builtin;refine Kd.R_append (Kd.int .i64) (w0:=w) w.heap.size rfl (.tmp 11) (.tmp 13) 22 3 (.int .i64 0) 8 rfl Tryz.underlying22 info3 rfl (by decide) (by omega) u3 x3_1 x5_1 [.int .i64 x5_1] (fun _=>True) (fun _=>False) rfl rfl ?aP (fun _ hk=>hk.elim) ?aF ?aO ?aB ?aS ?aL ?_;(case aP=>exact rfl);(case aB=>exact pB);(case aF=>exact (fun _ _=>trivial));(case aO=>exact (pR HO_3));(case aS=>exact (below_size pB));(case aL=>have:=LMc5.out;omega);intro v160 w6 ho hb hg hat;rw [← Ny159.out] at ho;have n0_:=Z (hb);have n1_:=Z (ho);clear HB HO_3;have HB:=n0_;have HO161:=n1_;clear n0_ n1_ ho hb hg hat))
      go_roundg k1
      case measure=>have:=HK1.out;omega
      case rel=>exact ⟨(y159),(wrap64 (x5_1+1)),pE,H',⟨by have:=HK1.out;omega⟩,⟨pR HO161⟩,⟨pB⟩⟩
     ·rw [if_neg c5] at H
      exact absurd H (by simp)
    ·replace c4:=Bool.eq_false_iff.mpr c4
     subst c4
     rw [if_neg (show ¬ (false=true) by decide)] at H
     have H':=Z H
     clear H
     go_wp2_with (first|((with_reducible refine gate_callee (f:=104) rfl ?_);refine goesL_ (some 10) rfl rfl Tryz.func104 pU rfl #[.int .i64 a0,.int .i64 x5_1] rfl pG ?_;(with_reducible refine (nodeset_Has.calls a0 x5_1 false _ A3.out).mono ?_);rintro e w' ⟨rfl,⟨nd,rfl⟩⟩;refine ⟨_,rfl,?_⟩))
     go_roundg k1
     case measure=>have:=HK1.out;omega
     case rel=>exact ⟨(x3_1),(wrap64 (x5_1+1)),pE,H',⟨by have:=HK1.out;omega⟩,⟨pR HO_3⟩,⟨pB⟩⟩
   ·rw [if_neg c2] at H
    have c2b0:decide (x5_1 < 10)=false:=decide_eq_false c2
    clear c2
    obtain rfl:=Option.some.inj H
    go_wp2
    go_ret
    exact ⟨_,pF,pR HO_3,pB⟩
mutual
def threshold_Satisfied.l0:Nat→Int→Int→List Int→Int→Int→Int→List Int→List (S90)→Option (Bool)
 | 0,_,_,_,_,_,_,_,_=>none
 | k+1,x1,x5,x14,x15,x16,x163000,x163001,x163002=>if x16 < x15 then (if 0≤x16 then (if x16 < (x14.length:Int) then ((nodeset_Has.f x1 (rd x14 x16)).bind fun t165=>(if t165=true then (threshold_Satisfied.l0 k x1 (wrap64 (x5+1)) x14 x15 (wrap64 (x16+1)) x163000 x163001 x163002) else (threshold_Satisfied.l0 k x1 x5 x14 x15 (wrap64 (x16+1)) x163000 x163001 x163002))) else (none)) else (none)) else (threshold_Satisfied.l1 k x1 x5 x163002 (x163002.length:Int) 0 x163000 x163001 x163002)
def threshold_Satisfied.l1:Nat→Int→Int→List (S90)→Int→Int→Int→List Int→List (S90)→Option (Bool)
 | 0,_,_,_,_,_,_,_,_=>none
 | k+1,x1,x5,x27,x28,x29,x163000,x163001,x163002=>if x29 < x28 then (if 0≤x29 then (if x29 < (x27.length:Int) then ((threshold_Satisfied.f k ((rd_T90 x27 x29).f0) ((rd_T90 x27 x29).f1) ((rd_T90 x27 x29).f2) x1).bind fun t168=>(if t168=true then (threshold_Satisfied.l1 k x1 (wrap64 (x5+1)) x27 x28 (wrap64 (x29+1)) x163000 x163001 x163002) else (threshold_Satisfied.l1 k x1 x5 x27 x28 (wrap64 (x29+1)) x163000 x163001 x163002))) else (none)) else (none)) else (some (decide (x5 ≥ x163000)))
def threshold_Satisfied.f:Nat→Int→List Int→List (S90)→Int→Option (Bool)
 | 0,_,_,_,_=>none
 | k+1,a0_0,l0_1,l0_2,a1=>(nodeset_Valid.f a1).bind fun t163=>(if t163=true then (threshold_Satisfied.l0 k a1 0 l0_1 (l0_1.length:Int) 0 a0_0 l0_1 l0_2) else (some false))
end
set_option maxHeartbeats 8000000 in
set_option maxRecDepth 100000 in
theorem threshold_Satisfied.calls (k:Nat):∀ (a0_0:Int) (A0_1:Option Addr) (c0_1:Nat) (l0_1:List Int) (A0_2:Option Addr) (c0_2:Nat) (l0_2:List (S90)) (a1:Int) (r:Bool) (w:World) (hr0_1:Kd.C (Kd.int .i64) w A0_1 l0_1.length l0_1) (hc0_1:l0_1.length≤c0_1) (hr0_2:Kd.C k90 w A0_2 l0_2.length l0_2) (hc0_2:l0_2.length≤c0_2) (h:threshold_Satisfied.f k a0_0 l0_1 l0_2 a1=some r),
  Calls Tryz.prog 106 #[.agg #[.int .i64 a0_0,.slice A0_1 l0_1.length c0_1,.slice A0_2 l0_2.length c0_2],.int .i64 a1] w fun e w'=>e=.returned (.bool r)∧Below w.heap.size w w':=by
 induction k using Nat.strongRecOn with
 | _ k ih =>
 intro a0_0 A0_1 c0_1 l0_1 A0_2 c0_2 l0_2 a1 r w hr0_1 hc0_1 hr0_2 hc0_2 h
 cases k with
 | zero=>exact absurd h (by simp [threshold_Satisfied.f])
 | succ k =>
 simp only [threshold_Satisfied.f] at h
 have hu90:=Tryz.underlying90
 have HR0_1:=Z hr0_1
 have HC0_1:=Z hc0_1
 clear hr0_1 hc0_1
 have HR0_2:=Z hr0_2
 have HC0_2:=Z hc0_2
 clear hr0_2 hc0_2
 have HB:=Z (Below.refl w.heap.size w)
 have H:((nodeset_Valid.f a1).bind fun t163=>(if t163=true then (threshold_Satisfied.l0 k a1 0 l0_1 (l0_1.length:Int) 0 a0_0 l0_1 l0_2) else (some false)))=some r:=h
 clear h
 replace H:=pO H
 obtain ⟨t163,A30,H⟩:=H
 try dsimp only at H
 have A3:=Z A30
 clear A30
 by_cases c4:t163=true
 ·subst c4
  rw [if_pos rfl] at H
  have H':=Z H
  clear H
  go_enter Tryz.func106,Tryz.ntmps106
  go_wp2_with (first|((with_reducible refine gate_dst (N:=2) rfl ?_);refine box_event ?hg (N:=2) ?hd (cs:=#[.int .i64 a0_0,.slice A0_1 l0_1.length c0_1,.slice A0_2 l0_2.length c0_2]) (t:=90) ?hr ?_;(case hd=>rfl);(case hg=>rfl);(case hr=>first|(go_simp;done)|(go_simp;rfl));intro gb162 hg w5 hbox hb;have n0_:=Z (below_step pB hb);have BK162:=Z (hbox);have GW162:=Z ((pT hg:w.heap.size≤gb162));have GE162:=Z ((pT hg:w.heap.size≤gb162));clear HB;have HB:=n0_;clear n0_ hb hbox hg)|((with_reducible refine gate_callee (f:=160) rfl ?_);refine goesL_ (some 11) rfl rfl Tryz.func160 pU rfl #[.int .i64 a1] rfl pG ?_;(with_reducible refine (nodeset_Valid.calls a1 true _ A3.out).mono ?_);rintro e w' ⟨rfl,⟨nd,rfl⟩⟩;refine ⟨_,rfl,?_⟩;obtain ⟨hcz6_0,hcz6_1,hcz6_2,hfz6_0,hfz6_1,hfz6_2⟩:=p3 BK162))
  go_loopg [5,16] k (fun kq v5 v16 w'=>∃ (x5_1:Int) (x16_1:Int),v5=.int .i64 x5_1∧v16=.int .i64 x16_1∧Aside0 (threshold_Satisfied.l0 kq a1 x5_1 l0_1 (l0_1.length:Int) x16_1 a0_0 l0_1 l0_2=some r)∧Aside0 (kq≤k)∧Aside0 (w'.heap[gb162]?=some (.cells #[.int .i64 a0_0,(.slice A0_1 l0_1.length c0_1),(.slice A0_2 l0_2.length c0_2)] 90 (0,0)))∧Aside0 (Below w.heap.size w w'))
  case atStart=>exact ⟨(0),(0),pE,pE,H',⟨Nat.le_refl _⟩,⟨pK BK162⟩,⟨pB⟩⟩
  case round =>
   clear H'
   try clear c1
   try clear p2
   try clear c4
   try clear hcz6_0
   try clear hcz6_1
   try clear hcz6_2
   try clear hfz6_0
   try clear hfz6_1
   try clear hfz6_2
   obtain ⟨x5_1,x16_1,rfl,rfl,HA,HK1,BK162,HB⟩:=hrel
   cases gk with
   | zero=>exact absurd HA.out (by simp [threshold_Satisfied.l0])
   | succ k1 =>
    have H:=HA.out
    clear HA
    simp only [threshold_Satisfied.l0] at H
    by_cases c7:x16_1 < (l0_1.length:Int)
    ·rw [if_pos c7] at H
     have c7b0:decide (x16_1 < (l0_1.length:Int))=true:=decide_eq_true c7
     clear c7
     by_cases c8:0≤x16_1
     ·rw [if_pos c8] at H
      have c8b0:decide (0≤x16_1)=true:=decide_eq_true c8
      clear c8
      by_cases c9:x16_1 < (l0_1.length:Int)
      ·rw [if_pos c9] at H
       have c9b0:decide (x16_1 < (l0_1.length:Int))=true:=decide_eq_true c9
       clear c9
       replace H:=pO H
       obtain ⟨t165,A100,H⟩:=H
       try dsimp only at H
       have A10:=Z A100
       clear A100
       by_cases c11:t165=true
       ·subst c11
        rw [if_pos rfl] at H
        have H':=Z H
        clear H
        have p164:0≤(x16_1:Int):=of_decide_eq_true pA
        have q164:x16_1 < (l0_1.length:Int):=of_decide_eq_true pA
        obtain ⟨ad164,e164,hx164_0⟩:=Kd.at_int HR0_1.out x16_1 p164 q164
        cases e164
        replace hx164_0:=pX HB hx164_0
        replace p164:=eq_true p164
        replace q164:=eq_true q164
        go_wp2_with (first|((with_reducible refine gate_callee (f:=104) rfl ?_);refine goesL_ (some 22) rfl rfl Tryz.func104 pU rfl #[.int .i64 a1,.int .i64 (rd l0_1 x16_1)] rfl pG ?_;(with_reducible refine (nodeset_Has.calls a1 (rd l0_1 x16_1) true _ A10.out).mono ?_);rintro e w' ⟨rfl,⟨nd,rfl⟩⟩;refine ⟨_,rfl,?_⟩))
        go_roundg k1
        case measure=>have:=HK1.out;omega
        case rel=>exact ⟨(wrap64 (x5_1+1)),(wrap64 (x16_1+1)),pE,pE,H',⟨by have:=HK1.out;omega⟩,⟨pK BK162⟩,⟨pB⟩⟩
       ·replace c11:=Bool.eq_false_iff.mpr c11
        subst c11
        rw [if_neg (show ¬ (false=true) by decide)] at H
        have H':=Z H
        clear H
        have p164:0≤(x16_1:Int):=of_decide_eq_true pA
        have q164:x16_1 < (l0_1.length:Int):=of_decide_eq_true pA
        obtain ⟨ad164,e164,hx164_0⟩:=Kd.at_int HR0_1.out x16_1 p164 q164
        cases e164
        replace hx164_0:=pX HB hx164_0
        replace p164:=eq_true p164
        replace q164:=eq_true q164
        go_wp2_with (first|((with_reducible refine gate_callee (f:=104) rfl ?_);refine goesL_ (some 22) rfl rfl Tryz.func104 pU rfl #[.int .i64 a1,.int .i64 (rd l0_1 x16_1)] rfl pG ?_;(with_reducible refine (nodeset_Has.calls a1 (rd l0_1 x16_1) false _ A10.out).mono ?_);rintro e w' ⟨rfl,⟨nd,rfl⟩⟩;refine ⟨_,rfl,?_⟩))
        go_roundg k1
        case measure=>have:=HK1.out;omega
        case rel=>exact ⟨(x5_1),(wrap64 (x16_1+1)),pE,pE,H',⟨by have:=HK1.out;omega⟩,⟨pK BK162⟩,⟨pB⟩⟩
      ·rw [if_neg c9] at H
       exact absurd H (by simp)
     ·rw [if_neg c8] at H
      exact absurd H (by simp)
    ·rw [if_neg c7] at H
     have c7b0:decide (x16_1 < (l0_1.length:Int))=false:=decide_eq_false c7
     clear c7
     have H':=Z H
     clear H
     have hcz12_0:=pV BK162 (.int .i64 a0_0) 0 rfl
     have hcz12_1:=pV BK162 (.slice A0_1 l0_1.length c0_1) 1 rfl
     have hcz12_2:=pV BK162 (.slice A0_2 l0_2.length c0_2) 2 rfl
     have hfz12_0:=kF BK162.out 0
     have hfz12_1:=kF BK162.out 1
     have hfz12_2:=kF BK162.out 2
     go_wp2
     go_loopg [5,29] k1 (fun kq v5 v29 w'=>∃ (x5_2:Int) (x29_2:Int),v5=.int .i64 x5_2∧v29=.int .i64 x29_2∧Aside0 (threshold_Satisfied.l1 kq a1 x5_2 l0_2 (l0_2.length:Int) x29_2 a0_0 l0_1 l0_2=some r)∧Aside0 (kq≤k1)∧Aside0 (w'.heap[gb162]?=some (.cells #[.int .i64 a0_0,(.slice A0_1 l0_1.length c0_1),(.slice A0_2 l0_2.length c0_2)] 90 (0,0)))∧Aside0 (Below w.heap.size w w'))
     case atStart=>exact ⟨(x5_1),(0),pE,pE,H',⟨Nat.le_refl _⟩,⟨pK BK162⟩,⟨pB⟩⟩
     case round =>
      clear H'
      try clear c1
      try clear p1
      try clear q1
      try clear hx1
      try clear p2
      try clear c4
      try clear p6
      try clear c7
      try clear c7b0
      try clear c8
      try clear c8b0
      try clear c9
      try clear c9b0
      try clear c10
      try clear c11
      try clear hcz12_0
      try clear hcz12_1
      try clear hcz12_2
      try clear hcz6_0
      try clear hcz6_1
      try clear hcz6_2
      try clear hfz12_0
      try clear hfz12_1
      try clear hfz12_2
      try clear hfz6_0
      try clear hfz6_1
      try clear hfz6_2
      try clear hx164_0
      try clear p164
      try clear q164
      obtain ⟨x5_2,x29_2,rfl,rfl,HA,HK2,BK162,HB⟩:=hrel
      cases gk with
      | zero=>exact absurd HA.out (by simp [threshold_Satisfied.l1])
      | succ k2 =>
       have H:=HA.out
       clear HA
       simp only [threshold_Satisfied.l1] at H
       by_cases c13:x29_2 < (l0_2.length:Int)
       ·rw [if_pos c13] at H
        have c13b0:decide (x29_2 < (l0_2.length:Int))=true:=decide_eq_true c13
        clear c13
        by_cases c14:0≤x29_2
        ·rw [if_pos c14] at H
         have c14b0:decide (0≤x29_2)=true:=decide_eq_true c14
         clear c14
         by_cases c15:x29_2 < (l0_2.length:Int)
         ·rw [if_pos c15] at H
          have c15b0:decide (x29_2 < (l0_2.length:Int))=true:=decide_eq_true c15
          clear c15
          replace H:=pO H
          obtain ⟨t168,A160,H⟩:=H
          try dsimp only at H
          have A16:=Z A160
          clear A160
          by_cases c17:t168=true
          ·subst c17
           rw [if_pos rfl] at H
           have H':=Z H
           clear H
           have p166:0≤(x29_2:Int):=of_decide_eq_true pA
           have q166:x29_2 < (l0_2.length:Int):=of_decide_eq_true pA
           obtain ⟨ad166,A166_1,c166_1,A166_2,c166_2,e166,hx166_0,hx166_1,hx166_2,hl166_1,hi166_1,hl166_2,hi166_2⟩:=at_T90 HR0_2.out x29_2 p166 q166
           cases e166
           replace hx166_0:=pX HB hx166_0
           replace hx166_1:=pX HB hx166_1
           replace hx166_2:=pX HB hx166_2
           have HR166_1:=Z hi166_1
           have HC166_1:=Z hl166_1
           clear hi166_1 hl166_1
           have HR166_2:=Z hi166_2
           have HC166_2:=Z hl166_2
           clear hi166_2 hl166_2
           replace p166:=eq_true p166
           replace q166:=eq_true q166
           go_wp2_with (first|((with_reducible refine gate_dst (N:=9) rfl ?_);refine box_event ?hg (N:=9) ?hd (cs:=#[.int .i64 0,.slice none 0 0,.slice none 0 0]) (t:=90) ?hr ?_;(case hd=>rfl);(case hg=>rfl);(case hr=>first|(go_simp;done)|(go_simp;rfl));intro gb167 hg w18 hbox hb;have n0_:=Z (blk_below (g:=gb162) (o:=.cells #[.int .i64 a0_0,.slice A0_1 l0_1.length c0_1,.slice (some ad166) l0_2.length c0_2] 90 (0,0)) (pK BK162) hb);have n1_:=Z (below_step pB hb);have BK167:=Z (hbox);have GW167:=Z ((pT hg:w.heap.size≤gb167));have GE167:=Z ((pT hg:w.heap.size≤gb167));have NB162_167:=Z ((pL hg (pK BK162):gb162 ≠ gb167));have NB167_162:=Z ((pM hg (pK BK162):gb167 ≠ gb162));clear BK162 HB;have BK162:=n0_;have HB:=n1_;clear n0_ n1_ hb hbox hg;have hnb19:=NB167_162.out;have hnc19:=NB162_167.out;obtain ⟨hcz20_0,hcz20_1,hcz20_2,hfz20_0,hfz20_1,hfz20_2⟩:=p3 BK167)|((with_reducible refine gate_callee (f:=106) rfl ?_);refine goesL_ (some 35) rfl rfl Tryz.func106 pU rfl #[.agg #[.int .i64 ((rd_T90 l0_2 x29_2).f0),.slice A166_1 ((rd_T90 l0_2 x29_2).f1).length c166_1,.slice A166_2 ((rd_T90 l0_2 x29_2).f2).length c166_2],.int .i64 a1] rfl pG ?_;(with_reducible refine (ih k2 (by have:=HK1.out;have:=HK2.out;omega) ((rd_T90 l0_2 x29_2).f0) _ _ ((rd_T90 l0_2 x29_2).f1) _ _ ((rd_T90 l0_2 x29_2).f2) a1 true _ ?side1 ?side2 ?side3 ?side4 A16.out).mono ?_);(case side1=>exact Kd.C_below HR166_1.out pB);(case side2=>exact HC166_1.out);(case side3=>exact Kd.C_below HR166_2.out pB);(case side4=>exact HC166_2.out);rintro e w21 ⟨rfl,hb⟩;refine ⟨_,rfl,?_⟩;replace BK162:=Z (blk_below (g:=gb162) (o:=.cells #[.int .i64 a0_0,.slice A0_1 l0_1.length c0_1,.slice (some ad166) l0_2.length c0_2] 90 (0,0)) (by refine pQ ?_;refine blk_far ?_ NB162_167.out _;refine pQ ?_;refine blk_far ?_ NB162_167.out _;refine pQ ?_;refine blk_far ?_ NB162_167.out _;exact pK BK162) hb);replace BK167:=Z (blk_below (g:=gb167) (o:=.cells #[.int .i64 ((rd_T90 l0_2 x29_2).f0),.slice A166_1 ((rd_T90 l0_2 x29_2).f1).length c166_1,.slice A166_2 ((rd_T90 l0_2 x29_2).f2).length c166_2] 90 (0,0)) (by refine pQ ?_;refine blk_put (cs:=#[.int .i64 ((rd_T90 l0_2 x29_2).f0),.slice A166_1 ((rd_T90 l0_2 x29_2).f1).length c166_1,.slice none 0 0]) ?_ 2 _ rfl;refine pQ ?_;refine blk_put (cs:=#[.int .i64 ((rd_T90 l0_2 x29_2).f0),.slice none 0 0,.slice none 0 0]) ?_ 1 _ rfl;refine pQ ?_;refine blk_put (cs:=#[.int .i64 0,.slice none 0 0,.slice none 0 0]) ?_ 0 _ rfl;exact pK BK167) hb);have n2_:=Z (below_step pB hb);clear HB;have HB:=n2_;clear n2_;(try clear hb);(try clear hb2);(try clear hk);(try clear hi)))
           go_roundg k2
           case measure=>have:=HK1.out;have:=HK2.out;omega
           case rel=>exact ⟨(wrap64 (x5_2+1)),(wrap64 (x29_2+1)),pE,pE,H',⟨by have:=HK1.out;have:=HK2.out;omega⟩,⟨pK BK162⟩,⟨pB⟩⟩
          ·replace c17:=Bool.eq_false_iff.mpr c17
           subst c17
           rw [if_neg (show ¬ (false=true) by decide)] at H
           have H':=Z H
           clear H
           have p166:0≤(x29_2:Int):=of_decide_eq_true pA
           have q166:x29_2 < (l0_2.length:Int):=of_decide_eq_true pA
           obtain ⟨ad166,A166_1,c166_1,A166_2,c166_2,e166,hx166_0,hx166_1,hx166_2,hl166_1,hi166_1,hl166_2,hi166_2⟩:=at_T90 HR0_2.out x29_2 p166 q166
           cases e166
           replace hx166_0:=pX HB hx166_0
           replace hx166_1:=pX HB hx166_1
           replace hx166_2:=pX HB hx166_2
           have HR166_1:=Z hi166_1
           have HC166_1:=Z hl166_1
           clear hi166_1 hl166_1
           have HR166_2:=Z hi166_2
           have HC166_2:=Z hl166_2
           clear hi166_2 hl166_2
           replace p166:=eq_true p166
           replace q166:=eq_true q166
           go_wp2_with (first|((with_reducible refine gate_dst (N:=9) rfl ?_);refine box_event ?hg (N:=9) ?hd (cs:=#[.int .i64 0,.slice none 0 0,.slice none 0 0]) (t:=90) ?hr ?_;(case hd=>rfl);(case hg=>rfl);(case hr=>first|(go_simp;done)|(go_simp;rfl));intro gb167 hg w22 hbox hb;have n0_:=Z (blk_below (g:=gb162) (o:=.cells #[.int .i64 a0_0,.slice A0_1 l0_1.length c0_1,.slice (some ad166) l0_2.length c0_2] 90 (0,0)) (pK BK162) hb);have n1_:=Z (below_step pB hb);have BK167:=Z (hbox);have GW167:=Z ((pT hg:w.heap.size≤gb167));have GE167:=Z ((pT hg:w.heap.size≤gb167));have NB162_167:=Z ((pL hg (pK BK162):gb162 ≠ gb167));have NB167_162:=Z ((pM hg (pK BK162):gb167 ≠ gb162));clear BK162 HB;have BK162:=n0_;have HB:=n1_;clear n0_ n1_ hb hbox hg;have hnb23:=NB167_162.out;have hnc23:=NB162_167.out;obtain ⟨hcz24_0,hcz24_1,hcz24_2,hfz24_0,hfz24_1,hfz24_2⟩:=p3 BK167)|((with_reducible refine gate_callee (f:=106) rfl ?_);refine goesL_ (some 35) rfl rfl Tryz.func106 pU rfl #[.agg #[.int .i64 ((rd_T90 l0_2 x29_2).f0),.slice A166_1 ((rd_T90 l0_2 x29_2).f1).length c166_1,.slice A166_2 ((rd_T90 l0_2 x29_2).f2).length c166_2],.int .i64 a1] rfl pG ?_;(with_reducible refine (ih k2 (by have:=HK1.out;have:=HK2.out;omega) ((rd_T90 l0_2 x29_2).f0) _ _ ((rd_T90 l0_2 x29_2).f1) _ _ ((rd_T90 l0_2 x29_2).f2) a1 false _ ?side1 ?side2 ?side3 ?side4 A16.out).mono ?_);(case side1=>exact Kd.C_below HR166_1.out pB);(case side2=>exact HC166_1.out);(case side3=>exact Kd.C_below HR166_2.out pB);(case side4=>exact HC166_2.out);rintro e w25 ⟨rfl,hb⟩;refine ⟨_,rfl,?_⟩;replace BK162:=Z (blk_below (g:=gb162) (o:=.cells #[.int .i64 a0_0,.slice A0_1 l0_1.length c0_1,.slice (some ad166) l0_2.length c0_2] 90 (0,0)) (by refine pQ ?_;refine blk_far ?_ NB162_167.out _;refine pQ ?_;refine blk_far ?_ NB162_167.out _;refine pQ ?_;refine blk_far ?_ NB162_167.out _;exact pK BK162) hb);replace BK167:=Z (blk_below (g:=gb167) (o:=.cells #[.int .i64 ((rd_T90 l0_2 x29_2).f0),.slice A166_1 ((rd_T90 l0_2 x29_2).f1).length c166_1,.slice A166_2 ((rd_T90 l0_2 x29_2).f2).length c166_2] 90 (0,0)) (by refine pQ ?_;refine blk_put (cs:=#[.int .i64 ((rd_T90 l0_2 x29_2).f0),.slice A166_1 ((rd_T90 l0_2 x29_2).f1).length c166_1,.slice none 0 0]) ?_ 2 _ rfl;refine pQ ?_;refine blk_put (cs:=#[.int .i64 ((rd_T90 l0_2 x29_2).f0),.slice none 0 0,.slice none 0 0]) ?_ 1 _ rfl;refine pQ ?_;refine blk_put (cs:=#[.int .i64 0,.slice none 0 0,.slice none 0 0]) ?_ 0 _ rfl;exact pK BK167) hb);have n2_:=Z (below_step pB hb);clear HB;have HB:=n2_;clear n2_;(try clear hb);(try clear hb2);(try clear hk);(try clear hi)))
           go_roundg k2
           case measure=>have:=HK1.out;have:=HK2.out;omega
           case rel=>exact ⟨(x5_2),(wrap64 (x29_2+1)),pE,pE,H',⟨by have:=HK1.out;have:=HK2.out;omega⟩,⟨pK BK162⟩,⟨pB⟩⟩
         ·rw [if_neg c15] at H
          exact absurd H (by simp)
        ·rw [if_neg c14] at H
         exact absurd H (by simp)
       ·rw [if_neg c13] at H
        have c13b0:decide (x29_2 < (l0_2.length:Int))=false:=decide_eq_false c13
        clear c13
        obtain rfl:=Option.some.inj H
        have hcz26_0:=pV BK162 (.int .i64 a0_0) 0 rfl
        have hcz26_1:=pV BK162 (.slice A0_1 l0_1.length c0_1) 1 rfl
        have hcz26_2:=pV BK162 (.slice A0_2 l0_2.length c0_2) 2 rfl
        have hfz26_0:=kF BK162.out 0
        have hfz26_1:=kF BK162.out 1
        have hfz26_2:=kF BK162.out 2
        go_wp2
        go_ret
        exact ⟨pF,pB⟩
 ·replace c4:=Bool.eq_false_iff.mpr c4
  subst c4
  rw [if_neg (show ¬ (false=true) by decide)] at H
  obtain rfl:=Option.some.inj H
  go_enter Tryz.func106,Tryz.ntmps106
  go_wp2_with (first|((with_reducible refine gate_dst (N:=2) rfl ?_);refine box_event ?hg (N:=2) ?hd (cs:=#[.int .i64 a0_0,.slice A0_1 l0_1.length c0_1,.slice A0_2 l0_2.length c0_2]) (t:=90) ?hr ?_;(case hd=>rfl);(case hg=>rfl);(case hr=>first|(go_simp;done)|(go_simp;rfl));intro gb162 hg w27 hbox hb;have n0_:=Z (below_step pB hb);have BK162:=Z (hbox);have GW162:=Z ((pT hg:w.heap.size≤gb162));have GE162:=Z ((pT hg:w.heap.size≤gb162));clear HB;have HB:=n0_;clear n0_ hb hbox hg)|((with_reducible refine gate_callee (f:=160) rfl ?_);refine goesL_ (some 11) rfl rfl Tryz.func160 pU rfl #[.int .i64 a1] rfl pG ?_;(with_reducible refine (nodeset_Valid.calls a1 false _ A3.out).mono ?_);rintro e w' ⟨rfl,⟨nd,rfl⟩⟩;refine ⟨_,rfl,?_⟩))
  go_ret
  exact ⟨pF,pB⟩
def closure_content.f (k:Nat) (l0_0:List (S92)) (a1:Int) (a2:Int):Option (Bool):=if 0≤a1 then (if a1 < (l0_0.length:Int) then ((threshold_Satisfied.f k ((rd_T92 l0_0 a1).f1.f0) ((rd_T92 l0_0 a1).f1.f1) ((rd_T92 l0_0 a1).f1.f2) a2).bind fun t171=>(some t171)) else (none)) else (none)
set_option maxHeartbeats 8000000 in
set_option maxRecDepth 100000 in
theorem closure_content.calls (k:Nat) (A0_0:Option Addr) (c0_0:Nat) (l0_0:List (S92)) (a1:Int) (a2:Int) (r:Bool) (w:World) (hr0_0:Kd.C k92 w A0_0 l0_0.length l0_0) (hc0_0:l0_0.length≤c0_0) (h:closure_content.f k l0_0 a1 a2=some r) :
  Calls Tryz.prog 206 #[.agg #[.slice A0_0 l0_0.length c0_0],.int .i64 a1,.int .i64 a2] w fun e w'=>e=.returned (.bool r)∧Below w.heap.size w w':=by
 have hu25:=Tryz.underlying25
 have hu90:=Tryz.underlying90
 have HR0_0:=Z hr0_0
 have HC0_0:=Z hc0_0
 clear hr0_0 hc0_0
 have HB:=Z (Below.refl w.heap.size w)
 have H:(if 0≤a1 then (if a1 < (l0_0.length:Int) then ((threshold_Satisfied.f k ((rd_T92 l0_0 a1).f1.f0) ((rd_T92 l0_0 a1).f1.f1) ((rd_T92 l0_0 a1).f1.f2) a2).bind fun t171=>(some t171)) else (none)) else (none))=some r:=h
 clear h
 by_cases c4:0≤a1
 ·rw [if_pos c4] at H
  have c4b0:decide (0≤a1)=true:=decide_eq_true c4
  clear c4
  by_cases c5:a1 < (l0_0.length:Int)
  ·rw [if_pos c5] at H
   have c5b0:decide (a1 < (l0_0.length:Int))=true:=decide_eq_true c5
   clear c5
   replace H:=pO H
   obtain ⟨t171,A60,H⟩:=H
   try dsimp only at H
   have A6:=Z A60
   clear A60
   obtain rfl:=Option.some.inj H
   go_enter Tryz.func206,Tryz.ntmps206
   go_wp2_with (first|((with_reducible refine gate_dst (N:=3) rfl ?_);refine box_event ?hg (N:=3) ?hd (cs:=#[.slice A0_0 l0_0.length c0_0]) (t:=25) ?hr ?_;(case hd=>rfl);(case hg=>rfl);(case hr=>first|(go_simp;done)|(go_simp;rfl));intro gb169 hg w7 hbox hb;have n0_:=Z (below_step pB hb);have BK169:=Z (hbox);have GW169:=Z ((pT hg:w.heap.size≤gb169));have GE169:=Z ((pT hg:w.heap.size≤gb169));clear HB;have HB:=n0_;clear n0_ hb hbox hg;obtain ⟨hcz8_0,hfz8_0⟩:=p1 BK169;have p170:0≤(a1:Int):=of_decide_eq_true pA;have q170:a1 < (l0_0.length:Int):=of_decide_eq_true pA;obtain ⟨ad170,A170_2,c170_2,A170_3,c170_3,e170,hx170_0,hx170_1,hx170_2,hx170_3,hl170_2,hi170_2,hl170_3,hi170_3⟩:=at_T92 HR0_0.out a1 p170 q170;cases e170;replace hx170_0:=pX HB hx170_0;replace hx170_1:=pX HB hx170_1;replace hx170_2:=pX HB hx170_2;replace hx170_3:=pX HB hx170_3;have HR170_2:=Z hi170_2;have HC170_2:=Z hl170_2;clear hi170_2 hl170_2;have HR170_3:=Z hi170_3;have HC170_3:=Z hl170_3;clear hi170_3 hl170_3;replace p170:=eq_true p170;replace q170:=eq_true q170)|((with_reducible refine gate_callee (f:=106) rfl ?_);refine goesL_ (some 14) rfl rfl Tryz.func106 pU rfl #[.agg #[.int .i64 ((rd_T92 l0_0 a1).f1.f0),.slice A170_2 ((rd_T92 l0_0 a1).f1.f1).length c170_2,.slice A170_3 ((rd_T92 l0_0 a1).f1.f2).length c170_3],.int .i64 a2] rfl pG ?_;(with_reducible refine (threshold_Satisfied.calls k ((rd_T92 l0_0 a1).f1.f0) _ _ ((rd_T92 l0_0 a1).f1.f1) _ _ ((rd_T92 l0_0 a1).f1.f2) a2 t171 _ ?side1 ?side2 ?side3 ?side4 A6.out).mono ?_);(case side1=>exact pC HR170_2);(case side2=>exact HC170_2.out);(case side3=>exact pC HR170_3);(case side4=>exact HC170_3.out);rintro e w9 ⟨rfl,hb⟩;refine ⟨_,rfl,?_⟩;replace BK169:=Z (blk_below (g:=gb169) (o:=.cells #[.slice (some ad170) l0_0.length c0_0] 25 (0,0)) (pK BK169) hb);have n1_:=Z (below_step pB hb);clear HB;have HB:=n1_;clear n1_;(try clear hb);(try clear hb2);(try clear hk);(try clear hi)))
   go_ret
   exact ⟨pF,pB⟩
  ·rw [if_neg c5] at H
   exact absurd H (by simp)
 ·rw [if_neg c4] at H
  exact absurd H (by simp)
def closure_unhappy.l0:Nat→Int→List Int→Int→Int→List (S92)→Option (Int × Bool)
 | 0,_,_,_,_,_=>none
 | k+1,x1,x9,x10,x11,x173000=>if x11 < x10 then (if 0≤x11 then (if x11 < (x9.length:Int) then ((closure_content.f k x173000 (rd x9 x11) x1).bind fun t177=>(if t177=true then (closure_unhappy.l0 k x1 x9 x10 (wrap64 (x11+1)) x173000) else (some (rd x9 x11,true)))) else (none)) else (none)) else (some (0,false))
def closure_unhappy.f (k:Nat) (l0_0:List (S92)) (a1:Int):Option (Int × Bool):=(nodeset_Nodes.f k a1).bind fun t173=>(closure_unhappy.l0 k a1 t173 (t173.length:Int) 0 l0_0)
set_option maxHeartbeats 8000000 in
set_option maxRecDepth 100000 in
theorem closure_unhappy.calls (k:Nat) (A0_0:Option Addr) (c0_0:Nat) (l0_0:List (S92)) (a1:Int) (r1:Int) (r2:Bool) (w:World) (hr0_0:Kd.C k92 w A0_0 l0_0.length l0_0) (hc0_0:l0_0.length≤c0_0) (h:closure_unhappy.f k l0_0 a1=some (r1,r2)) :
  Calls Tryz.prog 179 #[.agg #[.slice A0_0 l0_0.length c0_0],.int .i64 a1] w fun e w'=>e=.returned (.tuple #[.int .i64 r1,.bool r2])∧Below w.heap.size w w':=by
 have hu25:=Tryz.underlying25
 have HR0_0:=Z hr0_0
 have HC0_0:=Z hc0_0
 clear hr0_0 hc0_0
 have HB:=Z (Below.refl w.heap.size w)
 have H:((nodeset_Nodes.f k a1).bind fun t173=>(closure_unhappy.l0 k a1 t173 (t173.length:Int) 0 l0_0))=some (r1,r2):=h
 clear h
 replace H:=pO H
 obtain ⟨t173,A30,H⟩:=H
 try dsimp only at H
 have A3:=Z A30
 clear A30
 have H':=Z H
 clear H
 go_enter Tryz.func179,Tryz.ntmps179
 go_wp2_with (first|((with_reducible refine gate_dst (N:=2) rfl ?_);refine box_event ?hg (N:=2) ?hd (cs:=#[.slice A0_0 l0_0.length c0_0]) (t:=25) ?hr ?_;(case hd=>rfl);(case hg=>rfl);(case hr=>first|(go_simp;done)|(go_simp;rfl));intro gb172 hg w4 hbox hb;have n0_:=Z (below_step pB hb);have BK172:=Z (hbox);have GW172:=Z ((pT hg:w.heap.size≤gb172));have GE172:=Z ((pT hg:w.heap.size≤gb172));clear HB;have HB:=n0_;clear n0_ hb hbox hg)|((with_reducible refine gate_callee (f:=101) rfl ?_);refine goesL_ (some 9) rfl rfl Tryz.func101 pU rfl #[.int .i64 a1] rfl pG ?_;(with_reducible refine (nodeset_Nodes.calls k a1 t173 _ A3.out).mono ?_);rintro e w5 ⟨v174,rfl,ho0,hb⟩;refine ⟨_,rfl,?_⟩;have HO175:=Z (Kd.R_lower ho0 (below_size pB));replace BK172:=Z (blk_below (g:=gb172) (o:=.cells #[.slice A0_0 l0_0.length c0_0] 25 (0,0)) (pK BK172) hb);have n2_:=Z (below_step pB hb);clear HB;have HB:=n2_;clear n2_;(try clear hb);(try clear hb2);(try clear hk);(try clear hi);(try clear ho0);obtain ⟨Ao6,co6,eo6⟩:=Kd.R_slice HO175.out;subst eo6))
 go_loopg [11] k (fun kq v11 w'=>∃ (x11_1:Int),v11=.int .i64 x11_1∧Aside0 (closure_unhappy.l0 kq a1 t173 (t173.length:Int) x11_1 l0_0=some (r1,r2))∧Aside0 (kq≤k)∧Aside0 (Kd.R (Kd.int .i64) 3 w' w.heap.size (fun _=>True) (.slice Ao6 t173.length co6) t173)∧Aside0 (w'.heap[gb172]?=some (.cells #[(.slice A0_0 l0_0.length c0_0)] 25 (0,0)))∧Aside0 (Below w.heap.size w w'))
 case atStart=>exact ⟨(0),pE,H',⟨Nat.le_refl _⟩,⟨pR HO175⟩,⟨pK BK172⟩,⟨pB⟩⟩
 case round =>
  clear H'
  try clear c1
  try clear p2
  obtain ⟨x11_1,rfl,HA,HK1,HO_9,BK172,HB⟩:=hrel
  cases gk with
  | zero=>exact absurd HA.out (by simp [closure_unhappy.l0])
  | succ k1 =>
   have H:=HA.out
   clear HA
   simp only [closure_unhappy.l0] at H
   by_cases c7:x11_1 < (t173.length:Int)
   ·rw [if_pos c7] at H
    have c7b0:decide (x11_1 < (t173.length:Int))=true:=decide_eq_true c7
    clear c7
    by_cases c8:0≤x11_1
    ·rw [if_pos c8] at H
     have c8b0:decide (0≤x11_1)=true:=decide_eq_true c8
     clear c8
     by_cases c9:x11_1 < (t173.length:Int)
     ·rw [if_pos c9] at H
      have c9b0:decide (x11_1 < (t173.length:Int))=true:=decide_eq_true c9
      clear c9
      replace H:=pO H
      obtain ⟨t177,A100,H⟩:=H
      try dsimp only at H
      have A10:=Z A100
      clear A100
      by_cases c11:t177=true
      ·subst c11
       rw [if_pos rfl] at H
       have H':=Z H
       clear H
       have p176:0≤(x11_1:Int):=of_decide_eq_true pA
       have q176:x11_1 < (t173.length:Int):=of_decide_eq_true pA
       obtain ⟨ad176,e176,hx176_0⟩:=Kd.at_int (Kd.R_reads' HO_9.out).2.2 x11_1 p176 q176
       cases e176
       replace p176:=eq_true p176
       replace q176:=eq_true q176
       have hcz12_0:=pV BK172 (.slice A0_0 l0_0.length c0_0) 0 rfl
       have hfz12_0:=kF BK172.out 0
       go_wp2_with (first|((with_reducible refine gate_callee (f:=206) rfl ?_);refine goesL_ (some 18) rfl rfl Tryz.func206 pU rfl #[.agg #[.slice A0_0 l0_0.length c0_0],.int .i64 (rd t173 x11_1),.int .i64 a1] rfl pG ?_;(with_reducible refine (closure_content.calls k1 _ _ l0_0 (rd t173 x11_1) a1 true _ ?side1 ?side2 A10.out).mono ?_);(case side1=>exact pC HR0_0);(case side2=>exact HC0_0.out);rintro e w13 ⟨rfl,hb⟩;refine ⟨_,rfl,?_⟩;replace HO_9:=Z (Kd.R_below (pR HO_9) hb);replace BK172:=Z (blk_below (g:=gb172) (o:=.cells #[.slice A0_0 l0_0.length c0_0] 25 (0,0)) (pK BK172) hb);have n2_:=Z (below_step pB hb);clear HB;have HB:=n2_;clear n2_;(try clear hb);(try clear hb2);(try clear hk);(try clear hi)))
       go_roundg k1
       case measure=>have:=HK1.out;omega
       case rel=>exact ⟨(wrap64 (x11_1+1)),pE,H',⟨by have:=HK1.out;omega⟩,⟨pR HO_9⟩,⟨pK BK172⟩,⟨pB⟩⟩
      ·replace c11:=Bool.eq_false_iff.mpr c11
       subst c11
       rw [if_neg (show ¬ (false=true) by decide)] at H
       simp only [Option.some.injEq,Prod.mk.injEq] at H
       obtain ⟨rfl,rfl⟩:=H
       have p176:0≤(x11_1:Int):=of_decide_eq_true pA
       have q176:x11_1 < (t173.length:Int):=of_decide_eq_true pA
       obtain ⟨ad176,e176,hx176_0⟩:=Kd.at_int (Kd.R_reads' HO_9.out).2.2 x11_1 p176 q176
       cases e176
       replace p176:=eq_true p176
       replace q176:=eq_true q176
       have hcz14_0:=pV BK172 (.slice A0_0 l0_0.length c0_0) 0 rfl
       have hfz14_0:=kF BK172.out 0
       go_wp2_with (first|((with_reducible refine gate_callee (f:=206) rfl ?_);refine goesL_ (some 18) rfl rfl Tryz.func206 pU rfl #[.agg #[.slice A0_0 l0_0.length c0_0],.int .i64 (rd t173 x11_1),.int .i64 a1] rfl pG ?_;(with_reducible refine (closure_content.calls k1 _ _ l0_0 (rd t173 x11_1) a1 false _ ?side1 ?side2 A10.out).mono ?_);(case side1=>exact pC HR0_0);(case side2=>exact HC0_0.out);rintro e w15 ⟨rfl,hb⟩;refine ⟨_,rfl,?_⟩;replace HO_9:=Z (Kd.R_below (pR HO_9) hb);replace BK172:=Z (blk_below (g:=gb172) (o:=.cells #[.slice A0_0 l0_0.length c0_0] 25 (0,0)) (pK BK172) hb);have n2_:=Z (below_step pB hb);clear HB;have HB:=n2_;clear n2_;(try clear hb);(try clear hb2);(try clear hk);(try clear hi)))
       go_ret2
       exact ⟨pF,pB⟩
     ·rw [if_neg c9] at H
      exact absurd H (by simp)
    ·rw [if_neg c8] at H
     exact absurd H (by simp)
   ·rw [if_neg c7] at H
    have c7b0:decide (x11_1 < (t173.length:Int))=false:=decide_eq_false c7
    clear c7
    simp only [Option.some.injEq,Prod.mk.injEq] at H
    obtain ⟨rfl,rfl⟩:=H
    go_wp2
    go_ret2
    exact ⟨pF,pB⟩
def closure_eliminate.l0:Nat→Int→List Int→List (S92)→Option (Int × List Int)
 | 0,_,_,_=>none
 | k+1,x1,x6,x529000=>(closure_unhappy.f k x529000 x1).bind fun bt531=>(if bt531.2=true then (if x6.length < 17592186044416 then (if 0≤bt531.1 then (closure_eliminate.l0 k (Go.bits .andNot .i64 x1 (shl .i64 1 bt531.1)) (x6++[bt531.1]) x529000) else (none)) else (none)) else (some (x1,x6)))
def closure_eliminate.f (k:Nat) (l0_0:List (S92)) (a1:Int):Option (Int × List Int):=(nodeset_Valid.f a1).bind fun t529=>(if t529=true then ((configuration_Declared.f k l0_0).bind fun t530=>(closure_eliminate.l0 k (Go.bits .and .i64 a1 t530) ([]:List Int) l0_0)) else (some (0,([]:List Int))))
set_option maxHeartbeats 8000000 in
set_option maxRecDepth 100000 in
theorem closure_eliminate.calls (k:Nat) (A0_0:Option Addr) (c0_0:Nat) (l0_0:List (S92)) (a1:Int) (r1:Int) (r2:List Int) (w:World) (hr0_0:Kd.C k92 w A0_0 l0_0.length l0_0) (hc0_0:l0_0.length≤c0_0) (h:closure_eliminate.f k l0_0 a1=some (r1,r2)) :
  Calls Tryz.prog 199 #[.agg #[.slice A0_0 l0_0.length c0_0],.int .i64 a1] w fun e w'=>∃ v1_:Value,e=.returned (.tuple #[.int .i64 r1,v1_])∧Kd.R (Kd.int .i64) 3 w' w.heap.size (fun _=>True) v1_ r2∧Below w.heap.size w w':=by
 have hu25:=Tryz.underlying25
 have HR0_0:=Z hr0_0
 have HC0_0:=Z hc0_0
 clear hr0_0 hc0_0
 have HB:=Z (Below.refl w.heap.size w)
 have H:((nodeset_Valid.f a1).bind fun t529=>(if t529=true then ((configuration_Declared.f k l0_0).bind fun t530=>(closure_eliminate.l0 k (Go.bits .and .i64 a1 t530) ([]:List Int) l0_0)) else (some (0,([]:List Int)))))=some (r1,r2):=h
 clear h
 replace H:=pO H
 obtain ⟨t529,A30,H⟩:=H
 try dsimp only at H
 have A3:=Z A30
 clear A30
 by_cases c4:t529=true
 ·subst c4
  rw [if_pos rfl] at H
  replace H:=pO H
  obtain ⟨t530,A50,H⟩:=H
  try dsimp only at H
  have A5:=Z A50
  clear A50
  have H':=Z H
  clear H
  go_enter Tryz.func199,Tryz.ntmps199
  go_wp2_with (first|((with_reducible refine gate_dst (N:=2) rfl ?_);refine box_event ?hg (N:=2) ?hd (cs:=#[.slice A0_0 l0_0.length c0_0]) (t:=25) ?hr ?_;(case hd=>rfl);(case hg=>rfl);(case hr=>first|(go_simp;done)|(go_simp;rfl));intro gb528 hg w6 hbox hb;have n0_:=Z (below_step pB hb);have BK528:=Z (hbox);have GW528:=Z ((pT hg:w.heap.size≤gb528));have GE528:=Z ((pT hg:w.heap.size≤gb528));clear HB;have HB:=n0_;clear n0_ hb hbox hg)|((with_reducible refine gate_callee (f:=160) rfl ?_);refine goesL_ (some 10) rfl rfl Tryz.func160 pU rfl #[.int .i64 a1] rfl pG ?_;(with_reducible refine (nodeset_Valid.calls a1 true _ A3.out).mono ?_);rintro e w' ⟨rfl,⟨nd,rfl⟩⟩;refine ⟨_,rfl,?_⟩;obtain ⟨hcz7_0,hfz7_0⟩:=p1 BK528)|((with_reducible refine gate_callee (f:=102) rfl ?_);refine goesL_ (some 14) rfl rfl Tryz.func102 pU rfl #[.agg #[.slice A0_0 l0_0.length c0_0]] rfl pG ?_;(with_reducible refine (configuration_Declared.calls k _ _ l0_0 t530 _ ?side1 ?side2 A5.out).mono ?_);(case side1=>exact pC HR0_0);(case side2=>exact HC0_0.out);rintro e w8 ⟨rfl,hb⟩;refine ⟨_,rfl,?_⟩;replace BK528:=Z (blk_below (g:=gb528) (o:=.cells #[.slice A0_0 l0_0.length c0_0] 25 (0,0)) (pK BK528) hb);have n1_:=Z (below_step pB hb);clear HB;have HB:=n1_;clear n1_;(try clear hb);(try clear hb2);(try clear hk);(try clear hi)))
  go_loopg [1,6] k (fun kq v1 v6 w'=>∃ (x1_1:Int) (x6_1:List Int),v1=.int .i64 x1_1∧Aside0 (closure_eliminate.l0 kq x1_1 x6_1 l0_0=some (r1,r2))∧Aside0 (kq≤k)∧Aside0 (Kd.R (Kd.int .i64) 3 w' w.heap.size (fun _=>True) v6 x6_1)∧Aside0 (w'.heap[gb528]?=some (.cells #[(.slice A0_0 l0_0.length c0_0)] 25 (0,0)))∧Aside0 (Below w.heap.size w w'))
  case atStart=>exact ⟨(Go.bits .and .i64 a1 t530),(([]:List Int)),pE,H',⟨Nat.le_refl _⟩,⟨pN⟩,⟨pK BK528⟩,⟨pB⟩⟩
  case round =>
   clear H'
   try clear c1
   try clear p2
   try clear c4
   try clear hcz7_0
   try clear hfz7_0
   obtain ⟨x1_1,x6_1,rfl,HA,HK1,HO_6,BK528,HB⟩:=hrel
   cases gk with
   | zero=>exact absurd HA.out (by simp [closure_eliminate.l0])
   | succ k1 =>
    have H:=HA.out
    clear HA
    simp only [closure_eliminate.l0] at H
    replace H:=pO H
    obtain ⟨⟨t531,t532⟩,A90,H⟩:=H
    try dsimp only at H
    have A9:=Z A90
    clear A90
    by_cases c10:t532=true
    ·subst c10
     rw [if_pos rfl] at H
     by_cases c11:x6_1.length < 17592186044416
     ·rw [if_pos c11] at H
      have LMc11:=Z c11
      clear c11
      obtain ⟨y533,hy533⟩:∃ y_:List Int,y_=(x6_1++[t531]):=⟨_,rfl⟩
      first|rw [← hy533] at H|(replace H:=(Option.bind_some _ _).symm.trans H;rw [← hy533] at H)
      have Ny533:=Z hy533
      clear hy533
      by_cases c12:0≤t531
      ·rw [if_pos c12] at H
       have c12b0:=eq_true c12
       have c12b1:decide (0≤t531)=true:=decide_eq_true c12
       clear c12
       obtain ⟨ji13,hji13⟩:∃ j_:Int,(shl .i64 1 t531)=j_:=⟨_,rfl⟩
       replace H:(closure_eliminate.l0 k1 (Go.bits .andNot .i64 x1_1 (ji13)) y533 l0_0)=some (r1,r2):=by first|(rw [hji13] at H;exact H)|(simp only [hji13] at H ⊢;exact H)
       (try rw [hji13] at A9)
       have hji13_:(IntKind.i64.wrap (1 * 2 ^ min t531.toNat 64))=ji13:=hji13
       have hji13z:t531≤64→(IntKind.i64.wrap (1 * 2 ^ t531.toNat))=ji13:=shl_small hji13
       have hji13u:(IntKind.i64.wrap (2 ^ min t531.toNat 64))=ji13:=by have h_:=hji13_;rw [Int.one_mul] at h_;exact h_
       have hji13v:t531≤64→(IntKind.i64.wrap (2 ^ t531.toNat))=ji13:=fun hle_=>by have h_:=hji13z hle_;rw [Int.one_mul] at h_;exact h_
       have hji13y:(wrap64 (1 * 2 ^ min t531.toNat 64))=ji13:=(i64_w _).symm.trans hji13_
       have hji13x:t531≤64→(wrap64 (1 * 2 ^ t531.toNat))=ji13:=fun h_=>(i64_w _).symm.trans (hji13z h_)
       have H':=Z H
       clear H
       have hcz14_0:=pV BK528 (.slice A0_0 l0_0.length c0_0) 0 rfl
       have hfz14_0:=kF BK528.out 0
       go_wp2_with (first|((with_reducible refine gate_callee (f:=179) rfl ?_);refine goesL_ (some 19) rfl rfl Tryz.func179 pU rfl #[.agg #[.slice A0_0 l0_0.length c0_0],.int .i64 x1_1] rfl pG ?_;(with_reducible refine (closure_unhappy.calls k1 _ _ l0_0 x1_1 t531 true _ ?side1 ?side2 A9.out).mono ?_);(case side1=>exact pC HR0_0);(case side2=>exact HC0_0.out);rintro e w15 ⟨rfl,hb⟩;refine ⟨_,rfl,?_⟩;replace HO_6:=Z (Kd.R_below (pR HO_6) hb);replace BK528:=Z (blk_below (g:=gb528) (o:=.cells #[.slice A0_0 l0_0.length c0_0] 25 (0,0)) (pK BK528) hb);have n2_:=Z (below_step pB hb);clear HB;have HB:=n2_;clear n2_;(try clear hb);(try clear hb2);(try clear hk);(try clear hi))|((with_reducible refine gate_builtin (b:=.append) (xs:=#[.tmp 26,.tmp 28]) rfl ?_);at_builtin;refine Kd.R_append (Kd.int .i64) (w0:=w) w.heap.size rfl (.tmp 26) (.tmp 28) 22 3 (.int .i64 0) 8 rfl Tryz.underlying22 info3 rfl (by decide) (by omega) u6 x6_1 t531 [.int .i64 t531] (fun _=>True) (fun _=>False) rfl rfl ?aP (fun _ hk=>hk.elim) ?aF ?aO ?aB ?aS ?aL ?_;(case aP=>exact rfl);(case aB=>exact pB);(case aF=>exact (fun _ _=>trivial));(case aO=>exact (pR HO_6));(case aS=>exact (below_size pB));(case aL=>have:=LMc11.out;omega);intro v534 w16 ho hb hg hat;rw [← Ny533.out] at ho;have n0_:=Z (blk_grown (g:=gb528) (o:=.cells #[.slice A0_0 l0_0.length c0_0] 25 (0,0)) (pK BK528) hg (Kd.R_ne HO_6.out BK528.out (by decide)));have n1_:=Z (hb);have n2_:=Z (ho);clear BK528 HB HO_6;have BK528:=n0_;have HB:=n1_;have HO535:=n2_;clear n0_ n1_ n2_ ho hb hg hat))
       go_roundg k1
       case measure=>have:=HK1.out;omega
       case rel=>exact ⟨(Go.bits .andNot .i64 x1_1 (ji13)),(y533),(by first|exact pE|(simp only [← hji13] <;> (first|rfl|simp))),H',⟨by have:=HK1.out;omega⟩,⟨pR HO535⟩,⟨pK BK528⟩,⟨pB⟩⟩
      ·rw [if_neg c12] at H
       exact absurd H (by simp)
     ·rw [if_neg c11] at H
      exact absurd H (by simp)
    ·replace c10:=Bool.eq_false_iff.mpr c10
     subst c10
     rw [if_neg (show ¬ (false=true) by decide)] at H
     simp only [Option.some.injEq,Prod.mk.injEq] at H
     obtain ⟨rfl,rfl⟩:=H
     have hcz17_0:=pV BK528 (.slice A0_0 l0_0.length c0_0) 0 rfl
     have hfz17_0:=kF BK528.out 0
     go_wp2_with (first|((with_reducible refine gate_callee (f:=179) rfl ?_);refine goesL_ (some 19) rfl rfl Tryz.func179 pU rfl #[.agg #[.slice A0_0 l0_0.length c0_0],.int .i64 x1_1] rfl pG ?_;(with_reducible refine (closure_unhappy.calls k1 _ _ l0_0 x1_1 t531 false _ ?side1 ?side2 A9.out).mono ?_);(case side1=>exact pC HR0_0);(case side2=>exact HC0_0.out);rintro e w18 ⟨rfl,hb⟩;refine ⟨_,rfl,?_⟩;replace HO_6:=Z (Kd.R_below (pR HO_6) hb);replace BK528:=Z (blk_below (g:=gb528) (o:=.cells #[.slice A0_0 l0_0.length c0_0] 25 (0,0)) (pK BK528) hb);have n2_:=Z (below_step pB hb);clear HB;have HB:=n2_;clear n2_;(try clear hb);(try clear hb2);(try clear hk);(try clear hi)))
     go_ret2
     exact ⟨_,pF,pR HO_6,pB⟩
 ·replace c4:=Bool.eq_false_iff.mpr c4
  subst c4
  rw [if_neg (show ¬ (false=true) by decide)] at H
  simp only [Option.some.injEq,Prod.mk.injEq] at H
  obtain ⟨rfl,rfl⟩:=H
  go_enter Tryz.func199,Tryz.ntmps199
  go_wp2_with (first|((with_reducible refine gate_dst (N:=2) rfl ?_);refine box_event ?hg (N:=2) ?hd (cs:=#[.slice A0_0 l0_0.length c0_0]) (t:=25) ?hr ?_;(case hd=>rfl);(case hg=>rfl);(case hr=>first|(go_simp;done)|(go_simp;rfl));intro gb528 hg w19 hbox hb;have n0_:=Z (below_step pB hb);have BK528:=Z (hbox);have GW528:=Z ((pT hg:w.heap.size≤gb528));have GE528:=Z ((pT hg:w.heap.size≤gb528));clear HB;have HB:=n0_;clear n0_ hb hbox hg)|((with_reducible refine gate_callee (f:=160) rfl ?_);refine goesL_ (some 10) rfl rfl Tryz.func160 pU rfl #[.int .i64 a1] rfl pG ?_;(with_reducible refine (nodeset_Valid.calls a1 false _ A3.out).mono ?_);rintro e w' ⟨rfl,⟨nd,rfl⟩⟩;refine ⟨_,rfl,?_⟩))
  go_ret2
  exact ⟨_,pF,pN,pB⟩
def closure_Greatest.f (k:Nat) (l0_0:List (S92)) (a1:Int):Option (Int):=(closure_eliminate.f k l0_0 a1).bind fun bt537=>(some bt537.1)
set_option maxHeartbeats 8000000 in
set_option maxRecDepth 100000 in
theorem closure_Greatest.calls (k:Nat) (A0_0:Option Addr) (c0_0:Nat) (l0_0:List (S92)) (a1:Int) (r:Int) (w:World) (hr0_0:Kd.C k92 w A0_0 l0_0.length l0_0) (hc0_0:l0_0.length≤c0_0) (h:closure_Greatest.f k l0_0 a1=some r) :
  Calls Tryz.prog 170 #[.agg #[.slice A0_0 l0_0.length c0_0],.int .i64 a1] w fun e w'=>e=.returned (.int .i64 r)∧Below w.heap.size w w':=by
 have hu25:=Tryz.underlying25
 have HR0_0:=Z hr0_0
 have HC0_0:=Z hc0_0
 clear hr0_0 hc0_0
 have HB:=Z (Below.refl w.heap.size w)
 have H:((closure_eliminate.f k l0_0 a1).bind fun bt537=>(some bt537.1))=some r:=h
 clear h
 replace H:=pO H
 obtain ⟨⟨t537,t538⟩,A30,H⟩:=H
 try dsimp only at H
 have A3:=Z A30
 clear A30
 obtain rfl:=Option.some.inj H
 go_enter Tryz.func170,Tryz.ntmps170
 go_wp2_with (first|((with_reducible refine gate_dst (N:=2) rfl ?_);refine box_event ?hg (N:=2) ?hd (cs:=#[.slice A0_0 l0_0.length c0_0]) (t:=25) ?hr ?_;(case hd=>rfl);(case hg=>rfl);(case hr=>first|(go_simp;done)|(go_simp;rfl));intro gb536 hg w4 hbox hb;have n0_:=Z (below_step pB hb);have BK536:=Z (hbox);have GW536:=Z ((pT hg:w.heap.size≤gb536));have GE536:=Z ((pT hg:w.heap.size≤gb536));clear HB;have HB:=n0_;clear n0_ hb hbox hg;obtain ⟨hcz5_0,hfz5_0⟩:=p1 BK536)|((with_reducible refine gate_callee (f:=199) rfl ?_);refine goesL_ (some 10) rfl rfl Tryz.func199 pU rfl #[.agg #[.slice A0_0 l0_0.length c0_0],.int .i64 a1] rfl pG ?_;(with_reducible refine (closure_eliminate.calls k _ _ l0_0 a1 t537 t538 _ ?side1 ?side2 A3.out).mono ?_);(case side1=>exact pC HR0_0);(case side2=>exact HC0_0.out);rintro e w6 ⟨v539,rfl,ho0,hb⟩;refine ⟨_,rfl,?_⟩;have HO540:=Z (Kd.R_lower ho0 (below_size pB));replace BK536:=Z (blk_below (g:=gb536) (o:=.cells #[.slice A0_0 l0_0.length c0_0] 25 (0,0)) (pK BK536) hb);have n2_:=Z (below_step pB hb);clear HB;have HB:=n2_;clear n2_;(try clear hb);(try clear hb2);(try clear hk);(try clear hi);(try clear ho0)))
 go_ret
 exact ⟨pF,pB⟩
def danger_halts.f (k:Nat) (l0_0:List (S92)) (a1:Int):Option (Bool):=(danger_members.f l0_0).bind fun t542=>((closure_Greatest.f k l0_0 (Go.bits .andNot .i64 t542 a1)).bind fun t543=>(some (t543 == 0)))
def danger_halts.T1:Bool × List (List Nat × List Nat):=(true,[([],[]),([],[]),([1],[1]),([],[]),([2,3],[2,3]),([0,4,2],[0,4]),([5],[5]),([6,5,0,1,2,3,4,5,6],[6])])
def danger_halts.B1:List Nat:=[0,0,2,0,14,31,63,127]
theorem danger_halts.tab1:rtab .any (opsOf Tryz.f109 1)=danger_halts.T1:=by kernel_rfl
theorem danger_halts.bits1:waitsOk danger_halts.T1.2 danger_halts.B1=true:=by kernel_rfl
set_option maxHeartbeats 8000000 in
set_option maxRecDepth 100000 in
theorem danger_halts.calls (k:Nat) (A0_0:Option Addr) (c0_0:Nat) (l0_0:List (S92)) (a1:Int) (r:Bool) (w:World) (hr0_0:Kd.C k92 w A0_0 l0_0.length l0_0) (hc0_0:l0_0.length≤c0_0) (h:danger_halts.f k l0_0 a1=some r) :
  Calls Tryz.prog 109 #[.agg #[.slice A0_0 l0_0.length c0_0],.int .i64 a1] w fun e w'=>e=.returned (.bool r)∧Below w.heap.size w w':=by
 have hu25:=Tryz.underlying25
 have HR0_0:=Z hr0_0
 have HC0_0:=Z hc0_0
 clear hr0_0 hc0_0
 have HB:=Z (Below.refl w.heap.size w)
 have H:((danger_members.f l0_0).bind fun t542=>((closure_Greatest.f k l0_0 (Go.bits .andNot .i64 t542 a1)).bind fun t543=>(some (t543 == 0))))=some r:=h
 clear h
 replace H:=pO H
 obtain ⟨t542,A30,H⟩:=H
 try dsimp only at H
 have A3:=Z A30
 clear A30
 replace H:=pO H
 obtain ⟨t543,A40,H⟩:=H
 try dsimp only at H
 have A4:=Z A40
 clear A40
 obtain rfl:=Option.some.inj H
 go_enter Tryz.func109,Tryz.ntmps109
 try go_wp2_with (first|((with_reducible refine gate_dst (N:=2) rfl ?_);refine box_event ?hg (N:=2) ?hd (cs:=#[.slice A0_0 l0_0.length c0_0]) (t:=25) ?hr ?_;(case hd=>rfl);(case hg=>rfl);(case hr=>first|(go_simp;done)|(go_simp;rfl));intro gb541 hg w5 hbox hb;have n0_:=Z (below_step pB hb);have BK541:=Z (hbox);have GW541:=Z ((pT hg:w.heap.size≤gb541));have GE541:=Z ((pT hg:w.heap.size≤gb541));clear HB;have HB:=n0_;clear n0_ hb hbox hg))
 have n0_:=Z (kD BK541.out)
 have n1_:=Z (wD HB.out)
 clear BK541 HB
 have BK541:=n0_
 have HB:=n1_
 clear n0_ n1_
 refine start_ (n:=8) (S:=fun w'=>w'.cell? ⟨gb541,0,none⟩=some (.slice A0_0 l0_0.length c0_0)) (ds:=[]) #[false,false,false,false,false,false,false,false] pU rfl rfl ((kC BK541.out 0).trans rfl) (fun hHeld=>?_);refine with_tabW danger_halts.tab1 danger_halts.bits1 (fun HT_ HW_=>?_)
 generalize w5.drew=w6 at BK541 HB hHeld ⊢
 refine pure_ (i:=3) (N:=some 8) (v:=?_) (a':=?_) #[false,false,false,true,false,false,false,false] rfl rfl (any_of HT_.out pU) (fun _ _ _ h=>h) (Or.inl ⟨by rfl,?_⟩) ?_ ?_
 rotate_left
 ·intro w'
  go_simp
  with_reducible rfl
 rotate_left
 ·simp only [Act.put,List.setIfInBounds_toArray,List.set_cons_zero,List.set_cons_succ,i64_w,i32_w]
  rfl
 refine take_ (i:=0) (N:=some 5) (v:=?_) (a':=?_) #[true,false,false,true,false,false,false,false] rfl rfl (take_ofW HT_.out HW_.out pU) (fun _ _ _ h=>h) (Or.inl ⟨by rfl,?_⟩) hHeld ?_ ?_
 rotate_left
 ·intro w' s0
  go_simp
  with_reducible rfl
 rotate_left
 ·simp only [Act.put,List.setIfInBounds_toArray,List.set_cons_zero,List.set_cons_succ,i64_w,i32_w]
  rfl
 refine take_ (i:=1) (N:=some 6) (v:=?_) (a':=?_) #[true,true,false,true,false,false,false,false] rfl rfl (take_ofW HT_.out HW_.out pU) (fun _ _ _ h=>h) (Or.inl ⟨by rfl,?_⟩) hHeld ?_ ?_
 rotate_left
 ·intro w' s0
  go_simp
  with_reducible rfl
 rotate_left
 ·simp only [Act.put,List.setIfInBounds_toArray,List.set_cons_zero,List.set_cons_succ,i64_w,i32_w]
  rfl
 refine one_ (i:=2) (N:=some 7) #[true,true,true,true,false,false,false,false] rfl rfl (one_of HT_.out pU) (by decide) (fun K hK=>?_)
 refine goes_ Tryz.func169 pU rfl #[.agg #[.slice A0_0 l0_0.length c0_0]] (by rfl) rfl rfl pG ?_
 with_reducible refine (danger_members.calls _ _ l0_0 t542 _ ?side1 ?side2 A3.out).mono ?_
 (case side1=>exact pC HR0_0)
 (case side2=>exact HC0_0.out)
 rintro e w7 ⟨rfl,hb⟩
 refine ⟨_,rfl,?_⟩
 have n0_:=Z (blk_below (g:=gb541) (o:=.cells #[.slice A0_0 l0_0.length c0_0] 25 (0,0)) (pK BK541) hb)
 have n1_:=Z (below_step pB hb)
 clear BK541 HB
 have BK541:=n0_
 have HB:=n1_
 clear n0_ n1_
 (try clear hb)
 (try clear hb2)
 (try clear hk)
 (try clear hi)
 refine hK.out _ _ ((kC BK541.out 0).trans rfl) (fun hHeld=>?_)
 clear hK K
 refine norm_ (a':=?_) ?_ ?_
 rotate_left
 ·show Act.put _ (some 7) _=_
  simp only [Act.put,List.setIfInBounds_toArray,List.set_cons_zero,List.set_cons_succ,i64_w,i32_w]
  rfl
 refine pure_ (i:=4) (N:=some 9) (v:=?_) (a':=?_) #[true,true,true,true,true,false,false,false] rfl rfl (any_of HT_.out pU) (fun _ _ _ h=>h) (Or.inl ⟨by rfl,?_⟩) ?_ ?_
 rotate_left
 ·intro w'
  go_simp
  with_reducible rfl
 rotate_left
 ·simp only [Act.put,List.setIfInBounds_toArray,List.set_cons_zero,List.set_cons_succ,i64_w,i32_w]
  rfl
 refine one_ (i:=5) (N:=some 10) #[true,true,true,true,true,true,false,false] rfl rfl (one_of HT_.out pU) (by decide) (fun K hK=>?_)
 refine goes_ Tryz.func170 pU rfl #[.agg #[.slice A0_0 l0_0.length c0_0],.int .i64 (Go.bits .andNot .i64 t542 a1)] (by rfl) rfl rfl pG ?_
 with_reducible refine (closure_Greatest.calls k _ _ l0_0 (Go.bits .andNot .i64 t542 a1) t543 _ ?side1 ?side2 A4.out).mono ?_
 (case side1=>exact pC HR0_0)
 (case side2=>exact HC0_0.out)
 rintro e w8 ⟨rfl,hb⟩
 refine ⟨_,rfl,?_⟩
 have n0_:=Z (blk_below (g:=gb541) (o:=.cells #[.slice A0_0 l0_0.length c0_0] 25 (0,0)) (pK BK541) hb)
 have n1_:=Z (below_step pB hb)
 clear BK541 HB
 have BK541:=n0_
 have HB:=n1_
 clear n0_ n1_
 (try clear hb)
 (try clear hb2)
 (try clear hk)
 (try clear hi)
 refine hK.out _ _ ((kC BK541.out 0).trans rfl) (fun hHeld=>?_)
 clear hK K
 refine norm_ (a':=?_) ?_ ?_
 rotate_left
 ·show Act.put _ (some 10) _=_
  simp only [Act.put,List.setIfInBounds_toArray,List.set_cons_zero,List.set_cons_succ,i64_w,i32_w]
  rfl
 refine pure_ (i:=6) (N:=some 11) (v:=?_) (a':=?_) #[true,true,true,true,true,true,true,false] rfl rfl (any_of HT_.out pU) (fun _ _ _ h=>h) (Or.inl ⟨by rfl,?_⟩) ?_ ?_
 rotate_left
 ·intro w'
  go_simp
  with_reducible rfl
 rotate_left
 ·simp only [Act.put,List.setIfInBounds_toArray,List.set_cons_zero,List.set_cons_succ,i64_w,i32_w]
  rfl
 refine pure_ (i:=7) (N:=some 4) (v:=?_) (a':=?_) #[true,true,true,true,true,true,true,true] rfl rfl (any_of HT_.out pU) (fun _ _ _ h=>h) (Or.inl ⟨by rfl,?_⟩) ?_ ?_
 rotate_left
 ·intro w'
  go_simp
  with_reducible rfl
 rotate_left
 ·simp only [Act.put,List.setIfInBounds_toArray,List.set_cons_zero,List.set_cons_succ,i64_w,i32_w]
  rfl
 refine done_ (done_of HT_.out pU) ?_
 try go_wp2
 go_ret
 exact ⟨pF,pB⟩
def bits_OnesCount64.f (a0:Int):Option (Int):=some (Go.bits .and .i64 (wrap64 (IntKind.u64.wrap ((IntKind.u64.wrap ((IntKind.u64.wrap ((Go.bits .and .u64 (IntKind.u64.wrap (((IntKind.u64.wrap ((Go.bits .and .u64 ((IntKind.u64.wrap ((Go.bits .and .u64 (a0 / 2) 6148914691236517205)+(Go.bits .and .u64 a0 6148914691236517205))) / 4) 3689348814741910323)+(Go.bits .and .u64 (IntKind.u64.wrap ((Go.bits .and .u64 (a0 / 2) 6148914691236517205)+(Go.bits .and .u64 a0 6148914691236517205))) 3689348814741910323))) / 16)+(IntKind.u64.wrap ((Go.bits .and .u64 ((IntKind.u64.wrap ((Go.bits .and .u64 (a0 / 2) 6148914691236517205)+(Go.bits .and .u64 a0 6148914691236517205))) / 4) 3689348814741910323)+(Go.bits .and .u64 (IntKind.u64.wrap ((Go.bits .and .u64 (a0 / 2) 6148914691236517205)+(Go.bits .and .u64 a0 6148914691236517205))) 3689348814741910323))))) 1085102592571150095)+((Go.bits .and .u64 (IntKind.u64.wrap (((IntKind.u64.wrap ((Go.bits .and .u64 ((IntKind.u64.wrap ((Go.bits .and .u64 (a0 / 2) 6148914691236517205)+(Go.bits .and .u64 a0 6148914691236517205))) / 4) 3689348814741910323)+(Go.bits .and .u64 (IntKind.u64.wrap ((Go.bits .and .u64 (a0 / 2) 6148914691236517205)+(Go.bits .and .u64 a0 6148914691236517205))) 3689348814741910323))) / 16)+(IntKind.u64.wrap ((Go.bits .and .u64 ((IntKind.u64.wrap ((Go.bits .and .u64 (a0 / 2) 6148914691236517205)+(Go.bits .and .u64 a0 6148914691236517205))) / 4) 3689348814741910323)+(Go.bits .and .u64 (IntKind.u64.wrap ((Go.bits .and .u64 (a0 / 2) 6148914691236517205)+(Go.bits .and .u64 a0 6148914691236517205))) 3689348814741910323))))) 1085102592571150095) / 256)))+((IntKind.u64.wrap ((Go.bits .and .u64 (IntKind.u64.wrap (((IntKind.u64.wrap ((Go.bits .and .u64 ((IntKind.u64.wrap ((Go.bits .and .u64 (a0 / 2) 6148914691236517205)+(Go.bits .and .u64 a0 6148914691236517205))) / 4) 3689348814741910323)+(Go.bits .and .u64 (IntKind.u64.wrap ((Go.bits .and .u64 (a0 / 2) 6148914691236517205)+(Go.bits .and .u64 a0 6148914691236517205))) 3689348814741910323))) / 16)+(IntKind.u64.wrap ((Go.bits .and .u64 ((IntKind.u64.wrap ((Go.bits .and .u64 (a0 / 2) 6148914691236517205)+(Go.bits .and .u64 a0 6148914691236517205))) / 4) 3689348814741910323)+(Go.bits .and .u64 (IntKind.u64.wrap ((Go.bits .and .u64 (a0 / 2) 6148914691236517205)+(Go.bits .and .u64 a0 6148914691236517205))) 3689348814741910323))))) 1085102592571150095)+((Go.bits .and .u64 (IntKind.u64.wrap (((IntKind.u64.wrap ((Go.bits .and .u64 ((IntKind.u64.wrap ((Go.bits .and .u64 (a0 / 2) 6148914691236517205)+(Go.bits .and .u64 a0 6148914691236517205))) / 4) 3689348814741910323)+(Go.bits .and .u64 (IntKind.u64.wrap ((Go.bits .and .u64 (a0 / 2) 6148914691236517205)+(Go.bits .and .u64 a0 6148914691236517205))) 3689348814741910323))) / 16)+(IntKind.u64.wrap ((Go.bits .and .u64 ((IntKind.u64.wrap ((Go.bits .and .u64 (a0 / 2) 6148914691236517205)+(Go.bits .and .u64 a0 6148914691236517205))) / 4) 3689348814741910323)+(Go.bits .and .u64 (IntKind.u64.wrap ((Go.bits .and .u64 (a0 / 2) 6148914691236517205)+(Go.bits .and .u64 a0 6148914691236517205))) 3689348814741910323))))) 1085102592571150095) / 256))) / 65536)))+((IntKind.u64.wrap ((IntKind.u64.wrap ((Go.bits .and .u64 (IntKind.u64.wrap (((IntKind.u64.wrap ((Go.bits .and .u64 ((IntKind.u64.wrap ((Go.bits .and .u64 (a0 / 2) 6148914691236517205)+(Go.bits .and .u64 a0 6148914691236517205))) / 4) 3689348814741910323)+(Go.bits .and .u64 (IntKind.u64.wrap ((Go.bits .and .u64 (a0 / 2) 6148914691236517205)+(Go.bits .and .u64 a0 6148914691236517205))) 3689348814741910323))) / 16)+(IntKind.u64.wrap ((Go.bits .and .u64 ((IntKind.u64.wrap ((Go.bits .and .u64 (a0 / 2) 6148914691236517205)+(Go.bits .and .u64 a0 6148914691236517205))) / 4) 3689348814741910323)+(Go.bits .and .u64 (IntKind.u64.wrap ((Go.bits .and .u64 (a0 / 2) 6148914691236517205)+(Go.bits .and .u64 a0 6148914691236517205))) 3689348814741910323))))) 1085102592571150095)+((Go.bits .and .u64 (IntKind.u64.wrap (((IntKind.u64.wrap ((Go.bits .and .u64 ((IntKind.u64.wrap ((Go.bits .and .u64 (a0 / 2) 6148914691236517205)+(Go.bits .and .u64 a0 6148914691236517205))) / 4) 3689348814741910323)+(Go.bits .and .u64 (IntKind.u64.wrap ((Go.bits .and .u64 (a0 / 2) 6148914691236517205)+(Go.bits .and .u64 a0 6148914691236517205))) 3689348814741910323))) / 16)+(IntKind.u64.wrap ((Go.bits .and .u64 ((IntKind.u64.wrap ((Go.bits .and .u64 (a0 / 2) 6148914691236517205)+(Go.bits .and .u64 a0 6148914691236517205))) / 4) 3689348814741910323)+(Go.bits .and .u64 (IntKind.u64.wrap ((Go.bits .and .u64 (a0 / 2) 6148914691236517205)+(Go.bits .and .u64 a0 6148914691236517205))) 3689348814741910323))))) 1085102592571150095) / 256)))+((IntKind.u64.wrap ((Go.bits .and .u64 (IntKind.u64.wrap (((IntKind.u64.wrap ((Go.bits .and .u64 ((IntKind.u64.wrap ((Go.bits .and .u64 (a0 / 2) 6148914691236517205)+(Go.bits .and .u64 a0 6148914691236517205))) / 4) 3689348814741910323)+(Go.bits .and .u64 (IntKind.u64.wrap ((Go.bits .and .u64 (a0 / 2) 6148914691236517205)+(Go.bits .and .u64 a0 6148914691236517205))) 3689348814741910323))) / 16)+(IntKind.u64.wrap ((Go.bits .and .u64 ((IntKind.u64.wrap ((Go.bits .and .u64 (a0 / 2) 6148914691236517205)+(Go.bits .and .u64 a0 6148914691236517205))) / 4) 3689348814741910323)+(Go.bits .and .u64 (IntKind.u64.wrap ((Go.bits .and .u64 (a0 / 2) 6148914691236517205)+(Go.bits .and .u64 a0 6148914691236517205))) 3689348814741910323))))) 1085102592571150095)+((Go.bits .and .u64 (IntKind.u64.wrap (((IntKind.u64.wrap ((Go.bits .and .u64 ((IntKind.u64.wrap ((Go.bits .and .u64 (a0 / 2) 6148914691236517205)+(Go.bits .and .u64 a0 6148914691236517205))) / 4) 3689348814741910323)+(Go.bits .and .u64 (IntKind.u64.wrap ((Go.bits .and .u64 (a0 / 2) 6148914691236517205)+(Go.bits .and .u64 a0 6148914691236517205))) 3689348814741910323))) / 16)+(IntKind.u64.wrap ((Go.bits .and .u64 ((IntKind.u64.wrap ((Go.bits .and .u64 (a0 / 2) 6148914691236517205)+(Go.bits .and .u64 a0 6148914691236517205))) / 4) 3689348814741910323)+(Go.bits .and .u64 (IntKind.u64.wrap ((Go.bits .and .u64 (a0 / 2) 6148914691236517205)+(Go.bits .and .u64 a0 6148914691236517205))) 3689348814741910323))))) 1085102592571150095) / 256))) / 65536))) / 4294967296)))) 127)
set_option maxHeartbeats 8000000 in
set_option maxRecDepth 100000 in
theorem bits_OnesCount64.calls (a0:Int) (r:Int) (w:World) (h:bits_OnesCount64.f a0=some r) :
  Calls Tryz.prog 225 #[.int .u64 a0] w fun e w'=>e=.returned (.int .i64 r)∧Drawn0 w w':=by
 have H:(some (Go.bits .and .i64 (wrap64 (IntKind.u64.wrap ((IntKind.u64.wrap ((IntKind.u64.wrap ((Go.bits .and .u64 (IntKind.u64.wrap (((IntKind.u64.wrap ((Go.bits .and .u64 ((IntKind.u64.wrap ((Go.bits .and .u64 (a0 / 2) 6148914691236517205)+(Go.bits .and .u64 a0 6148914691236517205))) / 4) 3689348814741910323)+(Go.bits .and .u64 (IntKind.u64.wrap ((Go.bits .and .u64 (a0 / 2) 6148914691236517205)+(Go.bits .and .u64 a0 6148914691236517205))) 3689348814741910323))) / 16)+(IntKind.u64.wrap ((Go.bits .and .u64 ((IntKind.u64.wrap ((Go.bits .and .u64 (a0 / 2) 6148914691236517205)+(Go.bits .and .u64 a0 6148914691236517205))) / 4) 3689348814741910323)+(Go.bits .and .u64 (IntKind.u64.wrap ((Go.bits .and .u64 (a0 / 2) 6148914691236517205)+(Go.bits .and .u64 a0 6148914691236517205))) 3689348814741910323))))) 1085102592571150095)+((Go.bits .and .u64 (IntKind.u64.wrap (((IntKind.u64.wrap ((Go.bits .and .u64 ((IntKind.u64.wrap ((Go.bits .and .u64 (a0 / 2) 6148914691236517205)+(Go.bits .and .u64 a0 6148914691236517205))) / 4) 3689348814741910323)+(Go.bits .and .u64 (IntKind.u64.wrap ((Go.bits .and .u64 (a0 / 2) 6148914691236517205)+(Go.bits .and .u64 a0 6148914691236517205))) 3689348814741910323))) / 16)+(IntKind.u64.wrap ((Go.bits .and .u64 ((IntKind.u64.wrap ((Go.bits .and .u64 (a0 / 2) 6148914691236517205)+(Go.bits .and .u64 a0 6148914691236517205))) / 4) 3689348814741910323)+(Go.bits .and .u64 (IntKind.u64.wrap ((Go.bits .and .u64 (a0 / 2) 6148914691236517205)+(Go.bits .and .u64 a0 6148914691236517205))) 3689348814741910323))))) 1085102592571150095) / 256)))+((IntKind.u64.wrap ((Go.bits .and .u64 (IntKind.u64.wrap (((IntKind.u64.wrap ((Go.bits .and .u64 ((IntKind.u64.wrap ((Go.bits .and .u64 (a0 / 2) 6148914691236517205)+(Go.bits .and .u64 a0 6148914691236517205))) / 4) 3689348814741910323)+(Go.bits .and .u64 (IntKind.u64.wrap ((Go.bits .and .u64 (a0 / 2) 6148914691236517205)+(Go.bits .and .u64 a0 6148914691236517205))) 3689348814741910323))) / 16)+(IntKind.u64.wrap ((Go.bits .and .u64 ((IntKind.u64.wrap ((Go.bits .and .u64 (a0 / 2) 6148914691236517205)+(Go.bits .and .u64 a0 6148914691236517205))) / 4) 3689348814741910323)+(Go.bits .and .u64 (IntKind.u64.wrap ((Go.bits .and .u64 (a0 / 2) 6148914691236517205)+(Go.bits .and .u64 a0 6148914691236517205))) 3689348814741910323))))) 1085102592571150095)+((Go.bits .and .u64 (IntKind.u64.wrap (((IntKind.u64.wrap ((Go.bits .and .u64 ((IntKind.u64.wrap ((Go.bits .and .u64 (a0 / 2) 6148914691236517205)+(Go.bits .and .u64 a0 6148914691236517205))) / 4) 3689348814741910323)+(Go.bits .and .u64 (IntKind.u64.wrap ((Go.bits .and .u64 (a0 / 2) 6148914691236517205)+(Go.bits .and .u64 a0 6148914691236517205))) 3689348814741910323))) / 16)+(IntKind.u64.wrap ((Go.bits .and .u64 ((IntKind.u64.wrap ((Go.bits .and .u64 (a0 / 2) 6148914691236517205)+(Go.bits .and .u64 a0 6148914691236517205))) / 4) 3689348814741910323)+(Go.bits .and .u64 (IntKind.u64.wrap ((Go.bits .and .u64 (a0 / 2) 6148914691236517205)+(Go.bits .and .u64 a0 6148914691236517205))) 3689348814741910323))))) 1085102592571150095) / 256))) / 65536)))+((IntKind.u64.wrap ((IntKind.u64.wrap ((Go.bits .and .u64 (IntKind.u64.wrap (((IntKind.u64.wrap ((Go.bits .and .u64 ((IntKind.u64.wrap ((Go.bits .and .u64 (a0 / 2) 6148914691236517205)+(Go.bits .and .u64 a0 6148914691236517205))) / 4) 3689348814741910323)+(Go.bits .and .u64 (IntKind.u64.wrap ((Go.bits .and .u64 (a0 / 2) 6148914691236517205)+(Go.bits .and .u64 a0 6148914691236517205))) 3689348814741910323))) / 16)+(IntKind.u64.wrap ((Go.bits .and .u64 ((IntKind.u64.wrap ((Go.bits .and .u64 (a0 / 2) 6148914691236517205)+(Go.bits .and .u64 a0 6148914691236517205))) / 4) 3689348814741910323)+(Go.bits .and .u64 (IntKind.u64.wrap ((Go.bits .and .u64 (a0 / 2) 6148914691236517205)+(Go.bits .and .u64 a0 6148914691236517205))) 3689348814741910323))))) 1085102592571150095)+((Go.bits .and .u64 (IntKind.u64.wrap (((IntKind.u64.wrap ((Go.bits .and .u64 ((IntKind.u64.wrap ((Go.bits .and .u64 (a0 / 2) 6148914691236517205)+(Go.bits .and .u64 a0 6148914691236517205))) / 4) 3689348814741910323)+(Go.bits .and .u64 (IntKind.u64.wrap ((Go.bits .and .u64 (a0 / 2) 6148914691236517205)+(Go.bits .and .u64 a0 6148914691236517205))) 3689348814741910323))) / 16)+(IntKind.u64.wrap ((Go.bits .and .u64 ((IntKind.u64.wrap ((Go.bits .and .u64 (a0 / 2) 6148914691236517205)+(Go.bits .and .u64 a0 6148914691236517205))) / 4) 3689348814741910323)+(Go.bits .and .u64 (IntKind.u64.wrap ((Go.bits .and .u64 (a0 / 2) 6148914691236517205)+(Go.bits .and .u64 a0 6148914691236517205))) 3689348814741910323))))) 1085102592571150095) / 256)))+((IntKind.u64.wrap ((Go.bits .and .u64 (IntKind.u64.wrap (((IntKind.u64.wrap ((Go.bits .and .u64 ((IntKind.u64.wrap ((Go.bits .and .u64 (a0 / 2) 6148914691236517205)+(Go.bits .and .u64 a0 6148914691236517205))) / 4) 3689348814741910323)+(Go.bits .and .u64 (IntKind.u64.wrap ((Go.bits .and .u64 (a0 / 2) 6148914691236517205)+(Go.bits .and .u64 a0 6148914691236517205))) 3689348814741910323))) / 16)+(IntKind.u64.wrap ((Go.bits .and .u64 ((IntKind.u64.wrap ((Go.bits .and .u64 (a0 / 2) 6148914691236517205)+(Go.bits .and .u64 a0 6148914691236517205))) / 4) 3689348814741910323)+(Go.bits .and .u64 (IntKind.u64.wrap ((Go.bits .and .u64 (a0 / 2) 6148914691236517205)+(Go.bits .and .u64 a0 6148914691236517205))) 3689348814741910323))))) 1085102592571150095)+((Go.bits .and .u64 (IntKind.u64.wrap (((IntKind.u64.wrap ((Go.bits .and .u64 ((IntKind.u64.wrap ((Go.bits .and .u64 (a0 / 2) 6148914691236517205)+(Go.bits .and .u64 a0 6148914691236517205))) / 4) 3689348814741910323)+(Go.bits .and .u64 (IntKind.u64.wrap ((Go.bits .and .u64 (a0 / 2) 6148914691236517205)+(Go.bits .and .u64 a0 6148914691236517205))) 3689348814741910323))) / 16)+(IntKind.u64.wrap ((Go.bits .and .u64 ((IntKind.u64.wrap ((Go.bits .and .u64 (a0 / 2) 6148914691236517205)+(Go.bits .and .u64 a0 6148914691236517205))) / 4) 3689348814741910323)+(Go.bits .and .u64 (IntKind.u64.wrap ((Go.bits .and .u64 (a0 / 2) 6148914691236517205)+(Go.bits .and .u64 a0 6148914691236517205))) 3689348814741910323))))) 1085102592571150095) / 256))) / 65536))) / 4294967296)))) 127))=some r:=h
 clear h
 obtain rfl:=Option.some.inj H
 go_enter Tryz.func225,Tryz.ntmps225
 go_wp2
 go_ret
 exact ⟨pE,pD⟩
def bits_OnesCount.f (a0:Int):Option (Int):=(bits_OnesCount64.f a0).bind fun t145=>(some t145)
set_option maxHeartbeats 8000000 in
set_option maxRecDepth 100000 in
theorem bits_OnesCount.calls (a0:Int) (r:Int) (w:World) (h:bits_OnesCount.f a0=some r) :
  Calls Tryz.prog 204 #[.int .u64 a0] w fun e w'=>e=.returned (.int .i64 r)∧Drawn0 w w':=by
 have H:((bits_OnesCount64.f a0).bind fun t145=>(some t145))=some r:=h
 clear h
 replace H:=pO H
 obtain ⟨t145,A20,H⟩:=H
 try dsimp only at H
 have A2:=Z A20
 clear A20
 obtain rfl:=Option.some.inj H
 go_enter Tryz.func204,Tryz.ntmps204
 go_wp2_with (first|((with_reducible refine gate_callee (f:=225) rfl ?_);refine goesL_ (some 7) rfl rfl Tryz.func225 pU rfl #[.int .u64 a0] rfl pG ?_;(with_reducible refine (bits_OnesCount64.calls a0 t145 _ A2.out).mono ?_);rintro e w' ⟨rfl,⟨nd,rfl⟩⟩;refine ⟨_,rfl,?_⟩))
 go_ret
 exact ⟨pE,pD⟩
def nodeset_Size.f (a0:Int):Option (Int):=(nodeset_Valid.f a0).bind fun t146=>(if t146=true then ((bits_OnesCount.f (IntKind.u64.wrap (a0))).bind fun t147=>(some t147)) else (some 0))
set_option maxHeartbeats 8000000 in
set_option maxRecDepth 100000 in
theorem nodeset_Size.calls (a0:Int) (r:Int) (w:World) (h:nodeset_Size.f a0=some r) :
  Calls Tryz.prog 175 #[.int .i64 a0] w fun e w'=>e=.returned (.int .i64 r)∧Drawn0 w w':=by
 have H:((nodeset_Valid.f a0).bind fun t146=>(if t146=true then ((bits_OnesCount.f (IntKind.u64.wrap (a0))).bind fun t147=>(some t147)) else (some 0)))=some r:=h
 clear h
 replace H:=pO H
 obtain ⟨t146,A20,H⟩:=H
 try dsimp only at H
 have A2:=Z A20
 clear A20
 by_cases c3:t146=true
 ·subst c3
  rw [if_pos rfl] at H
  replace H:=pO H
  obtain ⟨t147,A40,H⟩:=H
  try dsimp only at H
  have A4:=Z A40
  clear A40
  obtain rfl:=Option.some.inj H
  go_enter Tryz.func175,Tryz.ntmps175
  go_wp2_with (first|((with_reducible refine gate_callee (f:=160) rfl ?_);refine goesL_ (some 4) rfl rfl Tryz.func160 pU rfl #[.int .i64 a0] rfl pG ?_;(with_reducible refine (nodeset_Valid.calls a0 true _ A2.out).mono ?_);rintro e w' ⟨rfl,⟨nd,rfl⟩⟩;refine ⟨_,rfl,?_⟩)|((with_reducible refine gate_callee (f:=204) rfl ?_);refine goesL_ (some 8) rfl rfl Tryz.func204 pU rfl #[.int .u64 (IntKind.u64.wrap (a0))] rfl pG ?_;(with_reducible refine (bits_OnesCount.calls (IntKind.u64.wrap (a0)) t147 _ A4.out).mono ?_);rintro e w' ⟨rfl,⟨nd,rfl⟩⟩;refine ⟨_,rfl,?_⟩))
  go_ret
  exact ⟨pE,pD⟩
 ·replace c3:=Bool.eq_false_iff.mpr c3
  subst c3
  rw [if_neg (show ¬ (false=true) by decide)] at H
  obtain rfl:=Option.some.inj H
  go_enter Tryz.func175,Tryz.ntmps175
  go_wp2_with (first|((with_reducible refine gate_callee (f:=160) rfl ?_);refine goesL_ (some 4) rfl rfl Tryz.func160 pU rfl #[.int .i64 a0] rfl pG ?_;(with_reducible refine (nodeset_Valid.calls a0 false _ A2.out).mono ?_);rintro e w' ⟨rfl,⟨nd,rfl⟩⟩;refine ⟨_,rfl,?_⟩))
  go_ret
  exact ⟨pE,pD⟩
def nodeset_rank.f (a0:Int):Option (Int):=(nodeset_Valid.f a0).bind fun t148=>(if t148=true then ((nodeset_Size.f a0).bind fun t149=>(some t149)) else (some (-1)))
set_option maxHeartbeats 8000000 in
set_option maxRecDepth 100000 in
theorem nodeset_rank.calls (a0:Int) (r:Int) (w:World) (h:nodeset_rank.f a0=some r) :
  Calls Tryz.prog 196 #[.int .i64 a0] w fun e w'=>e=.returned (.int .i64 r)∧Drawn0 w w':=by
 have H:((nodeset_Valid.f a0).bind fun t148=>(if t148=true then ((nodeset_Size.f a0).bind fun t149=>(some t149)) else (some (-1))))=some r:=h
 clear h
 replace H:=pO H
 obtain ⟨t148,A20,H⟩:=H
 try dsimp only at H
 have A2:=Z A20
 clear A20
 by_cases c3:t148=true
 ·subst c3
  rw [if_pos rfl] at H
  replace H:=pO H
  obtain ⟨t149,A40,H⟩:=H
  try dsimp only at H
  have A4:=Z A40
  clear A40
  obtain rfl:=Option.some.inj H
  go_enter Tryz.func196,Tryz.ntmps196
  go_wp2_with (first|((with_reducible refine gate_callee (f:=160) rfl ?_);refine goesL_ (some 4) rfl rfl Tryz.func160 pU rfl #[.int .i64 a0] rfl pG ?_;(with_reducible refine (nodeset_Valid.calls a0 true _ A2.out).mono ?_);rintro e w' ⟨rfl,⟨nd,rfl⟩⟩;refine ⟨_,rfl,?_⟩)|((with_reducible refine gate_callee (f:=175) rfl ?_);refine goesL_ (some 7) rfl rfl Tryz.func175 pU rfl #[.int .i64 a0] rfl pG ?_;(with_reducible refine (nodeset_Size.calls a0 t149 _ A4.out).mono ?_);rintro e w' ⟨rfl,⟨nd,rfl⟩⟩;refine ⟨_,rfl,?_⟩))
  go_ret
  exact ⟨pE,pD⟩
 ·replace c3:=Bool.eq_false_iff.mpr c3
  subst c3
  rw [if_neg (show ¬ (false=true) by decide)] at H
  obtain rfl:=Option.some.inj H
  go_enter Tryz.func196,Tryz.ntmps196
  go_wp2_with (first|((with_reducible refine gate_callee (f:=160) rfl ?_);refine goesL_ (some 4) rfl rfl Tryz.func160 pU rfl #[.int .i64 a0] rfl pG ?_;(with_reducible refine (nodeset_Valid.calls a0 false _ A2.out).mono ?_);rintro e w' ⟨rfl,⟨nd,rfl⟩⟩;refine ⟨_,rfl,?_⟩))
  go_ret
  exact ⟨pE,pD⟩
def cmp_isNaN_int.f (a0:Int):Option (Bool):=some (a0 != a0)
set_option maxHeartbeats 8000000 in
set_option maxRecDepth 100000 in
theorem cmp_isNaN_int.calls (a0:Int) (r:Bool) (w:World) (h:cmp_isNaN_int.f a0=some r) :
  Calls Tryz.prog 222 #[.int .i64 a0] w fun e w'=>e=.returned (.bool r)∧Drawn0 w w':=by
 have H:(some (a0 != a0))=some r:=h
 clear h
 obtain rfl:=Option.some.inj H
 go_enter Tryz.func222,Tryz.ntmps222
 go_wp2
 go_ret
 exact ⟨pE,pD⟩
def cmp_Compare_int.f (a0:Int) (a1:Int):Option (Int):=(cmp_isNaN_int.f a0).bind fun t150=>((cmp_isNaN_int.f a1).bind fun t151=>(if t150=true then (if t151=true then (some 0) else (some (-1))) else (if t151=true then (some 1) else (if a0 < a1 then (some (-1)) else (if a0 > a1 then (some 1) else (some 0))))))
set_option maxHeartbeats 8000000 in
set_option maxRecDepth 100000 in
theorem cmp_Compare_int.calls (a0:Int) (a1:Int) (r:Int) (w:World) (h:cmp_Compare_int.f a0 a1=some r) :
  Calls Tryz.prog 195 #[.int .i64 a0,.int .i64 a1] w fun e w'=>e=.returned (.int .i64 r)∧Drawn0 w w':=by
 have H:((cmp_isNaN_int.f a0).bind fun t150=>((cmp_isNaN_int.f a1).bind fun t151=>(if t150=true then (if t151=true then (some 0) else (some (-1))) else (if t151=true then (some 1) else (if a0 < a1 then (some (-1)) else (if a0 > a1 then (some 1) else (some 0)))))))=some r:=h
 clear h
 replace H:=pO H
 obtain ⟨t150,A30,H⟩:=H
 try dsimp only at H
 have A3:=Z A30
 clear A30
 replace H:=pO H
 obtain ⟨t151,A40,H⟩:=H
 try dsimp only at H
 have A4:=Z A40
 clear A40
 by_cases c5:t150=true
 ·subst c5
  rw [if_pos rfl] at H
  by_cases c6:t151=true
  ·subst c6
   rw [if_pos rfl] at H
   obtain rfl:=Option.some.inj H
   go_enter Tryz.func195,Tryz.ntmps195
   go_wp2_with (first|((with_reducible refine gate_callee (f:=222) rfl ?_);refine goesL_ (some 8) rfl rfl Tryz.func222 pU rfl #[.int .i64 a0] rfl pG ?_;(with_reducible refine (cmp_isNaN_int.calls a0 true _ A3.out).mono ?_);rintro e w' ⟨rfl,⟨nd,rfl⟩⟩;refine ⟨_,rfl,?_⟩)|((with_reducible refine gate_callee (f:=222) rfl ?_);refine goesL_ (some 10) rfl rfl Tryz.func222 pU rfl #[.int .i64 a1] rfl pG ?_;(with_reducible refine (cmp_isNaN_int.calls a1 true _ A4.out).mono ?_);rintro e w' ⟨rfl,⟨nd,rfl⟩⟩;refine ⟨_,rfl,?_⟩))
   go_ret
   exact ⟨pE,pD⟩
  ·replace c6:=Bool.eq_false_iff.mpr c6
   subst c6
   rw [if_neg (show ¬ (false=true) by decide)] at H
   obtain rfl:=Option.some.inj H
   go_enter Tryz.func195,Tryz.ntmps195
   go_wp2_with (first|((with_reducible refine gate_callee (f:=222) rfl ?_);refine goesL_ (some 8) rfl rfl Tryz.func222 pU rfl #[.int .i64 a0] rfl pG ?_;(with_reducible refine (cmp_isNaN_int.calls a0 true _ A3.out).mono ?_);rintro e w' ⟨rfl,⟨nd,rfl⟩⟩;refine ⟨_,rfl,?_⟩)|((with_reducible refine gate_callee (f:=222) rfl ?_);refine goesL_ (some 10) rfl rfl Tryz.func222 pU rfl #[.int .i64 a1] rfl pG ?_;(with_reducible refine (cmp_isNaN_int.calls a1 false _ A4.out).mono ?_);rintro e w' ⟨rfl,⟨nd,rfl⟩⟩;refine ⟨_,rfl,?_⟩))
   go_ret
   exact ⟨pE,pD⟩
 ·replace c5:=Bool.eq_false_iff.mpr c5
  subst c5
  rw [if_neg (show ¬ (false=true) by decide)] at H
  by_cases c7:t151=true
  ·subst c7
   rw [if_pos rfl] at H
   obtain rfl:=Option.some.inj H
   go_enter Tryz.func195,Tryz.ntmps195
   go_wp2_with (first|((with_reducible refine gate_callee (f:=222) rfl ?_);refine goesL_ (some 8) rfl rfl Tryz.func222 pU rfl #[.int .i64 a0] rfl pG ?_;(with_reducible refine (cmp_isNaN_int.calls a0 false _ A3.out).mono ?_);rintro e w' ⟨rfl,⟨nd,rfl⟩⟩;refine ⟨_,rfl,?_⟩)|((with_reducible refine gate_callee (f:=222) rfl ?_);refine goesL_ (some 10) rfl rfl Tryz.func222 pU rfl #[.int .i64 a1] rfl pG ?_;(with_reducible refine (cmp_isNaN_int.calls a1 true _ A4.out).mono ?_);rintro e w' ⟨rfl,⟨nd,rfl⟩⟩;refine ⟨_,rfl,?_⟩))
   go_ret
   exact ⟨pE,pD⟩
  ·replace c7:=Bool.eq_false_iff.mpr c7
   subst c7
   rw [if_neg (show ¬ (false=true) by decide)] at H
   by_cases c8:a0 < a1
   ·rw [if_pos c8] at H
    have c8b0:decide (a0 < a1)=true:=decide_eq_true c8
    clear c8
    obtain rfl:=Option.some.inj H
    go_enter Tryz.func195,Tryz.ntmps195
    go_wp2_with (first|((with_reducible refine gate_callee (f:=222) rfl ?_);refine goesL_ (some 8) rfl rfl Tryz.func222 pU rfl #[.int .i64 a0] rfl pG ?_;(with_reducible refine (cmp_isNaN_int.calls a0 false _ A3.out).mono ?_);rintro e w' ⟨rfl,⟨nd,rfl⟩⟩;refine ⟨_,rfl,?_⟩)|((with_reducible refine gate_callee (f:=222) rfl ?_);refine goesL_ (some 10) rfl rfl Tryz.func222 pU rfl #[.int .i64 a1] rfl pG ?_;(with_reducible refine (cmp_isNaN_int.calls a1 false _ A4.out).mono ?_);rintro e w' ⟨rfl,⟨nd,rfl⟩⟩;refine ⟨_,rfl,?_⟩))
    go_ret
    exact ⟨pE,pD⟩
   ·rw [if_neg c8] at H
    have c8b0:decide (a0 < a1)=false:=decide_eq_false c8
    clear c8
    by_cases c9:a0 > a1
    ·rw [if_pos c9] at H
     have c9b0:decide (a1 < a0)=true:=decide_eq_true c9
     clear c9
     obtain rfl:=Option.some.inj H
     go_enter Tryz.func195,Tryz.ntmps195
     go_wp2_with (first|((with_reducible refine gate_callee (f:=222) rfl ?_);refine goesL_ (some 8) rfl rfl Tryz.func222 pU rfl #[.int .i64 a0] rfl pG ?_;(with_reducible refine (cmp_isNaN_int.calls a0 false _ A3.out).mono ?_);rintro e w' ⟨rfl,⟨nd,rfl⟩⟩;refine ⟨_,rfl,?_⟩)|((with_reducible refine gate_callee (f:=222) rfl ?_);refine goesL_ (some 10) rfl rfl Tryz.func222 pU rfl #[.int .i64 a1] rfl pG ?_;(with_reducible refine (cmp_isNaN_int.calls a1 false _ A4.out).mono ?_);rintro e w' ⟨rfl,⟨nd,rfl⟩⟩;refine ⟨_,rfl,?_⟩))
     go_ret
     exact ⟨pE,pD⟩
    ·rw [if_neg c9] at H
     have c9b0:decide (a1 < a0)=false:=decide_eq_false c9
     clear c9
     obtain rfl:=Option.some.inj H
     go_enter Tryz.func195,Tryz.ntmps195
     go_wp2_with (first|((with_reducible refine gate_callee (f:=222) rfl ?_);refine goesL_ (some 8) rfl rfl Tryz.func222 pU rfl #[.int .i64 a0] rfl pG ?_;(with_reducible refine (cmp_isNaN_int.calls a0 false _ A3.out).mono ?_);rintro e w' ⟨rfl,⟨nd,rfl⟩⟩;refine ⟨_,rfl,?_⟩)|((with_reducible refine gate_callee (f:=222) rfl ?_);refine goesL_ (some 10) rfl rfl Tryz.func222 pU rfl #[.int .i64 a1] rfl pG ?_;(with_reducible refine (cmp_isNaN_int.calls a1 false _ A4.out).mono ?_);rintro e w' ⟨rfl,⟨nd,rfl⟩⟩;refine ⟨_,rfl,?_⟩))
     go_ret
     exact ⟨pE,pD⟩
def cmp_Or_int.l0:Nat→Int→List Int→Int→Int→Option (Int)
 | 0,_,_,_,_=>none
 | k+1,x3,x6,x7,x8=>if x8 < x7 then (if 0≤x8 then (if x8 < (x6.length:Int) then (if (rd x6 x8)=x3 then (cmp_Or_int.l0 k x3 x6 x7 (wrap64 (x8+1))) else (some (rd x6 x8))) else (none)) else (none)) else (some x3)
def cmp_Or_int.f (k:Nat) (l0:List Int):Option (Int):=cmp_Or_int.l0 k 0 l0 (l0.length:Int) 0
set_option maxHeartbeats 8000000 in
set_option maxRecDepth 100000 in
theorem cmp_Or_int.calls (k:Nat) (A0:Option Addr) (c0:Nat) (l0:List Int) (r:Int) (w:World) (hr0:Kd.C (Kd.int .i64) w A0 l0.length l0) (hc0:l0.length≤c0) (h:cmp_Or_int.f k l0=some r) :
  Calls Tryz.prog 194 #[.slice A0 l0.length c0] w fun e w'=>e=.returned (.int .i64 r)∧Drawn0 w w':=by
 have HR0:=Z hr0
 have HC0:=Z hc0
 clear hr0 hc0
 have H:(cmp_Or_int.l0 k 0 l0 (l0.length:Int) 0)=some r:=h
 clear h
 have H':=Z H
 clear H
 go_enter Tryz.func194,Tryz.ntmps194
 go_wp2
 go_loopg [8] k (fun kq v8 w'=>∃ (x8_1:Int),v8=.int .i64 x8_1∧Aside0 (cmp_Or_int.l0 kq 0 l0 (l0.length:Int) x8_1=some r)∧Aside0 (kq≤k)∧Drawn0 w w')
 case atStart=>exact ⟨(0),pE,H',⟨Nat.le_refl _⟩,by repeat (first|exact Drawn0.refl _|apply Drawn0.step)⟩
 case round =>
  clear H'
  try clear c1
  obtain ⟨x8_1,rfl,HA,HK1,⟨m1,rfl⟩⟩:=hrel
  cases gk with
  | zero=>exact absurd HA.out (by simp [cmp_Or_int.l0])
  | succ k1 =>
   have H:=HA.out
   clear HA
   simp only [cmp_Or_int.l0] at H
   by_cases c2:x8_1 < (l0.length:Int)
   ·rw [if_pos c2] at H
    have c2b0:decide (x8_1 < (l0.length:Int))=true:=decide_eq_true c2
    clear c2
    by_cases c3:0≤x8_1
    ·rw [if_pos c3] at H
     have c3b0:decide (0≤x8_1)=true:=decide_eq_true c3
     clear c3
     by_cases c4:x8_1 < (l0.length:Int)
     ·rw [if_pos c4] at H
      have c4b0:decide (x8_1 < (l0.length:Int))=true:=decide_eq_true c4
      clear c4
      by_cases c5:(rd l0 x8_1)=0
      ·rw [if_pos c5] at H
       have c5b0:((rd l0 x8_1) == 0)=true:=beq_iff_eq.mpr c5
       have c5b1:((rd l0 x8_1) != 0)=false:=bne_eq_false_iff_eq.mpr c5
       clear c5
       have H':=Z H
       clear H
       have p152:0≤(x8_1:Int):=of_decide_eq_true pA
       have q152:x8_1 < (l0.length:Int):=of_decide_eq_true pA
       obtain ⟨ad152,e152,hx152_0⟩:=Kd.at_int HR0.out x8_1 p152 q152
       cases e152
       replace p152:=eq_true p152
       replace q152:=eq_true q152
       go_wp2
       go_roundg k1
       case measure=>have:=HK1.out;omega
       case rel=>exact ⟨(wrap64 (x8_1+1)),pE,H',⟨by have:=HK1.out;omega⟩,by repeat (first|exact Drawn0.refl _|apply Drawn0.step)⟩
      ·rw [if_neg c5] at H
       have c5b0:((rd l0 x8_1) == 0)=false:=beq_eq_false_iff_ne.mpr c5
       have c5b1:((rd l0 x8_1) != 0)=true:=bne_iff_ne.mpr c5
       obtain rfl:=Option.some.inj H
       have p152:0≤(x8_1:Int):=of_decide_eq_true pA
       have q152:x8_1 < (l0.length:Int):=of_decide_eq_true pA
       obtain ⟨ad152,e152,hx152_0⟩:=Kd.at_int HR0.out x8_1 p152 q152
       cases e152
       replace p152:=eq_true p152
       replace q152:=eq_true q152
       go_wp2
       go_ret
       exact ⟨pE,pD⟩
     ·rw [if_neg c4] at H
      exact absurd H (by simp)
    ·rw [if_neg c3] at H
     exact absurd H (by simp)
   ·rw [if_neg c2] at H
    have c2b0:decide (x8_1 < (l0.length:Int))=false:=decide_eq_false c2
    clear c2
    obtain rfl:=Option.some.inj H
    go_wp2
    go_ret
    exact ⟨pE,pD⟩
end Go.Proofs.YtkjlcbfjllpcnaaGreat.X
namespace Go.Proofs.YtkjlcbfjllpcnaaGreat.X
open Go.RowKit Go.Proofs.YtkjlcbfjllpcnaaGreatW.PrintWords Go.Proofs.YtkjlcbfjllpcnaaGreatW.PrintLast Go.Proofs.YtkjlcbfjllpcnaaGreatW.PrintMore
set_option linter.unusedVariables false
def vld (s:Int):Bool:=decide (0≤s) && decide (s < 1024)
def pcn (n:Nat):Nat:=(List.range 10).countP fun k=>n.testBit k
def size (s:Int):Int:=if vld s then (pcn s.toNat:Int) else 0
def rank (s:Int):Int:=if vld s then size s else -1
def cmpI (a b:Int):Int:=if a < b then -1 else if b < a then 1 else 0
def orI (a b:Int):Int:=if a=0 then b else a
def cmpS (a b:Int):Int:=orI (cmpI (rank a) (rank b)) (cmpI a b)
theorem vld_iff {s:Int}:vld s=true ↔ 0≤s∧s < 1024:=by simp [vld]
theorem Valid_eq (s:Int):nodeset_Valid.f s=some (vld s):=by
 have h:shl .i64 1 10=1024:=by decide
 unfold nodeset_Valid.f nodeset_below.f
 by_cases hs:s ≥ 0
 ·rw [if_pos hs,if_pos (by decide),h];simp [vld,hs]
 ·rw [if_neg hs];simp [vld,hs]
def onesOk (n:Nat):Bool:=match bits_OnesCount64.f (n:Int) with
 | some r=>r == (pcn n:Int)
 | none=>false
theorem ones_all:∀ n,n < 1024→onesOk n=true:=by
 have h:(List.range 1024).all onesOk=true:=by decide +kernel
 intro n hn
 exact List.all_eq_true.1 h n (List.mem_range.2 hn)
theorem ones_eq (n:Nat) (hn:n < 1024):bits_OnesCount64.f (n:Int)=some (pcn n:Int):=by
 have h:=ones_all n hn
 unfold onesOk at h
 split at h
 ·rename_i r hr;rw [hr];congr 1;simpa using h
 ·cases h
theorem Size_eq (s:Int):nodeset_Size.f s=some (size s):=by
 unfold nodeset_Size.f
 rw [Valid_eq]
 simp only [Option.bind_some]
 by_cases hv:vld s=true
 ·rw [if_pos hv]
  obtain ⟨h0,h1⟩:=vld_iff.1 hv
  obtain ⟨n,rfl⟩:=Int.eq_ofNat_of_zero_le h0
  have hw:IntKind.u64.wrap (n:Int)=(n:Int):=by
   unfold IntKind.wrap;simp [IntKind.bits,IntKind.signed];omega
  rw [hw]
  unfold bits_OnesCount.f
  rw [ones_eq n (by omega)]
  simp [size,hv]
 ·rw [if_neg hv];simp [size,hv]
theorem rank_eq (s:Int):nodeset_rank.f s=some (rank s):=by
 unfold nodeset_rank.f
 rw [Valid_eq]
 simp only [Option.bind_some]
 by_cases hv:vld s=true
 ·rw [if_pos hv,Size_eq];simp [rank,hv]
 ·rw [if_neg hv];simp [rank,hv]
theorem cmpI_eq (a b:Int):cmp_Compare_int.f a b=some (cmpI a b):=by
 unfold cmp_Compare_int.f cmp_isNaN_int.f
 simp [cmpI]
 split
 ·rfl
 ·split <;> rfl
theorem or2_eq (a b:Int):cmp_Or_int.f 4 [a,b]=some (orI a b):=by
 unfold cmp_Or_int.f orI
 simp [cmp_Or_int.l0,rd,wrap64]
 by_cases ha:a=0
 ·subst ha
  by_cases hb:b=0
  ·subst hb;simp
  ·simp [hb]
 ·simp [ha]
theorem gate_val {P:Program} {ops:Array Oper} {rest:List Oper} {o:Oper} {a:Act} {Q:Exit→Act→World→Prop} {W:World} {x:Operand} {ags:Array Operand} {ts:Array TypeId} (_ho:o.op=.call { callee:=.value x,args:=ags,argTypes:=ts }) (h:wpList P ops Q (o :: rest) a W):wpList P ops Q (o :: rest) a W:=h
theorem goesV_ {P : Program} {ops : Array Oper} {Q : Exit → Act → World → Prop} {rest : List Oper} {oi : Oper} {a : Act} {w : World} (N : Option Tmp) (hd : oi.dst = N) (hg : oi.guard = none) {x : Operand} {f : FuncId} {fn : Func} {ags : Array Operand} {ts : Array TypeId} (hf : P.funcs[f]? = some fn) (hname : (fn.name == "runtime.NumGoroutine") = false) (hb : fn.body.isSome = true) (args : Array Value)
    (hop : oi.op = .call { callee := .value x, args := ags, argTypes := ts }) (hx : a.eval x = .func (.func f) #[] #[]) (hargs : ags.map a.eval = args)
    (h : Calls P f args w fun e w' => ∃ v, e = .returned v ∧ wpList P ops Q rest (a.put N v) w') : wpList P ops Q (oi :: rest) a w := by
  refine wpList_plain hg fun K hK => ?_
  have he := enters_ hf hname hb args w
  have hrun : (execOp a.eval oi).run P w = .ok (.enter f args) w := by
    unfold execOp
    simp [hop, resolve, Deferred.ofValue, invoke, hargs, he, hx]
  unfold Oper.wp
  rw [hrun, Oper.upon_enter]
  refine h.mono fun e w'' hh => ?_
  obtain ⟨v, rfl, hk⟩ := hh
  subst hd
  exact hK _ _ hk
end Go.Proofs.YtkjlcbfjllpcnaaGreat.X
namespace Go.Proofs.YtkjlcbfjllpcnaaGreat.X
open Go.RowKit Go.Proofs.YtkjlcbfjllpcnaaGreatW.PrintWords Go.Proofs.YtkjlcbfjllpcnaaGreatW.PrintLast Go.Proofs.YtkjlcbfjllpcnaaGreatW.PrintMore
attribute [local go_sem] max2_int min2_int max_two min_two max_three min_three max_four min_four
set_option linter.unusedVariables false
set_option linter.unusedSimpArgs false
def closure_inside.f (k:Nat) (l0_0:List (S92)) (a1:Int):Option (Bool):=(configuration_Declared.f k l0_0).bind fun t157=>(some ((Go.bits .andNot .i64 a1 t157) == 0))
set_option maxHeartbeats 8000000 in
set_option maxRecDepth 100000 in
theorem closure_inside.calls (k:Nat) (A0_0:Option Addr) (c0_0:Nat) (l0_0:List (S92)) (a1:Int) (r:Bool) (w:World) (hr0_0:Kd.C k92 w A0_0 l0_0.length l0_0) (hc0_0:l0_0.length≤c0_0) (h:closure_inside.f k l0_0 a1=some r) :
  Calls Tryz.prog 178 #[.agg #[.slice A0_0 l0_0.length c0_0],.int .i64 a1] w fun e w'=>e=.returned (.bool r)∧Below w.heap.size w w':=by
 have hu25:=Tryz.underlying25
 have HR0_0:=Z hr0_0
 have HC0_0:=Z hc0_0
 clear hr0_0 hc0_0
 have HB:=Z (Below.refl w.heap.size w)
 have H:((configuration_Declared.f k l0_0).bind fun t157=>(some ((Go.bits .andNot .i64 a1 t157) == 0)))=some r:=h
 clear h
 replace H:=pO H
 obtain ⟨t157,A30,H⟩:=H
 try dsimp only at H
 have A3:=Z A30
 clear A30
 obtain rfl:=Option.some.inj H
 go_enter Tryz.func178,Tryz.ntmps178
 go_wp2_with (first|((with_reducible refine gate_dst (N:=2) rfl ?_);refine box_event ?hg (N:=2) ?hd (cs:=#[.slice A0_0 l0_0.length c0_0]) (t:=25) ?hr ?_;(case hd=>rfl);(case hg=>rfl);(case hr=>first|(go_simp;done)|(go_simp;rfl));intro gb156 hg w4 hbox hb;have n0_:=Z (below_step pB hb);have BK156:=Z (hbox);have GW156:=Z ((pT hg:w.heap.size≤gb156));have GE156:=Z ((pT hg:w.heap.size≤gb156));clear HB;have HB:=n0_;clear n0_ hb hbox hg;obtain ⟨hcz5_0,hfz5_0⟩:=p1 BK156)|((with_reducible refine gate_callee (f:=102) rfl ?_);refine goesL_ (some 7) rfl rfl Tryz.func102 pU rfl #[.agg #[.slice A0_0 l0_0.length c0_0]] rfl pG ?_;(with_reducible refine (configuration_Declared.calls k _ _ l0_0 t157 _ ?side1 ?side2 A3.out).mono ?_);(case side1=>exact pC HR0_0);(case side2=>exact HC0_0.out);rintro e w6 ⟨rfl,hb⟩;refine ⟨_,rfl,?_⟩;replace BK156:=Z (blk_below (g:=gb156) (o:=.cells #[.slice A0_0 l0_0.length c0_0] 25 (0,0)) (pK BK156) hb);have n1_:=Z (below_step pB hb);clear HB;have HB:=n1_;clear n1_;(try clear hb);(try clear hb2);(try clear hk);(try clear hi)))
 go_ret
 exact ⟨pF,pB⟩
def closure_Quorum.f (k:Nat) (l0_0:List (S92)) (a1:Int):Option (Bool):=(nodeset_Valid.f a1).bind fun t179=>(if t179=true then (if a1=0 then (some false) else ((closure_inside.f k l0_0 a1).bind fun t180=>(if t180=true then ((closure_unhappy.f k l0_0 a1).bind fun bt181=>(some (!bt181.2))) else (some false)))) else (some false))
set_option maxHeartbeats 8000000 in
set_option maxRecDepth 100000 in
theorem closure_Quorum.calls (k:Nat) (A0_0:Option Addr) (c0_0:Nat) (l0_0:List (S92)) (a1:Int) (r:Bool) (w:World) (hr0_0:Kd.C k92 w A0_0 l0_0.length l0_0) (hc0_0:l0_0.length≤c0_0) (h:closure_Quorum.f k l0_0 a1=some r) :
  Calls Tryz.prog 144 #[.agg #[.slice A0_0 l0_0.length c0_0],.int .i64 a1] w fun e w'=>e=.returned (.bool r)∧Below w.heap.size w w':=by
 have hu25:=Tryz.underlying25
 have HR0_0:=Z hr0_0
 have HC0_0:=Z hc0_0
 clear hr0_0 hc0_0
 have HB:=Z (Below.refl w.heap.size w)
 have H:((nodeset_Valid.f a1).bind fun t179=>(if t179=true then (if a1=0 then (some false) else ((closure_inside.f k l0_0 a1).bind fun t180=>(if t180=true then ((closure_unhappy.f k l0_0 a1).bind fun bt181=>(some (!bt181.2))) else (some false)))) else (some false)))=some r:=h
 clear h
 replace H:=pO H
 obtain ⟨t179,A30,H⟩:=H
 try dsimp only at H
 have A3:=Z A30
 clear A30
 by_cases c4:t179=true
 ·subst c4
  rw [if_pos rfl] at H
  by_cases c5:a1=0
  ·rw [if_pos c5] at H
   have c5b0:(a1 == 0)=true:=beq_iff_eq.mpr c5
   have c5b1:(a1 != 0)=false:=bne_eq_false_iff_eq.mpr c5
   clear c5
   obtain rfl:=Option.some.inj H
   go_enter Tryz.func144,Tryz.ntmps144
   go_wp2_with (first|((with_reducible refine gate_dst (N:=2) rfl ?_);refine box_event ?hg (N:=2) ?hd (cs:=#[.slice A0_0 l0_0.length c0_0]) (t:=25) ?hr ?_;(case hd=>rfl);(case hg=>rfl);(case hr=>first|(go_simp;done)|(go_simp;rfl));intro gb178 hg w6 hbox hb;have n0_:=Z (below_step pB hb);have BK178:=Z (hbox);have GW178:=Z ((pT hg:w.heap.size≤gb178));have GE178:=Z ((pT hg:w.heap.size≤gb178));clear HB;have HB:=n0_;clear n0_ hb hbox hg)|((with_reducible refine gate_callee (f:=160) rfl ?_);refine goesL_ (some 8) rfl rfl Tryz.func160 pU rfl #[.int .i64 a1] rfl pG ?_;(with_reducible refine (nodeset_Valid.calls a1 true _ A3.out).mono ?_);rintro e w' ⟨rfl,⟨nd,rfl⟩⟩;refine ⟨_,rfl,?_⟩))
   go_ret
   exact ⟨pF,pB⟩
  ·rw [if_neg c5] at H
   have c5b0:(a1 == 0)=false:=beq_eq_false_iff_ne.mpr c5
   have c5b1:(a1 != 0)=true:=bne_iff_ne.mpr c5
   replace H:=pO H
   obtain ⟨t180,A70,H⟩:=H
   try dsimp only at H
   have A7:=Z A70
   clear A70
   by_cases c8:t180=true
   ·subst c8
    rw [if_pos rfl] at H
    replace H:=pO H
    obtain ⟨⟨t181,t182⟩,A90,H⟩:=H
    try dsimp only at H
    have A9:=Z A90
    clear A90
    obtain rfl:=Option.some.inj H
    go_enter Tryz.func144,Tryz.ntmps144
    go_wp2_with (first|((with_reducible refine gate_dst (N:=2) rfl ?_);refine box_event ?hg (N:=2) ?hd (cs:=#[.slice A0_0 l0_0.length c0_0]) (t:=25) ?hr ?_;(case hd=>rfl);(case hg=>rfl);(case hr=>first|(go_simp;done)|(go_simp;rfl));intro gb178 hg w10 hbox hb;have n0_:=Z (below_step pB hb);have BK178:=Z (hbox);have GW178:=Z ((pT hg:w.heap.size≤gb178));have GE178:=Z ((pT hg:w.heap.size≤gb178));clear HB;have HB:=n0_;clear n0_ hb hbox hg)|((with_reducible refine gate_callee (f:=160) rfl ?_);refine goesL_ (some 8) rfl rfl Tryz.func160 pU rfl #[.int .i64 a1] rfl pG ?_;(with_reducible refine (nodeset_Valid.calls a1 true _ A3.out).mono ?_);rintro e w' ⟨rfl,⟨nd,rfl⟩⟩;refine ⟨_,rfl,?_⟩;obtain ⟨hcz11_0,hfz11_0⟩:=p1 BK178)|(go_at_call 178;(with_reducible refine (closure_inside.calls k _ _ l0_0 a1 true _ ?side1 ?side2 A7.out).mono ?_);(case side1=>exact pC HR0_0);(case side2=>exact HC0_0.out);rintro e w12 ⟨rfl,hb⟩;replace BK178:=Z (blk_below (g:=gb178) (o:=.cells #[.slice A0_0 l0_0.length c0_0] 25 (0,0)) (pK BK178) hb);have n1_:=Z (below_step pB hb);clear HB;have HB:=n1_;clear n1_;(try clear hb);(try clear hb2);(try clear hk);(try clear hi);obtain ⟨hcz13_0,hfz13_0⟩:=p1 BK178)|((with_reducible refine gate_callee (f:=179) rfl ?_);refine goesL_ (some 23) rfl rfl Tryz.func179 pU rfl #[.agg #[.slice A0_0 l0_0.length c0_0],.int .i64 a1] rfl pG ?_;(with_reducible refine (closure_unhappy.calls k _ _ l0_0 a1 t181 t182 _ ?side1 ?side2 A9.out).mono ?_);(case side1=>exact pC HR0_0);(case side2=>exact HC0_0.out);rintro e w14 ⟨rfl,hb⟩;refine ⟨_,rfl,?_⟩;replace BK178:=Z (blk_below (g:=gb178) (o:=.cells #[.slice A0_0 l0_0.length c0_0] 25 (0,0)) (pK BK178) hb);have n1_:=Z (below_step pB hb);clear HB;have HB:=n1_;clear n1_;(try clear hb);(try clear hb2);(try clear hk);(try clear hi)))
    go_ret
    exact ⟨pF,pB⟩
   ·replace c8:=Bool.eq_false_iff.mpr c8
    subst c8
    rw [if_neg (show ¬ (false=true) by decide)] at H
    obtain rfl:=Option.some.inj H
    go_enter Tryz.func144,Tryz.ntmps144
    go_wp2_with (first|((with_reducible refine gate_dst (N:=2) rfl ?_);refine box_event ?hg (N:=2) ?hd (cs:=#[.slice A0_0 l0_0.length c0_0]) (t:=25) ?hr ?_;(case hd=>rfl);(case hg=>rfl);(case hr=>first|(go_simp;done)|(go_simp;rfl));intro gb178 hg w15 hbox hb;have n0_:=Z (below_step pB hb);have BK178:=Z (hbox);have GW178:=Z ((pT hg:w.heap.size≤gb178));have GE178:=Z ((pT hg:w.heap.size≤gb178));clear HB;have HB:=n0_;clear n0_ hb hbox hg)|((with_reducible refine gate_callee (f:=160) rfl ?_);refine goesL_ (some 8) rfl rfl Tryz.func160 pU rfl #[.int .i64 a1] rfl pG ?_;(with_reducible refine (nodeset_Valid.calls a1 true _ A3.out).mono ?_);rintro e w' ⟨rfl,⟨nd,rfl⟩⟩;refine ⟨_,rfl,?_⟩;obtain ⟨hcz16_0,hfz16_0⟩:=p1 BK178)|(go_at_call 178;(with_reducible refine (closure_inside.calls k _ _ l0_0 a1 false _ ?side1 ?side2 A7.out).mono ?_);(case side1=>exact pC HR0_0);(case side2=>exact HC0_0.out);rintro e w17 ⟨rfl,hb⟩;replace BK178:=Z (blk_below (g:=gb178) (o:=.cells #[.slice A0_0 l0_0.length c0_0] 25 (0,0)) (pK BK178) hb);have n1_:=Z (below_step pB hb);clear HB;have HB:=n1_;clear n1_;(try clear hb);(try clear hb2);(try clear hk);(try clear hi)))
    go_ret
    exact ⟨pF,pB⟩
 ·replace c4:=Bool.eq_false_iff.mpr c4
  subst c4
  rw [if_neg (show ¬ (false=true) by decide)] at H
  obtain rfl:=Option.some.inj H
  go_enter Tryz.func144,Tryz.ntmps144
  go_wp2_with (first|((with_reducible refine gate_dst (N:=2) rfl ?_);refine box_event ?hg (N:=2) ?hd (cs:=#[.slice A0_0 l0_0.length c0_0]) (t:=25) ?hr ?_;(case hd=>rfl);(case hg=>rfl);(case hr=>first|(go_simp;done)|(go_simp;rfl));intro gb178 hg w18 hbox hb;have n0_:=Z (below_step pB hb);have BK178:=Z (hbox);have GW178:=Z ((pT hg:w.heap.size≤gb178));have GE178:=Z ((pT hg:w.heap.size≤gb178));clear HB;have HB:=n0_;clear n0_ hb hbox hg)|((with_reducible refine gate_callee (f:=160) rfl ?_);refine goesL_ (some 8) rfl rfl Tryz.func160 pU rfl #[.int .i64 a1] rfl pG ?_;(with_reducible refine (nodeset_Valid.calls a1 false _ A3.out).mono ?_);rintro e w' ⟨rfl,⟨nd,rfl⟩⟩;refine ⟨_,rfl,?_⟩))
  go_ret
  exact ⟨pF,pB⟩
mutual
def nodeset_Next.j0:Nat→Int→Int→Bool→Option (Int × Bool)
 | 0,_,_,_=>none
 | k+1,x0,x1,x19=>if x19=true then (some (0,false)) else ((nodeset_Size.f x0).bind fun t564=>(nodeset_Next.l0 k x1 t564 (wrap64 (x0+1))))
def nodeset_Next.l0:Nat→Int→Int→Int→Option (Int × Bool)
 | 0,_,_,_=>none
 | k+1,x1,x6,x7=>(nodeset_below.f x7 x1).bind fun t565=>(if t565=true then ((nodeset_Size.f x7).bind fun t566=>(if t566=x6 then (some (x7,true)) else (nodeset_Next.l0 k x1 x6 (wrap64 (x7+1))))) else (if x6=x1 then (some (0,false)) else (if 0≤(wrap64 (x6+1)) then (some (wrap64 ((shl .i64 1 (wrap64 (x6+1))) - 1),true)) else (none))))
end
def nodeset_Next.f (k:Nat) (a0:Int) (a1:Int):Option (Int × Bool):=if a1 < 0 then (nodeset_Next.j0 k a0 a1 true) else (if a1 > 10 then (nodeset_Next.j0 k a0 a1 true) else ((nodeset_below.f a0 a1).bind fun t563=>(nodeset_Next.j0 k a0 a1 (!t563))))
set_option maxHeartbeats 8000000 in
set_option maxRecDepth 100000 in
theorem nodeset_Next.calls (k:Nat) (a0:Int) (a1:Int) (r1:Int) (r2:Bool) (w:World) (h:nodeset_Next.f k a0 a1=some (r1,r2)) :
  Calls Tryz.prog 200 #[.int .i64 a0,.int .i64 a1] w fun e w'=>e=.returned (.tuple #[.int .i64 r1,.bool r2])∧Drawn0 w w':=by
 have H:(if a1 < 0 then (nodeset_Next.j0 k a0 a1 true) else (if a1 > 10 then (nodeset_Next.j0 k a0 a1 true) else ((nodeset_below.f a0 a1).bind fun t563=>(nodeset_Next.j0 k a0 a1 (!t563)))))=some (r1,r2):=h
 clear h
 have HC3:=Z H
 clear H
 go_enter Tryz.func200,Tryz.ntmps200
 go_upto_region 1 with (fail)
 go_cut [19] (fun v19 wc=>∃ (kq:Nat) (x19_2:Bool),v19=.bool x19_2∧Aside0 (nodeset_Next.j0 kq a0 a1 x19_2=some (r1,r2))∧Aside0 (kq≤k)∧Drawn0 w wc)
 case first =>
  have H:=HC3.out
  clear HC3
  by_cases c4:a1 < 0
  ·rw [if_pos c4] at H
   have c4b0:decide (a1 < 0)=true:=decide_eq_true c4
   clear c4
   (first|rw [c4b0]|(simp only [i64_w,i32_w];rw [c4b0])|skip)
   have H':=Z H
   clear H
   go_wp2
   go_meet
   case rel=>exact ⟨_,(true),pE,H',⟨by first|omega|exact Nat.le_refl _⟩,by repeat (first|exact Drawn0.refl _|apply Drawn0.step)⟩
  ·rw [if_neg c4] at H
   have c4b0:decide (a1 < 0)=false:=decide_eq_false c4
   clear c4
   (first|rw [c4b0]|(simp only [i64_w,i32_w];rw [c4b0])|skip)
   by_cases c5:a1 > 10
   ·rw [if_pos c5] at H
    have c5b0:decide (10 < a1)=true:=decide_eq_true c5
    clear c5
    have H':=Z H
    clear H
    go_wp2
    go_meet
    case rel=>exact ⟨_,(true),pE,H',⟨by first|omega|exact Nat.le_refl _⟩,by repeat (first|exact Drawn0.refl _|apply Drawn0.step)⟩
   ·rw [if_neg c5] at H
    have c5b0:decide (10 < a1)=false:=decide_eq_false c5
    clear c5
    replace H:=pO H
    obtain ⟨t563,A60,H⟩:=H
    try dsimp only at H
    have A6:=Z A60
    clear A60
    have H':=Z H
    clear H
    go_wp2_with (first|(go_at_call 191;(with_reducible refine (nodeset_below.calls a0 a1 t563 _ A6.out).mono ?_);rintro e w' ⟨rfl,⟨nd,rfl⟩⟩))
    go_meet
    case rel=>exact ⟨_,(!t563),pE,H',⟨by first|omega|exact Nat.le_refl _⟩,by repeat (first|exact Drawn0.refl _|apply Drawn0.step)⟩
 case rest =>
  clear HC3
  try clear c2
  try clear p2
  try clear c4
  try clear c4b0
  try clear c5
  try clear c5b0
  obtain ⟨kq,x19_2,rfl,HA,HJ2,⟨mc2,rfl⟩⟩:=hcut
  cases kq with
  | zero=>exact absurd HA.out (by simp [nodeset_Next.j0])
  | succ kj2 =>
   have H:=HA.out
   clear HA
   simp only [nodeset_Next.j0] at H
   by_cases c7:x19_2=true
   ·subst c7
    rw [if_pos rfl] at H
    simp only [Option.some.injEq,Prod.mk.injEq] at H
    obtain ⟨rfl,rfl⟩:=H
    go_wp2
    go_ret2
    exact ⟨pE,pD⟩
   ·replace c7:=Bool.eq_false_iff.mpr c7
    subst c7
    rw [if_neg (show ¬ (false=true) by decide)] at H
    replace H:=pO H
    obtain ⟨t564,A80,H⟩:=H
    try dsimp only at H
    have A8:=Z A80
    clear A80
    have H':=Z H
    clear H
    go_wp2_with (first|((with_reducible refine gate_callee (f:=175) rfl ?_);refine goesL_ (some 21) rfl rfl Tryz.func175 pU rfl #[.int .i64 a0] rfl pG ?_;(with_reducible refine (nodeset_Size.calls a0 t564 _ A8.out).mono ?_);rintro e w' ⟨rfl,⟨nd,rfl⟩⟩;refine ⟨_,rfl,?_⟩))
    go_loopg [7] kj2 (fun kq v7 w'=>∃ (x7_2:Int),v7=.int .i64 x7_2∧Aside0 (nodeset_Next.l0 kq a1 t564 x7_2=some (r1,r2))∧Aside0 (kq≤kj2)∧Drawn0 w w')
    case atStart=>exact ⟨(wrap64 (a0+1)),pE,H',⟨Nat.le_refl _⟩,by repeat (first|exact Drawn0.refl _|apply Drawn0.step)⟩
    case round =>
     clear H'
     try clear c1
     try clear c2
     try clear p2
     try clear c4
     try clear c4b0
     try clear c5
     try clear c5b0
     try clear p6
     try clear c7
     obtain ⟨x7_2,rfl,HA,HK2,⟨m2,rfl⟩⟩:=hrel
     cases gk with
     | zero=>exact absurd HA.out (by simp [nodeset_Next.l0])
     | succ k2 =>
      have H:=HA.out
      clear HA
      simp only [nodeset_Next.l0] at H
      replace H:=pO H
      obtain ⟨t565,A90,H⟩:=H
      try dsimp only at H
      have A9:=Z A90
      clear A90
      by_cases c10:t565=true
      ·subst c10
       rw [if_pos rfl] at H
       replace H:=pO H
       obtain ⟨t566,A110,H⟩:=H
       try dsimp only at H
       have A11:=Z A110
       clear A110
       by_cases c12:t566=t564
       ·rw [if_pos c12] at H
        have c12b0:(t566 == t564)=true:=beq_iff_eq.mpr c12
        have c12b1:(t566 != t564)=false:=bne_eq_false_iff_eq.mpr c12
        clear c12
        simp only [Option.some.injEq,Prod.mk.injEq] at H
        obtain ⟨rfl,rfl⟩:=H
        go_wp2_with (first|((with_reducible refine gate_callee (f:=191) rfl ?_);refine goesL_ (some 26) rfl rfl Tryz.func191 pU rfl #[.int .i64 x7_2,.int .i64 a1] rfl pG ?_;(with_reducible refine (nodeset_below.calls x7_2 a1 true _ A9.out).mono ?_);rintro e w' ⟨rfl,⟨nd,rfl⟩⟩;refine ⟨_,rfl,?_⟩)|((with_reducible refine gate_callee (f:=175) rfl ?_);refine goesL_ (some 30) rfl rfl Tryz.func175 pU rfl #[.int .i64 x7_2] rfl pG ?_;(with_reducible refine (nodeset_Size.calls x7_2 t566 _ A11.out).mono ?_);rintro e w' ⟨rfl,⟨nd,rfl⟩⟩;refine ⟨_,rfl,?_⟩))
        go_ret2
        exact ⟨pE,pD⟩
       ·rw [if_neg c12] at H
        have c12b0:(t566 == t564)=false:=beq_eq_false_iff_ne.mpr c12
        have c12b1:(t566 != t564)=true:=bne_iff_ne.mpr c12
        have H':=Z H
        clear H
        go_wp2_with (first|((with_reducible refine gate_callee (f:=191) rfl ?_);refine goesL_ (some 26) rfl rfl Tryz.func191 pU rfl #[.int .i64 x7_2,.int .i64 a1] rfl pG ?_;(with_reducible refine (nodeset_below.calls x7_2 a1 true _ A9.out).mono ?_);rintro e w' ⟨rfl,⟨nd,rfl⟩⟩;refine ⟨_,rfl,?_⟩)|((with_reducible refine gate_callee (f:=175) rfl ?_);refine goesL_ (some 30) rfl rfl Tryz.func175 pU rfl #[.int .i64 x7_2] rfl pG ?_;(with_reducible refine (nodeset_Size.calls x7_2 t566 _ A11.out).mono ?_);rintro e w' ⟨rfl,⟨nd,rfl⟩⟩;refine ⟨_,rfl,?_⟩))
        go_roundg k2
        case measure=>have:=HJ2.out;have:=HK2.out;omega
        case rel=>exact ⟨(wrap64 (x7_2+1)),pE,H',⟨by have:=HJ2.out;have:=HK2.out;omega⟩,by repeat (first|exact Drawn0.refl _|apply Drawn0.step)⟩
      ·replace c10:=Bool.eq_false_iff.mpr c10
       subst c10
       rw [if_neg (show ¬ (false=true) by decide)] at H
       by_cases c13:t564=a1
       ·rw [if_pos c13] at H
        have c13b0:(t564 == a1)=true:=beq_iff_eq.mpr c13
        have c13b1:(t564 != a1)=false:=bne_eq_false_iff_eq.mpr c13
        clear c13
        simp only [Option.some.injEq,Prod.mk.injEq] at H
        obtain ⟨rfl,rfl⟩:=H
        go_wp2_with (first|((with_reducible refine gate_callee (f:=191) rfl ?_);refine goesL_ (some 26) rfl rfl Tryz.func191 pU rfl #[.int .i64 x7_2,.int .i64 a1] rfl pG ?_;(with_reducible refine (nodeset_below.calls x7_2 a1 false _ A9.out).mono ?_);rintro e w' ⟨rfl,⟨nd,rfl⟩⟩;refine ⟨_,rfl,?_⟩))
        go_ret2
        exact ⟨pE,pD⟩
       ·rw [if_neg c13] at H
        have c13b0:(t564 == a1)=false:=beq_eq_false_iff_ne.mpr c13
        have c13b1:(t564 != a1)=true:=bne_iff_ne.mpr c13
        obtain ⟨ji14,hji14⟩:∃ j_:Int,(wrap64 (t564+1))=j_:=⟨_,rfl⟩
        replace H:(if 0≤(ji14) then (some (wrap64 ((shl .i64 1 (ji14)) - 1),true)) else (none))=some (r1,r2):=by first|(rw [hji14] at H;exact H)|(simp only [hji14] at H ⊢;exact H)
        (try rw [hji14] at A9)
        have hji14w:(IntKind.i64.wrap (t564+1))=ji14:=(i64_w _).trans hji14
        by_cases c15:0≤(ji14)
        ·rw [if_pos c15] at H
         have c15b0:=eq_true c15
         have c15b1:decide (0≤(ji14))=true:=decide_eq_true c15
         clear c15
         obtain ⟨ji16,hji16⟩:∃ j_:Int,(shl .i64 1 (ji14))=j_:=⟨_,rfl⟩
         replace H:(some (wrap64 ((ji16) - 1),true))=some (r1,r2):=by first|(rw [hji16] at H;exact H)|(simp only [hji16] at H ⊢;exact H)
         (try rw [hji16] at A9)
         have hji16_:(IntKind.i64.wrap (1 * 2 ^ min (ji14).toNat 64))=ji16:=hji16
         have hji16z:(ji14)≤64→(IntKind.i64.wrap (1 * 2 ^ (ji14).toNat))=ji16:=shl_small hji16
         have hji16u:(IntKind.i64.wrap (2 ^ min (ji14).toNat 64))=ji16:=by have h_:=hji16_;rw [Int.one_mul] at h_;exact h_
         have hji16v:(ji14)≤64→(IntKind.i64.wrap (2 ^ (ji14).toNat))=ji16:=fun hle_=>by have h_:=hji16z hle_;rw [Int.one_mul] at h_;exact h_
         have hji16y:(wrap64 (1 * 2 ^ min (ji14).toNat 64))=ji16:=(i64_w _).symm.trans hji16_
         have hji16x:(ji14)≤64→(wrap64 (1 * 2 ^ (ji14).toNat))=ji16:=fun h_=>(i64_w _).symm.trans (hji16z h_)
         simp only [Option.some.injEq,Prod.mk.injEq] at H
         obtain ⟨rfl,rfl⟩:=H
         go_wp2_with (first|((with_reducible refine gate_callee (f:=191) rfl ?_);refine goesL_ (some 26) rfl rfl Tryz.func191 pU rfl #[.int .i64 x7_2,.int .i64 a1] rfl pG ?_;(with_reducible refine (nodeset_below.calls x7_2 a1 false _ A9.out).mono ?_);rintro e w' ⟨rfl,⟨nd,rfl⟩⟩;refine ⟨_,rfl,?_⟩))
         go_ret2
         exact ⟨by first|rfl|(simp;done)|(simp only [← hji14,← hji16] <;> (first|rfl|simp))|(simp [*];done),by repeat (first|exact Drawn0.refl _|apply Drawn0.step)⟩
        ·rw [if_neg c15] at H
         exact absurd H (by simp)
def intersection_members.f (l0_0:List (S92)):Option (Int):=some (wrap64 ((shl .i64 1 (l0_0.length:Int)) - 1))
set_option maxHeartbeats 8000000 in
set_option maxRecDepth 100000 in
theorem intersection_members.calls (A0_0:Option Addr) (c0_0:Nat) (l0_0:List (S92)) (r:Int) (w:World) (hr0_0:Kd.C k92 w A0_0 l0_0.length l0_0) (hc0_0:l0_0.length≤c0_0) (h:intersection_members.f l0_0=some r) :
  Calls Tryz.prog 201 #[.agg #[.slice A0_0 l0_0.length c0_0]] w fun e w'=>e=.returned (.int .i64 r)∧Below w.heap.size w w':=by
 have hu25:=Tryz.underlying25
 have HR0_0:=Z hr0_0
 have HC0_0:=Z hc0_0
 clear hr0_0 hc0_0
 have HB:=Z (Below.refl w.heap.size w)
 have H:(some (wrap64 ((shl .i64 1 (l0_0.length:Int)) - 1)))=some r:=h
 clear h
 obtain ⟨ji2,hji2⟩:∃ j_:Int,(shl .i64 1 (l0_0.length:Int))=j_:=⟨_,rfl⟩
 replace H:(some (wrap64 ((ji2) - 1)))=some r:=by first|(rw [hji2] at H;exact H)|(simp only [hji2] at H ⊢;exact H)
 have hji2_:(IntKind.i64.wrap (1 * 2 ^ min (l0_0.length:Int).toNat 64))=ji2:=hji2
 have hji2z:(l0_0.length:Int)≤64→(IntKind.i64.wrap (1 * 2 ^ (l0_0.length:Int).toNat))=ji2:=shl_small hji2
 have hji2p:(IntKind.i64.wrap (1 * 2 ^ min l0_0.length 64))=ji2:=hji2_
 have hji2q:(l0_0.length:Int)≤64→(IntKind.i64.wrap (1 * 2 ^ l0_0.length))=ji2:=hji2z
 have hji2r:(IntKind.i64.wrap (2 ^ min l0_0.length 64))=ji2:=by have h_:=hji2p;rw [Int.one_mul] at h_;exact h_
 have hji2s:(l0_0.length:Int)≤64→(IntKind.i64.wrap (2 ^ l0_0.length))=ji2:=fun hle_=>by have h_:=hji2q hle_;rw [Int.one_mul] at h_;exact h_
 have hji2u:(IntKind.i64.wrap (2 ^ min (l0_0.length:Int).toNat 64))=ji2:=by have h_:=hji2_;rw [Int.one_mul] at h_;exact h_
 have hji2v:(l0_0.length:Int)≤64→(IntKind.i64.wrap (2 ^ (l0_0.length:Int).toNat))=ji2:=fun hle_=>by have h_:=hji2z hle_;rw [Int.one_mul] at h_;exact h_
 have hji2y:(wrap64 (1 * 2 ^ min (l0_0.length:Int).toNat 64))=ji2:=(i64_w _).symm.trans hji2_
 have hji2x:(l0_0.length:Int)≤64→(wrap64 (1 * 2 ^ (l0_0.length:Int).toNat))=ji2:=fun h_=>(i64_w _).symm.trans (hji2z h_)
 obtain rfl:=Option.some.inj H
 go_enter Tryz.func201,Tryz.ntmps201
 go_wp2_with (first|((with_reducible refine gate_dst (N:=1) rfl ?_);refine box_event ?hg (N:=1) ?hd (cs:=#[.slice A0_0 l0_0.length c0_0]) (t:=25) ?hr ?_;(case hd=>rfl);(case hg=>rfl);(case hr=>first|(go_simp;done)|(go_simp;rfl));intro gb567 hg w3 hbox hb;have n0_:=Z (below_step pB hb);have BK567:=Z (hbox);have GW567:=Z ((pT hg:w.heap.size≤gb567));have GE567:=Z ((pT hg:w.heap.size≤gb567));clear HB;have HB:=n0_;clear n0_ hb hbox hg;obtain ⟨hcz4_0,hfz4_0⟩:=p1 BK567))
 go_ret
 exact ⟨by first|rfl|(simp [errW_none,errW_some] <;> rfl)|(simp only [← hji2];first|rfl|(simp [errW_none,errW_some] <;> rfl))|(simp [*,errW_none,errW_some] <;> rfl),pB⟩
def intersection_find.l0:Nat→Int→Int→Bool→List (S92)→Option (Int × Int)
 | 0,_,_,_,_=>none
 | k+1,x4,x5,x6,x569000=>if x6=true then ((closure_Quorum.f k x569000 x5).bind fun t569=>(if t569=true then ((intersection_members.f x569000).bind fun t572=>((closure_Greatest.f k x569000 (Go.bits .andNot .i64 t572 x5)).bind fun t573=>(if t573=0 then ((nodeset_Next.f k x5 x4).bind fun bt574=>(intersection_find.l0 k x4 bt574.1 bt574.2 x569000)) else (some (x5,t573))))) else ((nodeset_Next.f k x5 x4).bind fun bt570=>(intersection_find.l0 k x4 bt570.1 bt570.2 x569000)))) else (some (0,0))
def intersection_find.f (k:Nat) (l0_0:List (S92)):Option (Int × Int):=intersection_find.l0 k (l0_0.length:Int) 0 true l0_0
set_option maxHeartbeats 8000000 in
set_option maxRecDepth 100000 in
theorem intersection_find.calls (k:Nat) (A0_0:Option Addr) (c0_0:Nat) (l0_0:List (S92)) (r1:Int) (r2:Int) (w:World) (hr0_0:Kd.C k92 w A0_0 l0_0.length l0_0) (hc0_0:l0_0.length≤c0_0) (h:intersection_find.f k l0_0=some (r1,r2)) :
  Calls Tryz.prog 171 #[.agg #[.slice A0_0 l0_0.length c0_0]] w fun e w'=>e=.returned (.tuple #[.int .i64 r1,.int .i64 r2])∧Below w.heap.size w w':=by
 have hu25:=Tryz.underlying25
 have HR0_0:=Z hr0_0
 have HC0_0:=Z hc0_0
 clear hr0_0 hc0_0
 have HB:=Z (Below.refl w.heap.size w)
 have H:(intersection_find.l0 k (l0_0.length:Int) 0 true l0_0)=some (r1,r2):=h
 clear h
 have H':=Z H
 clear H
 go_enter Tryz.func171,Tryz.ntmps171
 go_wp2_with (first|((with_reducible refine gate_dst (N:=1) rfl ?_);refine box_event ?hg (N:=1) ?hd (cs:=#[.slice A0_0 l0_0.length c0_0]) (t:=25) ?hr ?_;(case hd=>rfl);(case hg=>rfl);(case hr=>first|(go_simp;done)|(go_simp;rfl));intro gb568 hg w2 hbox hb;have n0_:=Z (below_step pB hb);have BK568:=Z (hbox);have GW568:=Z ((pT hg:w.heap.size≤gb568));have GE568:=Z ((pT hg:w.heap.size≤gb568));clear HB;have HB:=n0_;clear n0_ hb hbox hg;obtain ⟨hcz3_0,hfz3_0⟩:=p1 BK568))
 go_loopg [5,6] k (fun kq v5 v6 w'=>∃ (x5_1:Int) (x6_1:Bool),v5=.int .i64 x5_1∧v6=.bool x6_1∧Aside0 (intersection_find.l0 kq (l0_0.length:Int) x5_1 x6_1 l0_0=some (r1,r2))∧Aside0 (kq≤k)∧Aside0 (w'.heap[gb568]?=some (.cells #[(.slice A0_0 l0_0.length c0_0)] 25 (0,0)))∧Aside0 (Below w.heap.size w w'))
 case atStart=>exact ⟨(0),(true),pE,pE,H',⟨Nat.le_refl _⟩,⟨pK BK568⟩,⟨pB⟩⟩
 case round =>
  clear H'
  try clear c1
  try clear p2
  try clear hcz3_0
  try clear hfz3_0
  obtain ⟨x5_1,x6_1,rfl,rfl,HA,HK1,BK568,HB⟩:=hrel
  cases gk with
  | zero=>exact absurd HA.out (by simp [intersection_find.l0])
  | succ k1 =>
   have H:=HA.out
   clear HA
   simp only [intersection_find.l0] at H
   by_cases c4:x6_1=true
   ·subst c4
    rw [if_pos rfl] at H
    replace H:=pO H
    obtain ⟨t569,A50,H⟩:=H
    try dsimp only at H
    have A5:=Z A50
    clear A50
    by_cases c6:t569=true
    ·subst c6
     rw [if_pos rfl] at H
     replace H:=pO H
     obtain ⟨t572,A70,H⟩:=H
     try dsimp only at H
     have A7:=Z A70
     clear A70
     replace H:=pO H
     obtain ⟨t573,A80,H⟩:=H
     try dsimp only at H
     have A8:=Z A80
     clear A80
     by_cases c9:t573=0
     ·rw [if_pos c9] at H
      have c9b0:(t573 == 0)=true:=beq_iff_eq.mpr c9
      have c9b1:(t573 != 0)=false:=bne_eq_false_iff_eq.mpr c9
      clear c9
      replace H:=pO H
      obtain ⟨⟨t574,t575⟩,A100,H⟩:=H
      try dsimp only at H
      have A10:=Z A100
      clear A100
      have H':=Z H
      clear H
      have hcz11_0:=pV BK568 (.slice A0_0 l0_0.length c0_0) 0 rfl
      have hfz11_0:=kF BK568.out 0
      try go_wp2_with (first|((with_reducible refine gate_callee (f:=144) rfl ?_);refine goesL_ (some 20) rfl rfl Tryz.func144 pU rfl #[.agg #[.slice A0_0 l0_0.length c0_0],.int .i64 x5_1] rfl pG ?_;(with_reducible refine (closure_Quorum.calls k1 _ _ l0_0 x5_1 true _ ?side1 ?side2 A5.out).mono ?_);(case side1=>exact pC HR0_0);(case side2=>exact HC0_0.out);rintro e w12 ⟨rfl,hb⟩;refine ⟨_,rfl,?_⟩;replace BK568:=Z (blk_below (g:=gb568) (o:=.cells #[.slice A0_0 l0_0.length c0_0] 25 (0,0)) (pK BK568) hb);have n1_:=Z (below_step pB hb);clear HB;have HB:=n1_;clear n1_;(try clear hb);(try clear hb2);(try clear hk);(try clear hi)))
      have n0_:=Z (kD BK568.out)
      have n1_:=Z (wD HB.out)
      clear BK568 HB
      have BK568:=n0_
      have HB:=n1_
      clear n0_ n1_
      refine start_ (n:=7) (S:=fun w'=>w'.cell? ⟨gb568,0,none⟩=some (.slice A0_0 l0_0.length c0_0)) (ds:=[]) #[false,false,false,false,false,false,false] pU rfl rfl ((kC BK568.out 0).trans rfl) (fun hHeld=>?_)
      generalize w12.drew=w13 at BK568 HB hHeld ⊢
      refine pure_ (i:=3) (N:=some 25) (v:=?_) (a':=?_) #[false,false,false,true,false,false,false] rfl rfl pU (fun _ _ _ h=>h) (Or.inl ⟨by rfl,?_⟩) ?_ ?_
      rotate_left
      ·intro w'
       go_simp
       with_reducible rfl
      rotate_left
      ·simp only [Act.put,List.setIfInBounds_toArray,List.set_cons_zero,List.set_cons_succ,i64_w,i32_w]
       rfl
      refine take_ (i:=0) (N:=some 22) (v:=?_) (a':=?_) #[true,false,false,true,false,false,false] rfl rfl pU (fun _ _ _ h=>h) (Or.inl ⟨by rfl,?_⟩) hHeld ?_ ?_
      rotate_left
      ·intro w' s0
       go_simp
       with_reducible rfl
      rotate_left
      ·simp only [Act.put,List.setIfInBounds_toArray,List.set_cons_zero,List.set_cons_succ,i64_w,i32_w]
       rfl
      refine take_ (i:=1) (N:=some 23) (v:=?_) (a':=?_) #[true,true,false,true,false,false,false] rfl rfl pU (fun _ _ _ h=>h) (Or.inl ⟨by rfl,?_⟩) hHeld ?_ ?_
      rotate_left
      ·intro w' s0
       go_simp
       with_reducible rfl
      rotate_left
      ·simp only [Act.put,List.setIfInBounds_toArray,List.set_cons_zero,List.set_cons_succ,i64_w,i32_w]
       rfl
      refine one_ (i:=2) (N:=some 24) #[true,true,true,true,false,false,false] rfl rfl pU (by decide) (fun K hK=>?_)
      refine goes_ Tryz.func201 pU rfl #[.agg #[.slice A0_0 l0_0.length c0_0]] (by rfl) rfl rfl pG ?_
      with_reducible refine (intersection_members.calls _ _ l0_0 t572 _ ?side1 ?side2 A7.out).mono ?_
      (case side1=>exact pC HR0_0)
      (case side2=>exact HC0_0.out)
      rintro e w14 ⟨rfl,hb⟩
      refine ⟨_,rfl,?_⟩
      have n0_:=Z (blk_below (g:=gb568) (o:=.cells #[.slice A0_0 l0_0.length c0_0] 25 (0,0)) (pK BK568) hb)
      have n1_:=Z (below_step pB hb)
      clear BK568 HB
      have BK568:=n0_
      have HB:=n1_
      clear n0_ n1_
      (try clear hb)
      (try clear hb2)
      (try clear hk)
      (try clear hi)
      refine hK.out _ _ ((kC BK568.out 0).trans rfl) (fun hHeld=>?_)
      clear hK K
      refine norm_ (a':=?_) ?_ ?_
      rotate_left
      ·show Act.put _ (some 24) _=_
       simp only [Act.put,List.setIfInBounds_toArray,List.set_cons_zero,List.set_cons_succ,i64_w,i32_w]
       rfl
      refine pure_ (i:=4) (N:=some 26) (v:=?_) (a':=?_) #[true,true,true,true,true,false,false] rfl rfl pU (fun _ _ _ h=>h) (Or.inl ⟨by rfl,?_⟩) ?_ ?_
      rotate_left
      ·intro w'
       go_simp
       with_reducible rfl
      rotate_left
      ·simp only [Act.put,List.setIfInBounds_toArray,List.set_cons_zero,List.set_cons_succ,i64_w,i32_w]
       rfl
      refine one_ (i:=5) (N:=some 27) #[true,true,true,true,true,true,false] rfl rfl pU (by decide) (fun K hK=>?_)
      refine goes_ Tryz.func170 pU rfl #[.agg #[.slice A0_0 l0_0.length c0_0],.int .i64 (Go.bits .andNot .i64 t572 x5_1)] (by rfl) rfl rfl pG ?_
      with_reducible refine (closure_Greatest.calls k1 _ _ l0_0 (Go.bits .andNot .i64 t572 x5_1) t573 _ ?side1 ?side2 A8.out).mono ?_
      (case side1=>exact pC HR0_0)
      (case side2=>exact HC0_0.out)
      rintro e w15 ⟨rfl,hb⟩
      refine ⟨_,rfl,?_⟩
      have n0_:=Z (blk_below (g:=gb568) (o:=.cells #[.slice A0_0 l0_0.length c0_0] 25 (0,0)) (pK BK568) hb)
      have n1_:=Z (below_step pB hb)
      clear BK568 HB
      have BK568:=n0_
      have HB:=n1_
      clear n0_ n1_
      (try clear hb)
      (try clear hb2)
      (try clear hk)
      (try clear hi)
      refine hK.out _ _ ((kC BK568.out 0).trans rfl) (fun hHeld=>?_)
      clear hK K
      refine norm_ (a':=?_) ?_ ?_
      rotate_left
      ·show Act.put _ (some 27) _=_
       simp only [Act.put,List.setIfInBounds_toArray,List.set_cons_zero,List.set_cons_succ,i64_w,i32_w]
       rfl
      refine pure_ (i:=6) (N:=some 7) (v:=?_) (a':=?_) #[true,true,true,true,true,true,true] rfl rfl pU (fun _ _ _ h=>h) (Or.inl ⟨by rfl,?_⟩) ?_ ?_
      rotate_left
      ·intro w'
       go_simp
       with_reducible rfl
      rotate_left
      ·simp only [Act.put,List.setIfInBounds_toArray,List.set_cons_zero,List.set_cons_succ,i64_w,i32_w]
       rfl
      refine done_ pU ?_
      try go_wp2_with (first|((with_reducible refine gate_callee (f:=200) rfl ?_);refine goesL_ (some 15) rfl rfl Tryz.func200 pU rfl #[.int .i64 x5_1,.int .i64 (l0_0.length:Int)] rfl pG ?_;(with_reducible refine (nodeset_Next.calls k1 x5_1 (l0_0.length:Int) t574 t575 _ A10.out).mono ?_);rintro e w' ⟨rfl,⟨nd,rfl⟩⟩;refine ⟨_,rfl,?_⟩))
      go_roundg k1
      case measure=>have:=HK1.out;omega
      case rel=>exact ⟨(t574),(t575),pE,pE,H',⟨by have:=HK1.out;omega⟩,⟨pK BK568⟩,⟨pB⟩⟩
     ·rw [if_neg c9] at H
      have c9b0:(t573 == 0)=false:=beq_eq_false_iff_ne.mpr c9
      have c9b1:(t573 != 0)=true:=bne_iff_ne.mpr c9
      simp only [Option.some.injEq,Prod.mk.injEq] at H
      obtain ⟨rfl,rfl⟩:=H
      have hcz16_0:=pV BK568 (.slice A0_0 l0_0.length c0_0) 0 rfl
      have hfz16_0:=kF BK568.out 0
      try go_wp2_with (first|((with_reducible refine gate_callee (f:=144) rfl ?_);refine goesL_ (some 20) rfl rfl Tryz.func144 pU rfl #[.agg #[.slice A0_0 l0_0.length c0_0],.int .i64 x5_1] rfl pG ?_;(with_reducible refine (closure_Quorum.calls k1 _ _ l0_0 x5_1 true _ ?side1 ?side2 A5.out).mono ?_);(case side1=>exact pC HR0_0);(case side2=>exact HC0_0.out);rintro e w17 ⟨rfl,hb⟩;refine ⟨_,rfl,?_⟩;replace BK568:=Z (blk_below (g:=gb568) (o:=.cells #[.slice A0_0 l0_0.length c0_0] 25 (0,0)) (pK BK568) hb);have n1_:=Z (below_step pB hb);clear HB;have HB:=n1_;clear n1_;(try clear hb);(try clear hb2);(try clear hk);(try clear hi)))
      have n0_:=Z (kD BK568.out)
      have n1_:=Z (wD HB.out)
      clear BK568 HB
      have BK568:=n0_
      have HB:=n1_
      clear n0_ n1_
      refine start_ (n:=7) (S:=fun w'=>w'.cell? ⟨gb568,0,none⟩=some (.slice A0_0 l0_0.length c0_0)) (ds:=[]) #[false,false,false,false,false,false,false] pU rfl rfl ((kC BK568.out 0).trans rfl) (fun hHeld=>?_)
      generalize w17.drew=w18 at BK568 HB hHeld ⊢
      refine pure_ (i:=3) (N:=some 25) (v:=?_) (a':=?_) #[false,false,false,true,false,false,false] rfl rfl pU (fun _ _ _ h=>h) (Or.inl ⟨by rfl,?_⟩) ?_ ?_
      rotate_left
      ·intro w'
       go_simp
       with_reducible rfl
      rotate_left
      ·simp only [Act.put,List.setIfInBounds_toArray,List.set_cons_zero,List.set_cons_succ,i64_w,i32_w]
       rfl
      refine take_ (i:=0) (N:=some 22) (v:=?_) (a':=?_) #[true,false,false,true,false,false,false] rfl rfl pU (fun _ _ _ h=>h) (Or.inl ⟨by rfl,?_⟩) hHeld ?_ ?_
      rotate_left
      ·intro w' s0
       go_simp
       with_reducible rfl
      rotate_left
      ·simp only [Act.put,List.setIfInBounds_toArray,List.set_cons_zero,List.set_cons_succ,i64_w,i32_w]
       rfl
      refine take_ (i:=1) (N:=some 23) (v:=?_) (a':=?_) #[true,true,false,true,false,false,false] rfl rfl pU (fun _ _ _ h=>h) (Or.inl ⟨by rfl,?_⟩) hHeld ?_ ?_
      rotate_left
      ·intro w' s0
       go_simp
       with_reducible rfl
      rotate_left
      ·simp only [Act.put,List.setIfInBounds_toArray,List.set_cons_zero,List.set_cons_succ,i64_w,i32_w]
       rfl
      refine one_ (i:=2) (N:=some 24) #[true,true,true,true,false,false,false] rfl rfl pU (by decide) (fun K hK=>?_)
      refine goes_ Tryz.func201 pU rfl #[.agg #[.slice A0_0 l0_0.length c0_0]] (by rfl) rfl rfl pG ?_
      with_reducible refine (intersection_members.calls _ _ l0_0 t572 _ ?side1 ?side2 A7.out).mono ?_
      (case side1=>exact pC HR0_0)
      (case side2=>exact HC0_0.out)
      rintro e w19 ⟨rfl,hb⟩
      refine ⟨_,rfl,?_⟩
      have n0_:=Z (blk_below (g:=gb568) (o:=.cells #[.slice A0_0 l0_0.length c0_0] 25 (0,0)) (pK BK568) hb)
      have n1_:=Z (below_step pB hb)
      clear BK568 HB
      have BK568:=n0_
      have HB:=n1_
      clear n0_ n1_
      (try clear hb)
      (try clear hb2)
      (try clear hk)
      (try clear hi)
      refine hK.out _ _ ((kC BK568.out 0).trans rfl) (fun hHeld=>?_)
      clear hK K
      refine norm_ (a':=?_) ?_ ?_
      rotate_left
      ·show Act.put _ (some 24) _=_
       simp only [Act.put,List.setIfInBounds_toArray,List.set_cons_zero,List.set_cons_succ,i64_w,i32_w]
       rfl
      refine pure_ (i:=4) (N:=some 26) (v:=?_) (a':=?_) #[true,true,true,true,true,false,false] rfl rfl pU (fun _ _ _ h=>h) (Or.inl ⟨by rfl,?_⟩) ?_ ?_
      rotate_left
      ·intro w'
       go_simp
       with_reducible rfl
      rotate_left
      ·simp only [Act.put,List.setIfInBounds_toArray,List.set_cons_zero,List.set_cons_succ,i64_w,i32_w]
       rfl
      refine one_ (i:=5) (N:=some 27) #[true,true,true,true,true,true,false] rfl rfl pU (by decide) (fun K hK=>?_)
      refine goes_ Tryz.func170 pU rfl #[.agg #[.slice A0_0 l0_0.length c0_0],.int .i64 (Go.bits .andNot .i64 t572 x5_1)] (by rfl) rfl rfl pG ?_
      with_reducible refine (closure_Greatest.calls k1 _ _ l0_0 (Go.bits .andNot .i64 t572 x5_1) t573 _ ?side1 ?side2 A8.out).mono ?_
      (case side1=>exact pC HR0_0)
      (case side2=>exact HC0_0.out)
      rintro e w20 ⟨rfl,hb⟩
      refine ⟨_,rfl,?_⟩
      have n0_:=Z (blk_below (g:=gb568) (o:=.cells #[.slice A0_0 l0_0.length c0_0] 25 (0,0)) (pK BK568) hb)
      have n1_:=Z (below_step pB hb)
      clear BK568 HB
      have BK568:=n0_
      have HB:=n1_
      clear n0_ n1_
      (try clear hb)
      (try clear hb2)
      (try clear hk)
      (try clear hi)
      refine hK.out _ _ ((kC BK568.out 0).trans rfl) (fun hHeld=>?_)
      clear hK K
      refine norm_ (a':=?_) ?_ ?_
      rotate_left
      ·show Act.put _ (some 27) _=_
       simp only [Act.put,List.setIfInBounds_toArray,List.set_cons_zero,List.set_cons_succ,i64_w,i32_w]
       rfl
      refine pure_ (i:=6) (N:=some 7) (v:=?_) (a':=?_) #[true,true,true,true,true,true,true] rfl rfl pU (fun _ _ _ h=>h) (Or.inl ⟨by rfl,?_⟩) ?_ ?_
      rotate_left
      ·intro w'
       go_simp
       with_reducible rfl
      rotate_left
      ·simp only [Act.put,List.setIfInBounds_toArray,List.set_cons_zero,List.set_cons_succ,i64_w,i32_w]
       rfl
      refine done_ pU ?_
      try go_wp2
      go_ret2
      exact ⟨pF,pB⟩
    ·replace c6:=Bool.eq_false_iff.mpr c6
     subst c6
     rw [if_neg (show ¬ (false=true) by decide)] at H
     replace H:=pO H
     obtain ⟨⟨t570,t571⟩,A210,H⟩:=H
     try dsimp only at H
     have A21:=Z A210
     clear A210
     have H':=Z H
     clear H
     have hcz22_0:=pV BK568 (.slice A0_0 l0_0.length c0_0) 0 rfl
     have hfz22_0:=kF BK568.out 0
     go_wp2_with (first|((with_reducible refine gate_callee (f:=144) rfl ?_);refine goesL_ (some 20) rfl rfl Tryz.func144 pU rfl #[.agg #[.slice A0_0 l0_0.length c0_0],.int .i64 x5_1] rfl pG ?_;(with_reducible refine (closure_Quorum.calls k1 _ _ l0_0 x5_1 false _ ?side1 ?side2 A5.out).mono ?_);(case side1=>exact pC HR0_0);(case side2=>exact HC0_0.out);rintro e w23 ⟨rfl,hb⟩;refine ⟨_,rfl,?_⟩;replace BK568:=Z (blk_below (g:=gb568) (o:=.cells #[.slice A0_0 l0_0.length c0_0] 25 (0,0)) (pK BK568) hb);have n1_:=Z (below_step pB hb);clear HB;have HB:=n1_;clear n1_;(try clear hb);(try clear hb2);(try clear hk);(try clear hi))|((with_reducible refine gate_callee (f:=200) rfl ?_);refine goesL_ (some 15) rfl rfl Tryz.func200 pU rfl #[.int .i64 x5_1,.int .i64 (l0_0.length:Int)] rfl pG ?_;(with_reducible refine (nodeset_Next.calls k1 x5_1 (l0_0.length:Int) t570 t571 _ A21.out).mono ?_);rintro e w' ⟨rfl,⟨nd,rfl⟩⟩;refine ⟨_,rfl,?_⟩))
     go_roundg k1
     case measure=>have:=HK1.out;omega
     case rel=>exact ⟨(t570),(t571),pE,pE,H',⟨by have:=HK1.out;omega⟩,⟨pK BK568⟩,⟨pB⟩⟩
   ·replace c4:=Bool.eq_false_iff.mpr c4
    subst c4
    rw [if_neg (show ¬ (false=true) by decide)] at H
    simp only [Option.some.injEq,Prod.mk.injEq] at H
    obtain ⟨rfl,rfl⟩:=H
    go_wp2
    go_ret2
    exact ⟨pF,pB⟩
end Go.Proofs.YtkjlcbfjllpcnaaGreat.X
namespace Go.Proofs.YtkjlcbfjllpcnaaGreat.X
open Go.RowKit Go.Proofs.YtkjlcbfjllpcnaaGreatW.PrintWords Go.Proofs.YtkjlcbfjllpcnaaGreatW.PrintLast Go.Proofs.YtkjlcbfjllpcnaaGreatW.PrintMore
set_option linter.unusedVariables false
inductive Ki | i | t | m | s
abbrev Ki.T : Ki → Type | .i => Int | .t => S90 | .m => S92 | .s => List S90
abbrev Ki.d : (k : Ki) → Kd k.T | .i => Kd.int .i64 | .t => k90 | .m => k92 | .s => Kd.slice 90 k90
abbrev Ki.e : Ki → Nat | .i => 3 | .t => 90 | .m => 92 | .s => 88
inductive AC
  | v (x : Value) | fz (k : Ki) (xs : List k.T) | own (id : Nat) | ptr (id off : Nat) | el (k : Ki) (x : k.T) (off : Nat) | elo (id sz i off : Nat) | fn (f : Nat) (ids : List Nat) | vw (id sz lo : Nat) | top
abbrev Ki.cells : (k : Ki) → k.T → List AC
  | .i, x => [.v (.int .i64 x)] | .t, x => [.v (.int .i64 x.f0), .fz .i x.f1, .fz .t x.f2] | .m, x => [.v (.bool x.f0), .v (.int .i64 x.f1.f0), .fz .i x.f1.f1, .fz .t x.f1.f2] | .s, x => [.fz .t x]
inductive AV | c (x : AC) | g (xs : List AC) | p (xs : List AV)
inductive Ent | box (ty : Nat) (cs : List AC) | row (k : Ki) (xs : List k.T) | tape (s : List Int) (pos : Int)
structure St where
  env : List (Nat × AV)
  σ : List (Nat × Ent)
def lk {α : Type} : List (Nat × α) → Nat → Option α
  | [], _ => none
  | (k, v) :: l, t => bif Nat.beq k t then some v else lk l t
theorem lk_cons {α : Type} (k : Nat) (v : α) (l : List (Nat × α)) (t : Nat) : lk ((k, v) :: l) t = if k = t then some v else lk l t := by
  show (bif Nat.beq k t then some v else lk l t) = _
  by_cases h : k = t
  · subst h; simp
  · have : Nat.beq k t = false := by cases hb : Nat.beq k t; rfl; exact absurd (Nat.eq_of_beq_eq_true hb) h
    rw [this, if_neg h]; rfl
def bk : Value → Option Nat
  | .pointer (some a) => some a.block
  | .slice (some a) _ _ => some a.block
  | _ => none
theorem bk_own {v : Value} {k : Nat} (h : v.ownBlock = some k) : bk v = some k := by
  cases v <;> simp_all [Value.ownBlock, bk]
  rename_i a _ _; cases a <;> simp_all [Value.ownBlock, bk]
theorem own_bk {A : Option Addr} {n c : Nat} : bk (.slice A n c) = (Value.slice A n c).ownBlock := by cases A <;> rfl
structure Cx where
  w0 : World
  OK : Nat → Prop
  tp : Option Nat
  r0 : World
abbrev Cx.base (c : Cx) : Nat := c.w0.heap.size
def Bok (c : Cx) (σ : List (Nat × Ent)) (μ : Nat → Value) (b : Nat) : Prop := c.OK b ∧ ∀ id e, lk σ id = some e → bk (μ id) ≠ some b
def RelC (c : Cx) (σ : List (Nat × Ent)) (μ : Nat → Value) (w : World) : AC → Value → Prop
  | .v x, u => u = x
  | .fz k xs, u => ∃ A q, u = .slice A xs.length q ∧ xs.length ≤ q ∧ Kd.F k.d w (Bok c σ μ) A xs.length xs
  | .own id, u => u = μ id
  | .ptr id off, u => ∃ g, μ id = .pointer (some ⟨g, 0, none⟩) ∧ u = .pointer (some ⟨g, off, none⟩)
  | .el k x off, u => ∃ b o us, Kd.FK k.d w (Bok c σ μ) x us ∧ w.rangeAt b o us ∧ b < w.heap.size ∧ Bok c σ μ b ∧ u = .pointer (some ⟨b, o + off, none⟩)
  | .elo id sz i off, u => ∃ g n q, μ id = .slice (some ⟨g, 0, none⟩) n q ∧ u = .pointer (some ⟨g, i * sz + off, none⟩)
  | .fn f ids, u => u = .func (.func f) #[] (ids.map μ).toArray
  | .vw id sz lo, u => ∃ A n q A', μ id = .slice A n q ∧ lo ≤ n ∧ u = .slice A' (n - lo) (q - lo) ∧ (lo < n → A' = A.map (·.add (lo * sz)))
  | .top, _ => True
def RelL (c : Cx) (σ : List (Nat × Ent)) (μ : Nat → Value) (w : World) : List AC → List Value → Prop
  | [], us => us = []
  | x :: xs, us => ∃ u us', us = u :: us' ∧ RelC c σ μ w x u ∧ RelL c σ μ w xs us'
def RelA (c : Cx) (σ : List (Nat × Ent)) (μ : Nat → Value) (w : World) : AV → Value → Prop
  | .c x, u => RelC c σ μ w x u
  | .g xs, u => ∃ us : List Value, u = .agg us.toArray ∧ RelL c σ μ w xs us
  | .p _, _ => False
def RelT (c : Cx) (σ : List (Nat × Ent)) (μ : Nat → Value) (w : World) : List AV → List Value → Prop
  | [], us => us = []
  | x :: xs, us => ∃ u us', us = u :: us' ∧ RelA c σ μ w x u ∧ RelT c σ μ w xs us'
def RelV (c : Cx) (σ : List (Nat × Ent)) (μ : Nat → Value) (w : World) : AV → Value → Prop
  | .p xs, u => ∃ us : List Value, u = .tuple us.toArray ∧ RelT c σ μ w xs us
  | x, u => RelA c σ μ w x u
def AC.men (j : Nat) : AC → Bool
  | .own id | .ptr id _ | .elo id _ _ _ | .vw id _ _ => Nat.beq id j
  | .fn _ ids => ids.any fun id => Nat.beq id j
  | _ => false
def AV.men (j : Nat) : AV → Bool
  | .c x => x.men j
  | .g xs => xs.any (AC.men j)
  | .p xs => menL xs
where menL : List AV → Bool
  | [] => false
  | x :: xs => x.men j || menL xs
structure Fr (c : Cx) (w : World) : Prop where
  os : w.os = c.w0.os
  tape : w.tape = c.w0.tape
  output : w.output = c.w0.output
  size : c.w0.heap.size ≤ w.heap.size
  block : ∀ b, b < c.w0.heap.size → some b ≠ c.tp → w.heap[b]? = c.w0.heap[b]?
structure Hv (c : Cx) (σ : List (Nat × Ent)) (μ : Nat → Value) (w : World) : Prop where
  fr : Fr c w
  ok : ∀ b, c.base ≤ b → c.OK b
  box : ∀ id ty cs, lk σ id = some (.box ty cs) → ∃ g us, μ id = .pointer (some ⟨g, 0, none⟩) ∧ c.base ≤ g ∧ w.heap[g]? = some (.cells us.toArray ty (0, 0)) ∧ RelL c σ μ w cs us
  row : ∀ id k xs, lk σ id = some (.row k xs) → ∃ cs, w.ownsRow c.base k.e k.d.sz (μ id) xs.length cs ∧ RelL c σ μ w (xs.flatMap k.cells) cs
  dis : ∀ i j e e' b, lk σ i = some e → lk σ j = some e' → bk (μ i) = some b → bk (μ j) = some b → i = j
  tap : ∀ id s pos, lk σ id = some (.tape s pos) → ∃ g, μ id = .pointer (some ⟨g, 0, none⟩) ∧ c.tp = some g ∧ IsS95 c.r0 w g s pos
  rt : ∀ g, c.tp = some g → Below c.r0.heap.size c.r0 c.w0 ∧ c.r0.heap.size ≤ g
theorem tape_step {w0 W W' : World} {g : Nat} {s : List Int} {p : Int} (h : IsS95 w0 W g s p) (e : W'.heap[g]? = W.heap[g]?) : IsS95 w0 W' g s p := by
  obtain ⟨A, q, h1, h2⟩ := h
  exact ⟨A, q, e.trans h1, h2⟩
def Inv (c : Cx) (n : Nat) (st : St) (a : Act) (w : World) : Prop :=
  ∃ μ, Hv c st.σ μ w ∧ a.defers = [] ∧ a.tmps.size = n ∧ ∀ t v, lk st.env t = some v → RelV c st.σ μ w v (a.tmps.getD t undef)
section
variable {c : Cx} {σ σ' : List (Nat × Ent)} {μ μ' : Nat → Value} {w w' : World}
structure Mv (c : Cx) (σ σ' : List (Nat × Ent)) (μ μ' : Nat → Value) (w w' : World) : Prop where
  heap : ∀ b, Bok c σ μ b → b < w.heap.size → w'.heap[b]? = w.heap[b]?
  bok : ∀ b, Bok c σ μ b → b < w.heap.size → Bok c σ' μ' b
  size : w.heap.size ≤ w'.heap.size
theorem RelC.mv (h : Mv c σ σ' μ μ' w w') {x : AC} {u : Value} (hm : ∀ id, x.men id = true → μ' id = μ id) (hr : RelC c σ μ w x u) : RelC c σ' μ' w' x u := by
  cases x with
  | v x => exact hr
  | fz k xs =>
    obtain ⟨A, q, e, h1, h2⟩ := hr
    exact ⟨A, q, e, h1, Kd.F_mono (Kd.F_step (Kd.F_bound h2) (fun b hb hlt => h.heap b hb.1 hlt)) (fun b hb => h.bok b hb.1 hb.2)⟩
  | own id => exact hr.trans (hm id (by simp [AC.men])).symm
  | ptr id off =>
    obtain ⟨g, h1, h2⟩ := hr
    exact ⟨g, (hm id (by simp [AC.men])).trans h1, h2⟩
  | el k x off =>
    obtain ⟨b, o, us, h1, h2, h3, h4, h5⟩ := hr
    refine ⟨b, o, us, Kd.FK_mono (Kd.FK_step (Kd.FK_bound h1) (fun b hb hlt => h.heap b hb.1 hlt)) (fun b hb => h.bok b hb.1 hb.2), fun j v hv => ?_, Nat.lt_of_lt_of_le h3 h.size, h.bok b h4 h3, h5⟩
    have := h2 j v hv
    simp only [World.cell?, h.heap b h4 h3] at this ⊢
    exact this
  | elo id sz i o =>
    obtain ⟨g, n, q, h1, h2⟩ := hr
    exact ⟨g, n, q, (hm id (by simp [AC.men])).trans h1, h2⟩
  | fn f ids =>
    have e : ids.map μ' = ids.map μ := List.map_congr_left fun id hid => hm id (by simp only [AC.men, List.any_eq_true]; exact ⟨id, hid, by simp⟩)
    show u = _
    rw [e]; exact hr
  | vw id sz lo =>
    obtain ⟨A, n, q, A', h1, h2⟩ := hr
    exact ⟨A, n, q, A', (hm id (by simp [AC.men])).trans h1, h2⟩
  | top => trivial
theorem RelL.mv (h : Mv c σ σ' μ μ' w w') : ∀ {xs : List AC} {us : List Value}, (∀ x ∈ xs, ∀ id, x.men id = true → μ' id = μ id) → RelL c σ μ w xs us → RelL c σ' μ' w' xs us
  | [], _, _, hr => hr
  | x :: xs, _, hm, ⟨u, us', e, h1, h2⟩ => ⟨u, us', e, h1.mv h (hm x (by simp)), RelL.mv h (fun y hy => hm y (by simp [hy])) h2⟩
theorem RelA.mv (h : Mv c σ σ' μ μ' w w') {x : AV} {u : Value} (hm : ∀ id, x.men id = true → μ' id = μ id) (hr : RelA c σ μ w x u) : RelA c σ' μ' w' x u := by
  cases x with
  | c x => exact RelC.mv h hm hr
  | g xs =>
    obtain ⟨us, e, h2⟩ := hr
    exact ⟨us, e, h2.mv h (fun x hx id hid => hm id (by simp only [AV.men, List.any_eq_true]; exact ⟨x, hx, hid⟩))⟩
  | p xs => exact hr.elim
theorem RelT.mv (h : Mv c σ σ' μ μ' w w') : ∀ {xs : List AV} {us : List Value}, (∀ id, AV.men.menL id xs = true → μ' id = μ id) → RelT c σ μ w xs us → RelT c σ' μ' w' xs us
  | [], _, _, hr => hr
  | x :: xs, _, hm, ⟨u, us', e, h1, h2⟩ => ⟨u, us', e, h1.mv h (fun id hid => hm id (by simp [AV.men.menL, hid])), RelT.mv h (fun id hid => hm id (by simp [AV.men.menL, hid])) h2⟩
theorem RelV.mv (h : Mv c σ σ' μ μ' w w') {x : AV} {u : Value} (hm : ∀ id, x.men id = true → μ' id = μ id) (hr : RelV c σ μ w x u) : RelV c σ' μ' w' x u := by
  cases x with
  | c x => exact RelA.mv (x := .c x) h hm hr
  | g xs => exact RelA.mv (x := .g xs) h hm hr
  | p xs =>
    obtain ⟨us, e, h2⟩ := hr
    exact ⟨us, e, h2.mv h (fun id hid => hm id (by simpa [AV.men] using hid))⟩
theorem RelL.len : ∀ {xs : List AC} {us : List Value}, RelL c σ μ w xs us → us.length = xs.length
  | [], _, h => by rw [show _ = [] from h]; rfl
  | x :: xs, _, ⟨u, us', e, _, h⟩ => by rw [e, List.length_cons, List.length_cons, h.len]
theorem RelL.get : ∀ {xs : List AC} {us : List Value} (_ : RelL c σ μ w xs us) {j : Nat} {x : AC}, xs[j]? = some x → ∃ u, us[j]? = some u ∧ RelC c σ μ w x u
  | [], _, _, j, x, h => by simp at h
  | y :: ys, _, ⟨u, us', e, h1, h2⟩, 0, x, h => by
    simp at h; subst h; subst e; exact ⟨u, rfl, h1⟩
  | y :: ys, _, ⟨u, us', e, h1, h2⟩, j + 1, x, h => by
    subst e
    obtain ⟨v, h3, h4⟩ := h2.get (j := j) (x := x) (by simpa using h)
    exact ⟨v, by simpa using h3, h4⟩
theorem RelL.append : ∀ {xs ys : List AC} {us vs : List Value}, RelL c σ μ w xs us → RelL c σ μ w ys vs → RelL c σ μ w (xs ++ ys) (us ++ vs)
  | [], _, _, _, h, k => by rw [show _ = [] from h]; exact k
  | x :: xs, _, _, _, ⟨u, us', e, h1, h2⟩, k => by subst e; exact ⟨u, us' ++ _, rfl, h1, h2.append k⟩
theorem RelL.split : ∀ {xs ys : List AC} {us : List Value}, RelL c σ μ w (xs ++ ys) us → RelL c σ μ w xs (us.take xs.length) ∧ RelL c σ μ w ys (us.drop xs.length)
  | [], _, _, h => ⟨rfl, h⟩
  | x :: xs, ys, _, ⟨u, us', e, h1, h2⟩ => by
    subst e
    obtain ⟨k1, k2⟩ := RelL.split h2
    exact ⟨⟨u, _, rfl, h1, k1⟩, k2⟩
theorem RelL.set : ∀ {xs : List AC} {us : List Value} (_ : RelL c σ μ w xs us) (j : Nat) {x : AC} {u : Value}, RelC c σ μ w x u → RelL c σ μ w (xs.set j x) (us.set j u)
  | [], _, h, j, _, _, _ => by rw [show _ = [] from h]; rfl
  | y :: ys, _, ⟨v, us', e, h1, h2⟩, 0, x, u, hu => by subst e; exact ⟨u, us', rfl, hu, h2⟩
  | y :: ys, _, ⟨v, us', e, h1, h2⟩, j + 1, x, u, hu => by subst e; exact ⟨v, us'.set j u, rfl, h1, h2.set j hu⟩
def AC.ok1 (σ : List (Nat × Ent)) : AC → Bool
  | .v x => x.oneCell'
  | .top => false
  | .own id => (lk σ id).isSome
  | _ => true
theorem RelC.one {x : AC} {u : Value} (h : RelC c σ μ w x u) (ho : x.ok1 σ = true) (hh : Hv c σ μ w) : u.oneCell' = true := by
  cases x with
  | v x => rw [show u = x from h]; exact ho
  | fz k xs => obtain ⟨A, q, e, _⟩ := h; rw [e]; rfl
  | own id =>
    rw [show u = μ id from h]
    cases he : lk σ id with
    | none => simp [AC.ok1, he] at ho
    | some e =>
      cases e with
      | box ty cs => obtain ⟨g, us, h1, _⟩ := hh.box id ty cs he; rw [h1]; rfl
      | row k xs => obtain ⟨cs, h1, _⟩ := hh.row id k xs he; obtain ⟨A, q, e1⟩ := own_slice h1; rw [e1]; rfl
      | tape s pos => obtain ⟨g, h1, _⟩ := hh.tap id s pos he; rw [h1]; rfl
  | ptr id off => obtain ⟨g, _, e⟩ := h; rw [e]; rfl
  | el k x off => obtain ⟨_, _, _, _, _, _, _, e⟩ := h; rw [e]; rfl
  | elo id sz i o => obtain ⟨_, _, _, _, e⟩ := h; rw [e]; rfl
  | fn f ids => rw [show u = _ from h]; rfl
  | vw id sz lo => obtain ⟨_, _, _, _, _, _, e, _⟩ := h; rw [e]; rfl
  | top => cases ho
end
section
variable {P : Program} {c : Cx} {n : Nat} {ops : Array Oper} {Q : Exit → St → Prop} {st st' : St} {rest : List Oper} {o : Oper}
def Qc (c : Cx) (n : Nat) (Q : Exit → St → Prop) : Exit → Act → World → Prop := fun e a w => ∃ st, Q e st ∧ Inv c n st a w
def aL (P : Program) (c : Cx) (n : Nat) (ops : Array Oper) (l : List Oper) (Q : Exit → St → Prop) (st : St) : Prop := ∀ a w, Inv c n st a w → wpList P ops (Qc c n Q) l a w
def aW (P : Program) (c : Cx) (n : Nat) (x : Code) (Q : Exit → St → Prop) (st : St) : Prop := ∀ a w, Inv c n st a w → x.wp P (Qc c n Q) a w
def Le (c : Cx) (n : Nat) (st st' : St) : Prop := ∀ a w, Inv c n st a w → Inv c n st' a w
def thenA (next : St → Prop) (Q : Exit → St → Prop) : Exit → St → Prop
  | .normal, st => next st
  | e, st => Q e st
def blockA (id : Nat) (Q : Exit → St → Prop) : Exit → St → Prop
  | .exit j, st => if j = id then Q .normal st else Q (.exit j) st
  | e, st => Q e st
theorem Le.refl (st : St) : Le c n st st := fun _ _ h => h
theorem Le.trans {a b d : St} (h : Le c n a b) (k : Le c n b d) : Le c n a d := fun x w hi => k x w (h x w hi)
theorem aW_le {x : Code} (h : Le c n st st') (k : aW P c n x Q st') : aW P c n x Q st := fun a w hi => k a w (h a w hi)
theorem aW_seq {x y : Code} (h : aW P c n x (thenA (aW P c n y Q) Q) st) : aW P c n (.seq x y) Q st := fun a w hi => by
  refine wp_seq (wp_mono (h a w hi) ?_)
  rintro e a' w' ⟨st', hq, hi'⟩
  cases e <;> first | exact hq a' w' hi' | exact ⟨st', hq, hi'⟩
theorem aW_block {id : Nat} {x : Code} (h : aW P c n x (blockA id Q) st) : aW P c n (.block id x) Q st := fun a w hi => by
  refine wp_block (wp_mono (h a w hi) ?_)
  rintro e a' w' ⟨st', hq, hi'⟩
  cases e with
  | exit j =>
    show (if j = id then Qc c n Q .normal a' w' else Qc c n Q (.exit j) a' w')
    have hq' : (if j = id then Q .normal st' else Q (.exit j) st') := hq
    split
    · rename_i h; rw [if_pos h] at hq'; exact ⟨st', hq', hi'⟩
    · rename_i h; rw [if_neg h] at hq'; exact ⟨st', hq', hi'⟩
  | _ => exact ⟨st', hq, hi'⟩
theorem aW_exit {id : Nat} (h : Q (.exit id) st) : aW P c n (.exit id) Q st := fun a w hi => wp_exit ⟨st, h, hi⟩
theorem aW_ret (h : Q .ret st) : aW P c n .ret Q st := fun a w hi => wp_ret ⟨st, h, hi⟩
theorem aW_skip (h : Q .normal st) : aW P c n .skip Q st := fun a w hi => wp_skip ⟨st, h, hi⟩
theorem aW_cond {t : Nat} {x y : Code} {b : Bool} (hb : lk st.env t = some (.c (.v (.bool b)))) (h1 : b = true → aW P c n x Q st) (h2 : b = false → aW P c n y Q st) : aW P c n (.cond (.tmp t) x y) Q st := fun a w hi => by
  obtain ⟨μ, hv, hd, hn, he⟩ := hi
  have := he t _ hb
  refine wp_cond_split (t := b) this (fun e => h1 e a w ⟨μ, hv, hd, hn, he⟩) (fun e => h2 e a w ⟨μ, hv, hd, hn, he⟩)
theorem aW_loop {α : Type} {x : Code} (S : α → St) (I : α → Prop) (m : α → Nat) (x0 : α) (h0 : Le c n st (S x0)) (hI : I x0)
    (h : ∀ z, I z → aW P c n x (thenA (fun st' => ∃ y, I y ∧ m y < m z ∧ Le c n st' (S y)) Q) (S z)) : aW P c n (.loop x) Q st := fun a w hi => by
  have key : ∀ (k : Nat) (z : α) (a : Act) (w : World), m z < k → I z → Inv c n (S z) a w → Code.rounds P x (Qc c n Q) k a w := by
    intro k
    induction k with
    | zero => intro z a w h; omega
    | succ k ih =>
      intro z a w hk hz hi
      rw [rounds_succ]
      refine wp_mono (h z hz a w hi) ?_
      rintro e a' w' ⟨st', hq, hi'⟩
      cases e with
      | normal =>
        obtain ⟨y, hy, hlt, hle⟩ := hq
        exact ih y a' w' (by omega) hy (hle a' w' hi')
      | _ => exact ⟨st', hq, hi'⟩
  exact wp_loop_rounds _ (key (m x0 + 1) x0 a w (Nat.lt_succ_self _) hI (h0 a w hi))
theorem aW_region {id : Nat} {l : List Oper} (h : aL P c n l.toArray l Q st) : aW P c n (.region id l.toArray false) Q st := fun a w hi => wp_region_lit (h a w hi)
theorem aL_nil (h : Q .normal st) : aL P c n ops [] Q st := fun a w hi => ⟨st, h, hi⟩
abbrev St.set (st : St) (d : Nat) (v : AV) : St := ⟨(d, v) :: st.env, st.σ⟩
def aEv (st : St) : Operand → Option AV
  | .tmp t => lk st.env t
  | .const v => some (.c (.v v))
  | .func f => some (.c (.fn f []))
  | .global _ => none
theorem aEv_rel {a : Act} {w : World} {μ : Nat → Value} (he : ∀ t v, lk st.env t = some v → RelV c st.σ μ w v (a.tmps.getD t undef)) {x : Operand} {v : AV} (h : aEv st x = some v) : RelV c st.σ μ w v (a.eval x) := by
  cases x with
  | tmp t => exact he t v h
  | const u => cases h; rfl
  | func f => cases h; rfl
  | global g => cases h
def Wn (n : Nat) (st : St) (ops : Array Oper) (o : Oper) : Prop := o.guard = none ∨ ∃ j b d, o.guard = some (j, b) ∧ (ops[j]?).bind (·.dst) = some d ∧ d < n ∧ lk st.env d = some (.c (.v (.bool b)))
theorem Wn.want {a : Act} {w : World} (h : Wn n st ops o) (hi : Inv c n st a w) : Region.wanted o (yielded ops a.tmps) = true := by
  obtain ⟨μ, hv, hd, hn, he⟩ := hi
  rcases h with h | ⟨j, b, d, h1, h2, h3, h4⟩
  · simp [Region.wanted, h]
  · have h5 : a.tmps.getD d undef = .bool b := he d _ h4
    have h6 : a.tmps[d]? = some (.bool b) := by
      have hlt : d < a.tmps.size := by rw [hn]; exact h3
      rw [Array.getElem?_eq_getElem hlt]
      rw [Array.getD_eq_getD_getElem?, Array.getElem?_eq_getElem hlt] at h5
      simpa using h5
    have h7 : yielded ops a.tmps j = some b := by unfold yielded; rw [h2, Option.bind_some, h6]
    simp [Region.wanted, h1, h7]
theorem put_inv {a : Act} {w : World} {μ : Nat → Value} (hd : a.defers = []) (hn : a.tmps.size = n) (he : ∀ t v, lk st.env t = some v → RelV c st.σ μ w v (a.tmps.getD t undef)) {d : Nat} (hdn : d < n) {v : AV} {u : Value} (hu : RelV c st.σ μ w v u) :
    (a.put (some d) u).defers = [] ∧ (a.put (some d) u).tmps.size = n ∧ ∀ t v', lk (st.set d v).env t = some v' → RelV c st.σ μ w v' ((a.put (some d) u).tmps.getD t undef) := by
  refine ⟨hd, by simp [Act.put, hn], fun t v' h => ?_⟩
  rw [lk_cons] at h
  by_cases e : d = t
  · subst e
    rw [if_pos rfl] at h
    cases h
    have : (a.put (some d) u).tmps.getD d undef = u := by simp [Act.put, Array.getD_eq_getD_getElem?, Array.getElem?_setIfInBounds, hn, hdn]
    rw [this]; exact hu
  · rw [if_neg e] at h
    have : (a.put (some d) u).tmps.getD t undef = a.tmps.getD t undef := by simp [Act.put, Array.getD_eq_getD_getElem?, Array.getElem?_setIfInBounds, e]
    rw [this]; exact he t v' h
theorem aL_val (d : Nat) (v : AV) (hd : o.dst = some d) (hg : Wn n st ops o) (hdn : d < n)
    (h1 : ∀ (μ : Nat → Value) (a : Act) (w : World), Hv c st.σ μ w → (∀ t v, lk st.env t = some v → RelV c st.σ μ w v (a.tmps.getD t undef)) → ∃ u, (execOp a.eval o).run P w = .ok (.value u) w ∧ RelV c st.σ μ w v u)
    (h : aL P c n ops rest Q (st.set d v)) : aL P c n ops (o :: rest) Q st := fun a w hi => by
  have hw := hg.want hi
  obtain ⟨μ, hv, hdf, hn, he⟩ := hi
  obtain ⟨u, hr, hu⟩ := h1 μ a w hv he
  refine wpList_step fun K hK => ?_
  rw [if_pos hw]
  unfold Oper.wp
  rw [hr]
  show K (a.put o.dst u) w
  rw [hd]
  obtain ⟨k1, k2, k3⟩ := put_inv hdf hn he hdn hu
  exact hK _ _ (h _ w ⟨μ, hv, k1, k2, k3⟩)
theorem aL_skip (d : Nat) (hd : o.dst = some d) (hg : ∃ j b e, o.guard = some (j, b) ∧ (ops[j]?).bind (·.dst) = some e ∧ e < n ∧ lk st.env e = some (.c (.v (.bool !b)))) (hdn : d < n)
    (h : aL P c n ops rest Q (st.set d (.c .top))) : aL P c n ops (o :: rest) Q st := fun a w hi => by
  obtain ⟨μ, hv, hdf, hn, he⟩ := hi
  obtain ⟨j, b, e, h1, h2, h3, h4⟩ := hg
  have h5 : a.tmps.getD e undef = .bool !b := he e _ h4
  have h6 : a.tmps[e]? = some (.bool !b) := by
    have hlt : e < a.tmps.size := by rw [hn]; exact h3
    rw [Array.getElem?_eq_getElem hlt]
    rw [Array.getD_eq_getD_getElem?, Array.getElem?_eq_getElem hlt] at h5
    simpa using h5
  have h7 : yielded ops a.tmps j = some !b := by unfold yielded; rw [h2, Option.bind_some, h6]
  have hw : ¬ Region.wanted o (yielded ops a.tmps) = true := by simp [Region.wanted, h1, h7]
  refine wpList_step fun K hK => ?_
  rw [if_neg hw, hd]
  obtain ⟨k1, k2, k3⟩ := put_inv (v := .c .top) (u := undef) hdf hn he hdn trivial
  exact hK _ _ (h _ w ⟨μ, hv, k1, k2, k3⟩)
theorem aL_move (d : Nat) (x : Operand) (v : AV) (ho : o.op = .move x) (hd : o.dst = some d) (hg : Wn n st ops o) (hdn : d < n) (hv : aEv st x = some v) (h : aL P c n ops rest Q (st.set d v)) : aL P c n ops (o :: rest) Q st :=
  aL_val d v hd hg hdn (fun μ a w _ he => ⟨a.eval x, by simp [execOp, ho], aEv_rel he hv⟩) h
theorem aL_assign (d : Nat) (x : Operand) (v : AV) (ho : o.op = .assign x) (hd : o.dst = some d) (hg : Wn n st ops o) (hdn : d < n) (hv : aEv st x = some v) (h : aL P c n ops rest Q (st.set d v)) : aL P c n ops (o :: rest) Q st :=
  aL_val d v hd hg hdn (fun μ a w _ he => ⟨a.eval x, by simp [execOp, ho], aEv_rel he hv⟩) h
theorem aL_pick (d : Nat) (x y z : Operand) (b : Bool) (v : AV) (ho : o.op = .pick x y z) (hd : o.dst = some d) (hg : Wn n st ops o) (hdn : d < n) (hx : aEv st x = some (.c (.v (.bool b)))) (hv : (if b = true then aEv st y else aEv st z) = some v) (h : aL P c n ops rest Q (st.set d v)) : aL P c n ops (o :: rest) Q st :=
  aL_val d v hd hg hdn (fun μ a w _ he => by
    have h1 : a.eval x = .bool b := aEv_rel he hx
    cases b
    · exact ⟨a.eval z, by simp [execOp, ho, h1, asBool], aEv_rel he (by simpa using hv)⟩
    · exact ⟨a.eval y, by simp [execOp, ho, h1, asBool], aEv_rel he (by simpa using hv)⟩) h
end
structure TI where
  size : Nat
  zero : Value
  agg : Bool
structure TyF (t : Nat) (i : TI) : Prop where
  info : (Tryz.prog.info? t).map (fun j => (j.zero, j.size)) = some (some i.zero, i.size)
  und : ∃ d, Tryz.prog.underlying t = some d ∧ d.isRow = i.agg
  one : i.agg = false → i.zero.cells = #[i.zero] ∧ i.size = 1
  all : i.zero.cells.toList.all (·.oneCell') = true ∧ i.zero.cells.size = i.size
abbrev tyT : Nat → Option TI
  | 3 => some ⟨1, .int .i64 0, false⟩
  | 4 => some ⟨1, .bool false, false⟩
  | 33 => some ⟨1, .int .i64 0, false⟩
  | 22 => some ⟨1, .slice none 0 0, false⟩
  | 23 => some ⟨1, .slice none 0 0, false⟩
  | 88 => some ⟨1, .slice none 0 0, false⟩
  | 112 => some ⟨1, .slice none 0 0, false⟩
  | 107 => some ⟨1, .nilFunc, false⟩
  | 25 => some ⟨1, .agg #[.slice none 0 0], true⟩
  | 62 => some ⟨3, .agg #[.int .i64 0, .int .i64 0, .int .i64 0], true⟩
  | 90 => some ⟨3, .agg #[.int .i64 0, .slice none 0 0, .slice none 0 0], true⟩
  | 92 => some ⟨4, .agg #[.bool false, .int .i64 0, .slice none 0 0, .slice none 0 0], true⟩
  | _ => none
theorem tyT_ok {t : Nat} {i : TI} (h : tyT t = some i) : TyF t i := by
  unfold tyT at h
  split at h <;> cases h
  · exact ⟨by kernel_rfl, ⟨_, Tryz.underlying3, rfl⟩, fun _ => ⟨rfl, rfl⟩, by decide⟩
  · exact ⟨by kernel_rfl, ⟨_, Tryz.underlying4, rfl⟩, fun _ => ⟨rfl, rfl⟩, by decide⟩
  · exact ⟨by kernel_rfl, ⟨_, Tryz.underlying33, rfl⟩, fun _ => ⟨rfl, rfl⟩, by decide⟩
  · exact ⟨by kernel_rfl, ⟨_, Tryz.underlying22, rfl⟩, fun _ => ⟨rfl, rfl⟩, by decide⟩
  · exact ⟨by kernel_rfl, ⟨_, Tryz.underlying23, rfl⟩, fun _ => ⟨rfl, rfl⟩, by decide⟩
  · exact ⟨by kernel_rfl, ⟨_, Tryz.underlying88, rfl⟩, fun _ => ⟨rfl, rfl⟩, by decide⟩
  · exact ⟨by kernel_rfl, ⟨_, Tryz.underlying112, rfl⟩, fun _ => ⟨rfl, rfl⟩, by decide⟩
  · exact ⟨by kernel_rfl, ⟨_, Tryz.underlying107, rfl⟩, fun _ => ⟨rfl, rfl⟩, by decide⟩
  · exact ⟨by kernel_rfl, ⟨_, Tryz.underlying25, rfl⟩, fun h => (by cases h), by decide⟩
  · exact ⟨by kernel_rfl, ⟨_, Tryz.underlying62, rfl⟩, fun h => (by cases h), by decide⟩
  · exact ⟨by kernel_rfl, ⟨_, Tryz.underlying90, rfl⟩, fun h => (by cases h), by decide⟩
  · exact ⟨by kernel_rfl, ⟨_, Tryz.underlying92, rfl⟩, fun h => (by cases h), by decide⟩
theorem TyF.size {t : Nat} {i : TI} (h : TyF t i) : (Tryz.prog.info? t).map (·.size) = some i.size := by
  obtain ⟨j, h1, h2⟩ := Option.map_eq_some_iff.1 h.info
  rw [h1]; simp only [Prod.mk.injEq] at h2; simp [h2.2]
theorem TyF.zero_run {t : Nat} {i : TI} (h : TyF t i) (w : World) : (zeroValue t).run Tryz.prog w = .ok i.zero w := by
  obtain ⟨j, h1, h2⟩ := Option.map_eq_some_iff.1 h.info
  simp only [Prod.mk.injEq] at h2
  simp [zeroValue, typeInfo, h1, h2.1]
section
variable {c : Cx} {n : Nat} {ops : Array Oper} {Q : Exit → St → Prop} {st st' : St} {rest : List Oper} {o : Oper}
abbrev aBin : BinOp → Int → Int → Option Value
  | .add, x, y => some (.int .i64 (wrap64 (x + y)))
  | .sub, x, y => some (.int .i64 (wrap64 (x - y)))
  | .mul, x, y => some (.int .i64 (wrap64 (x * y)))
  | .and, x, y => some (.int .i64 (Go.bits .and .i64 x y))
  | .or, x, y => some (.int .i64 (Go.bits .or .i64 x y))
  | .xor, x, y => some (.int .i64 (Go.bits .xor .i64 x y))
  | .andNot, x, y => some (.int .i64 (Go.bits .andNot .i64 x y))
  | .eql, x, y => some (.bool (decide (x = y)))
  | .neq, x, y => some (.bool (decide (x ≠ y)))
  | .lss, x, y => some (.bool (decide (x < y)))
  | .leq, x, y => some (.bool (decide (x ≤ y)))
  | .gtr, x, y => some (.bool (decide (x > y)))
  | .geq, x, y => some (.bool (decide (x ≥ y)))
  | _, _, _ => none
theorem bin_run {op : BinOp} {x y : Int} {r : Value} (h : aBin op x y = some r) (t : TypeId) (p q : Operand) (w : World) :
    ((do eqGuard op t p q (.int .i64 x) (.int .i64 y); binOp op t (.int .i64 x) (.int .i64 y)) : Sem Value).run Tryz.prog w = .ok r w := by
  cases op <;> cases h <;> simp [eqGuard, binOp, Op.intArith, Op.intBits, Op.intCmp, i64_w, Go.bits] <;> first | rfl | (by_cases e : x = y <;> simp [e])
theorem aL_bin (d : Nat) (op : BinOp) (t ty : TypeId) (x y : Operand) (vx vy : Int) (r : Value) (ho : o.op = .binOp op t x y ty) (hd : o.dst = some d) (hg : Wn n st ops o) (hdn : d < n) (hx : aEv st x = some (.c (.v (.int .i64 vx)))) (hy : aEv st y = some (.c (.v (.int .i64 vy)))) (hr : aBin op vx vy = some r)
    (h : aL Tryz.prog c n ops rest Q (st.set d (.c (.v r)))) : aL Tryz.prog c n ops (o :: rest) Q st :=
  aL_val d (.c (.v r)) hd hg hdn (fun μ a w _ he => ⟨r, by
    have h1 : a.eval x = .int .i64 vx := aEv_rel he hx
    have h2 : a.eval y = .int .i64 vy := aEv_rel he hy
    have := bin_run hr t x y w
    simp only [execOp, ho, h1, h2, Sem.run_bind, this, Result.andThen_ok, Sem.run_pure], rfl⟩) h
theorem aL_not (d : Nat) (t : TypeId) (x : Operand) (b : Bool) (ho : o.op = .unOp .not t x) (hd : o.dst = some d) (hg : Wn n st ops o) (hdn : d < n) (hx : aEv st x = some (.c (.v (.bool b))))
    (h : aL Tryz.prog c n ops rest Q (st.set d (.c (.v (.bool !b))))) : aL Tryz.prog c n ops (o :: rest) Q st :=
  aL_val d (.c (.v (.bool !b))) hd hg hdn (fun μ a w _ he => ⟨_, by
    have h1 : a.eval x = .bool b := aEv_rel he hx
    simp [execOp, ho, h1, Op.unary], rfl⟩) h
theorem RelT.get {μ : Nat → Value} {w : World} {σ : List (Nat × Ent)} : ∀ {xs : List AV} {us : List Value} (_ : RelT c σ μ w xs us) {j : Nat} {x : AV}, xs[j]? = some x → ∃ u, us[j]? = some u ∧ RelA c σ μ w x u
  | [], _, _, j, x, h => by simp at h
  | y :: ys, _, ⟨u, us', e, h1, h2⟩, 0, x, h => by
    simp at h; subst h; subst e; exact ⟨u, rfl, h1⟩
  | y :: ys, _, ⟨u, us', e, h1, h2⟩, j + 1, x, h => by
    subst e
    obtain ⟨v, h3, h4⟩ := h2.get (j := j) (x := x) (by simpa using h)
    exact ⟨v, by simpa using h3, h4⟩
theorem RelA.v {μ : Nat → Value} {w : World} {σ : List (Nat × Ent)} {x : AV} {u : Value} (h : RelA c σ μ w x u) : RelV c σ μ w x u := by
  cases x with
  | p xs => exact h.elim
  | _ => exact h
theorem aL_extract (d : Nat) (x : Operand) (i : Nat) (xs : List AV) (v : AV) (ho : o.op = .extract x i) (hd : o.dst = some d) (hg : Wn n st ops o) (hdn : d < n) (hx : aEv st x = some (.p xs)) (hv : xs[i]? = some v)
    (h : aL Tryz.prog c n ops rest Q (st.set d v)) : aL Tryz.prog c n ops (o :: rest) Q st :=
  aL_val d v hd hg hdn (fun μ a w _ he => by
    obtain ⟨us, h1, h2⟩ := aEv_rel he hx
    obtain ⟨u, h3, h4⟩ := h2.get hv
    refine ⟨u, ?_, h4.v⟩
    simp [execOp, ho, h1, Instr.extract, h3]) h
abbrev foT : Nat → Nat → Option Nat
  | 90, 0 => some 0 | 90, 1 => some 1 | 90, 2 => some 2 | 92, 0 => some 0 | 92, 1 => some 1 | 25, 0 => some 0 | 62, 0 => some 0 | 62, 1 => some 1 | 62, 2 => some 2 | _, _ => none
theorem foT_ok {s f fo : Nat} (h : foT s f = some fo) (b q : Nat) (w : World) : (Instr.fieldAt s (.pointer (some ⟨b, q, none⟩)) f).run Tryz.prog w = .ok (.pointer (some ⟨b, q + fo, none⟩)) w := by
  unfold foT at h
  split at h <;> cases h <;> kernel_rfl
theorem aL_fieldAddr (d : Nat) (s : TypeId) (x : Operand) (f id off fo : Nat) (ho : o.op = .fieldAddr s x f) (hd : o.dst = some d) (hg : Wn n st ops o) (hdn : d < n) (hx : aEv st x = some (.c (.ptr id off)))
    (hf' : foT s f = some fo)
    (h : aL Tryz.prog c n ops rest Q (st.set d (.c (.ptr id (off + fo))))) : aL Tryz.prog c n ops (o :: rest) Q st :=
  aL_val d (.c (.ptr id (off + fo))) hd hg hdn (fun μ a w _ he => by
    obtain ⟨g, h1, h2⟩ := aEv_rel he hx
    have hf := @foT_ok _ _ _ hf'
    exact ⟨_, by simp only [execOp, ho, h2, Sem.run_bind, hf, Result.andThen_ok, Sem.run_pure], g, h1, rfl⟩) h
theorem aL_fieldAddrE (d : Nat) (s : TypeId) (x : Operand) (f : Nat) (k : Ki) (y : k.T) (off fo : Nat) (ho : o.op = .fieldAddr s x f) (hd : o.dst = some d) (hg : Wn n st ops o) (hdn : d < n) (hx : aEv st x = some (.c (.el k y off)))
    (hf' : foT s f = some fo)
    (h : aL Tryz.prog c n ops rest Q (st.set d (.c (.el k y (off + fo))))) : aL Tryz.prog c n ops (o :: rest) Q st :=
  aL_val d (.c (.el k y (off + fo))) hd hg hdn (fun μ a w _ he => by
    obtain ⟨b, q, us, h1, h2, h3, h4, h5⟩ := aEv_rel he hx
    have hf := @foT_ok _ _ _ hf'
    exact ⟨.pointer (some ⟨b, q + off + fo, none⟩), by simp only [execOp, ho, h5, Sem.run_bind, hf, Result.andThen_ok, Sem.run_pure], b, q, us, h1, h2, h3, h4, by rw [Nat.add_assoc]⟩) h
end
section
variable {c : Cx} {n : Nat} {ops : Array Oper} {Q : Exit → St → Prop} {st st' : St} {rest : List Oper} {o : Oper}
abbrev AC.part (cs : List AC) (off k : Nat) : List AC := (cs.drop off).take k
theorem RelL.part {σ : List (Nat × Ent)} {μ : Nat → Value} {w : World} {cs : List AC} {us : List Value} (h : RelL c σ μ w cs us) (off k : Nat) : RelL c σ μ w (AC.part cs off k) ((us.drop off).take k) := by
  have h1 : ∀ {cs : List AC} {us : List Value} (off : Nat), RelL c σ μ w cs us → RelL c σ μ w (cs.drop off) (us.drop off) := by
    intro cs
    induction cs with
    | nil => intro us off h; rw [show us = [] from h]; simp; rfl
    | cons x xs ih =>
      intro us off h
      obtain ⟨u, us', e, h2, h3⟩ := h
      subst e
      cases off with
      | zero => exact ⟨u, us', rfl, h2, h3⟩
      | succ off => exact ih off h3
  have h2 : ∀ {cs : List AC} {us : List Value} (k : Nat), RelL c σ μ w cs us → RelL c σ μ w (cs.take k) (us.take k) := by
    intro cs
    induction cs with
    | nil => intro us off h; rw [show us = [] from h]; simp; rfl
    | cons x xs ih =>
      intro us k h
      obtain ⟨u, us', e, h2, h3⟩ := h
      subst e
      cases k with
      | zero => exact rfl
      | succ k => exact ⟨u, _, rfl, h2, ih k h3⟩
  exact h2 k (h1 off h)
abbrev rdA (i : TI) (cs : List AC) (off : Nat) : Option AV :=
  bif i.agg then (bif Nat.ble (off + i.size) cs.length then some (.g (AC.part cs off i.size)) else none) else (match cs[off]? with | some x => some (.c x) | none => none)
theorem load_run {t : Nat} {i : TI} (hi : TyF t i) {σ : List (Nat × Ent)} {μ : Nat → Value} {w : World} {cs : List AC} {us : List Value} (h : RelL c σ μ w cs us) {off : Nat} {v : AV} (hv : rdA i cs off = some v) {b q : Nat} (hr : w.rangeAt b q us) :
    ∃ u, (Instr.loadAt t (.pointer (some ⟨b, q + off, none⟩))).run Tryz.prog w = .ok u w ∧ RelV c σ μ w v u := by
  obtain ⟨dd, hu, hrow⟩ := hi.und
  have hlen := h.len
  unfold rdA at hv
  cases hagg : i.agg
  · rw [hagg] at hv hrow
    simp only [cond_false] at hv
    cases hx : cs[off]? with
    | none => rw [hx] at hv; cases hv
    | some x =>
      rw [hx] at hv
      cases hv
      obtain ⟨u, h1, h2⟩ := h.get hx
      refine ⟨u, ?_, h2⟩
      have h3 := hr off u h1
      have h4 : (isAgg t).run Tryz.prog w = .ok false w := by
        unfold isAgg
        rw [Sem.run_bind, run_underlying hu w]
        cases dd <;> simp_all [TypeDesc.isRow]
      simp [Instr.loadAt, Instr.sureAddr, loadVar, Sem.run_bind, h4, h3]
  · rw [hagg] at hv hrow
    simp only [cond_true] at hv
    cases hb : Nat.ble (off + i.size) cs.length
    · rw [hb] at hv; cases hv
    · rw [hb] at hv
      cases hv
      have hle : off + i.size ≤ cs.length := Nat.le_of_ble_eq_true hb
      have hl : ((us.drop off).take i.size).length = i.size := by
        rw [List.length_take, List.length_drop, hlen]
        exact Nat.min_eq_left (Nat.le_sub_of_add_le (by rw [Nat.add_comm]; exact hle))
      refine ⟨_, run_loadAt_mid w b (q + off) t ((us.drop off).take i.size) dd ?_ hu hrow (by rw [hi.size, hl]), _, rfl, h.part off i.size⟩
      intro j v hj
      rw [List.getElem?_take] at hj
      split at hj
      · rw [List.getElem?_drop] at hj
        have := hr _ v hj
        rw [← Nat.add_assoc] at this
        exact this
      · cases hj
theorem blk_range {w : World} {g ty : Nat} {us : List Value} (h : w.heap[g]? = some (.cells us.toArray ty (0, 0))) : w.rangeAt g 0 us := fun j v hv => by
  have h1 := cell_of_row w g j us.toArray ty (0, 0) h
  rw [Nat.zero_add, h1]
  simpa using hv
theorem aL_load (d : Nat) (t : TypeId) (x : Operand) (id off ty : Nat) (cs : List AC) (i : TI) (v : AV) (ho : o.op = .load t x) (hd : o.dst = some d) (hg : Wn n st ops o) (hdn : d < n) (hx : aEv st x = some (.c (.ptr id off))) (hb : lk st.σ id = some (.box ty cs)) (hi : tyT t = some i) (hv : rdA i cs off = some v)
    (h : aL Tryz.prog c n ops rest Q (st.set d v)) : aL Tryz.prog c n ops (o :: rest) Q st :=
  aL_val d v hd hg hdn (fun μ a w hh he => by
    obtain ⟨g, h1, h2⟩ := aEv_rel he hx
    obtain ⟨g', us, h3, h4, h5, h6⟩ := hh.box id ty cs hb
    rw [h1] at h3
    injection h3 with h3
    injection h3 with h3
    injection h3 with h3
    subst h3
    obtain ⟨u, h7, h8⟩ := load_run (tyT_ok hi) h6 hv (blk_range h5)
    rw [Nat.zero_add] at h7
    exact ⟨u, by simp only [execOp, ho, h2, Sem.run_bind, h7, Result.andThen_ok, Sem.run_pure], h8⟩) h
theorem relL_of_FK {k : Ki} {σ : List (Nat × Ent)} {μ : Nat → Value} {w : World} {x : k.T} {us : List Value} (h : Kd.FK k.d w (Bok c σ μ) x us) : RelL c σ μ w (k.cells x) us := by
  cases k with
  | i =>
    have h1 := Kd.FK_now h
    exact ⟨_, [], h1, rfl, rfl⟩
  | t =>
    obtain ⟨A1, c1, A2, c2, rfl, l1, g1, l2, g2⟩ := k90_openF h
    exact ⟨_, _, rfl, rfl, _, _, rfl, ⟨A1, c1, rfl, l1, g1⟩, _, _, rfl, ⟨A2, c2, rfl, l2, g2⟩, rfl⟩
  | m =>
    obtain ⟨A1, c1, A2, c2, rfl, l1, g1, l2, g2⟩ := k92_openF h
    exact ⟨_, _, rfl, rfl, _, _, rfl, rfl, _, _, rfl, ⟨A1, c1, rfl, l1, g1⟩, _, _, rfl, ⟨A2, c2, rfl, l2, g2⟩, rfl⟩
  | s =>
    obtain ⟨A, q, rfl, l1, g1⟩ := Kd.FK_slice_open h
    exact ⟨_, [], rfl, ⟨A, q, rfl, l1, g1⟩, rfl⟩
theorem aL_loadE (d : Nat) (t : TypeId) (x : Operand) (k : Ki) (y : k.T) (off : Nat) (i : TI) (v : AV) (ho : o.op = .load t x) (hd : o.dst = some d) (hg : Wn n st ops o) (hdn : d < n) (hx : aEv st x = some (.c (.el k y off))) (hi : tyT t = some i) (hv : rdA i (k.cells y) off = some v)
    (h : aL Tryz.prog c n ops rest Q (st.set d v)) : aL Tryz.prog c n ops (o :: rest) Q st :=
  aL_val d v hd hg hdn (fun μ a w hh he => by
    obtain ⟨b, q, us, h1, h2, h3, h4, h5⟩ := aEv_rel he hx
    obtain ⟨u, h7, h8⟩ := load_run (tyT_ok hi) (relL_of_FK h1) hv h2
    exact ⟨u, by simp only [execOp, ho, h5, Sem.run_bind, h7, Result.andThen_ok, Sem.run_pure], h8⟩) h
end
abbrev upd (μ : Nat → Value) (id : Nat) (v : Value) : Nat → Value := fun j => if j = id then v else μ j
def Ent.men (j : Nat) : Ent → Bool
  | .box _ cs => cs.any (AC.men j)
  | .row _ _ => false
  | .tape _ _ => false
def St.fr (st : St) (id : Nat) : Bool := st.env.all (fun p => !p.2.men id) && st.σ.all (fun p => Nat.beq p.1 id || !p.2.men id)
theorem lk_mem {α : Type} : ∀ {l : List (Nat × α)} {t : Nat} {v : α}, lk l t = some v → (t, v) ∈ l
  | [], _, _, h => by cases h
  | (k, u) :: l, t, v, h => by
    rw [lk_cons] at h
    by_cases e : k = t
    · rw [if_pos e] at h; cases h; subst e; simp
    · rw [if_neg e] at h; exact List.mem_cons_of_mem _ (lk_mem h)
theorem St.fr_env {st : St} {id : Nat} (h : st.fr id = true) {t : Nat} {v : AV} (hv : lk st.env t = some v) : v.men id = false := by
  unfold St.fr at h
  rw [Bool.and_eq_true, List.all_eq_true] at h
  simpa using h.1 _ (lk_mem hv)
theorem St.fr_σ {st : St} {id : Nat} (h : st.fr id = true) {j : Nat} {e : Ent} (hj : lk st.σ j = some e) (hne : j ≠ id) : e.men id = false := by
  unfold St.fr at h
  rw [Bool.and_eq_true] at h
  have h2 := (List.all_eq_true.1 h.2) _ (lk_mem hj)
  simp only [Bool.or_eq_true, Bool.not_eq_true'] at h2
  rcases h2 with h2 | h2
  · exact absurd (Nat.eq_of_beq_eq_true h2) hne
  · exact h2
theorem cells_men (k : Ki) (x : k.T) (id : Nat) : ∀ y ∈ k.cells x, y.men id = false := by
  cases k <;> intro y hy <;> simp [Ki.cells] at hy <;> (first | (rcases hy with rfl | rfl | rfl | rfl) | (rcases hy with rfl | rfl | rfl) | subst hy) <;> rfl
theorem rows_men (k : Ki) (xs : List k.T) (id : Nat) : ∀ y ∈ xs.flatMap k.cells, y.men id = false := fun y hy => by
  obtain ⟨x, _, h⟩ := List.mem_flatMap.1 hy
  exact cells_men k x id y h
section
variable {c : Cx} {n : Nat} {ops : Array Oper} {Q : Exit → St → Prop} {st st' : St} {rest : List Oper} {o : Oper} {σ : List (Nat × Ent)} {μ : Nat → Value} {w w' : World}
theorem Hv.lt (h : Hv c σ μ w) {id : Nat} {e : Ent} (he : lk σ id = some e) {b : Nat} (hb : bk (μ id) = some b) : b < w.heap.size ∧ (c.base ≤ b ∨ c.tp = some b) := by
  cases e with
  | box ty cs =>
    obtain ⟨g, us, h1, h2, h3, h4⟩ := h.box id ty cs he
    rw [h1] at hb
    cases hb
    exact ⟨blk_lt h3, .inl h2⟩
  | row k xs =>
    obtain ⟨cs, h1, h2⟩ := h.row id k xs he
    obtain ⟨A, q, e1⟩ := own_slice h1
    rw [e1, own_bk, ← e1] at hb
    exact ⟨own_lt h1 b hb, .inl (own_base h1 b hb)⟩
  | tape s pos =>
    obtain ⟨g, h1, h2, h3⟩ := h.tap id s pos he
    rw [h1] at hb
    cases hb
    exact ⟨h3.lt, .inr h2⟩
theorem own_step {base e size n : Nat} {v : Value} {xs : List Value} (h : w.ownsRow base e size v n xs) (hb : ∀ b, v.ownBlock = some b → w'.heap[b]? = w.heap[b]?) : w'.ownsRow base e size v n xs := by
  refine ⟨h.1, ?_⟩
  rcases h.2 with h2 | ⟨g, cap, cur, h2, h3, h4, h5⟩
  · exact .inl h2
  · exact .inr ⟨g, cap, cur, h2, h3, (hb g (by rw [h2]; rfl)).trans h4, h5⟩
theorem Hv.put (h : Hv c σ μ w) (id : Nat) (e1 : Ent) (v1 : Value) (hos : w'.os = w.os) (hta : w'.tape = w.tape) (hou : w'.output = w.output) (hsz : w.heap.size ≤ w'.heap.size)
    (hb : ∀ b, b < w.heap.size → (lk σ id ≠ none → bk (μ id) ≠ some b) → w'.heap[b]? = w.heap[b]?)
    (hv1 : ∀ b, bk v1 = some b → w.heap.size ≤ b ∨ (lk σ id ≠ none ∧ bk (μ id) = some b))
    (hm : v1 = μ id ∨ (∀ j e, lk σ j = some e → j ≠ id → e.men id = false))
    (hnew : Mv c σ ((id, e1) :: σ) μ (upd μ id v1) w w' → (match e1 with
      | .box ty cs => ∃ g us, v1 = .pointer (some ⟨g, 0, none⟩) ∧ c.base ≤ g ∧ w'.heap[g]? = some (.cells us.toArray ty (0, 0)) ∧ RelL c ((id, e1) :: σ) (upd μ id v1) w' cs us
      | .row k xs => ∃ cs, w'.ownsRow c.base k.e k.d.sz v1 xs.length cs ∧ RelL c ((id, e1) :: σ) (upd μ id v1) w' (xs.flatMap k.cells) cs
      | .tape s pos => ∃ g, v1 = .pointer (some ⟨g, 0, none⟩) ∧ c.tp = some g ∧ IsS95 c.r0 w' g s pos)) :
    Hv c ((id, e1) :: σ) (upd μ id v1) w' ∧ Mv c σ ((id, e1) :: σ) μ (upd μ id v1) w w' := by
  have hmv : Mv c σ ((id, e1) :: σ) μ (upd μ id v1) w w' := by
    refine ⟨fun b hk hlt => hb b hlt (fun hne => ?_), fun b hk hlt => ⟨hk.1, fun j e hj => ?_⟩, hsz⟩
    · cases he : lk σ id with
      | none => exact absurd he hne
      | some e => exact hk.2 id e he
    · rw [lk_cons] at hj
      by_cases e2 : id = j
      · subst e2
        show bk (if id = id then v1 else μ id) ≠ some b
        rw [if_pos rfl]
        intro hb1
        rcases hv1 b hb1 with h2 | ⟨h2, h3⟩
        · omega
        · cases he : lk σ id with
          | none => exact h2 he
          | some e => exact hk.2 id e he h3
      · rw [if_neg e2] at hj
        show bk (if j = id then v1 else μ j) ≠ some b
        rw [if_neg (fun e => e2 e.symm)]
        exact hk.2 j e hj
  have hmen : ∀ j e, lk σ j = some e → j ≠ id → ∀ i, e.men i = true → upd μ id v1 i = μ i := by
    intro j e hj hne i hi
    by_cases e2 : i = id
    · subst e2
      rcases hm with hm | hm
      · show (if i = i then v1 else μ i) = μ i
        rw [if_pos rfl, hm]
      · rw [hm j e hj hne] at hi; cases hi
    · exact if_neg e2
  refine ⟨⟨⟨hos.trans h.fr.os, hta.trans h.fr.tape, hou.trans h.fr.output, Nat.le_trans h.fr.size hsz, fun b hlt hne => ?_⟩, h.ok, fun j ty cs hj => ?_, fun j k xs hj => ?_, fun i j e e' b hi hj hbi hbj => ?_, fun j s pos hj => ?_, h.rt⟩, hmv⟩
  · refine (hb b (Nat.lt_of_lt_of_le hlt h.fr.size) (fun hne2 hb2 => ?_)).trans (h.fr.block b hlt hne)
    cases he : lk σ id with
    | none => exact hne2 he
    | some e =>
      rcases (h.lt he hb2).2 with this | this
      · exact absurd hlt (Nat.not_lt.2 this)
      · exact hne this.symm
  · rw [lk_cons] at hj
    by_cases e2 : id = j
    · subst e2
      rw [if_pos rfl] at hj
      cases hj
      show ∃ g us, (if id = id then v1 else μ id) = _ ∧ _
      rw [if_pos rfl]
      exact hnew hmv
    · rw [if_neg e2] at hj
      have e3 : ¬ j = id := fun e => e2 e.symm
      obtain ⟨g, us, h1, h2, h3, h4⟩ := h.box j ty cs hj
      refine ⟨g, us, by show (if j = id then v1 else μ j) = _; rw [if_neg e3]; exact h1, h2, (hb g (blk_lt h3) (fun hne2 hb2 => ?_)).trans h3, h4.mv hmv (fun x hx i hi => hmen j (.box ty cs) hj e3 i (by simp only [Ent.men, List.any_eq_true]; exact ⟨x, hx, hi⟩))⟩
      cases he : lk σ id with
      | none => exact hne2 he
      | some e => exact e2 (h.dis id j e _ g he hj hb2 (by rw [h1]; rfl))
  · rw [lk_cons] at hj
    by_cases e2 : id = j
    · subst e2
      rw [if_pos rfl] at hj
      cases hj
      show ∃ cs, w'.ownsRow c.base k.e k.d.sz (if id = id then v1 else μ id) xs.length cs ∧ _
      rw [if_pos rfl]
      exact hnew hmv
    · rw [if_neg e2] at hj
      have e3 : ¬ j = id := fun e => e2 e.symm
      obtain ⟨cs, h1, h2⟩ := h.row j k xs hj
      refine ⟨cs, own_step (v := upd μ id v1 j) (by show w.ownsRow c.base k.e k.d.sz (if j = id then v1 else μ j) xs.length cs; rw [if_neg e3]; exact h1) (fun b hbo => ?_), h2.mv hmv (fun x hx i hi => by rw [rows_men k xs i x hx] at hi; cases hi)⟩
      have hbo' : (μ j).ownBlock = some b := by rw [show upd μ id v1 j = μ j from if_neg e3] at hbo; exact hbo
      refine hb b (own_lt h1 b hbo') (fun hne2 hb2 => ?_)
      cases he : lk σ id with
      | none => exact hne2 he
      | some e => exact e2 (h.dis id j e _ b he hj hb2 (bk_own hbo'))
  · rw [lk_cons] at hi hj
    have key : ∀ j e', j ≠ id → lk σ j = some e' → ∀ b, bk v1 = some b → bk (μ j) = some b → False := by
      intro j e' hne hj b hb1 hb2
      rcases hv1 b hb1 with h2 | ⟨h2, h3⟩
      · have := (h.lt hj hb2).1; omega
      · cases he : lk σ id with
        | none => exact h2 he
        | some e => exact hne (h.dis j id e' e b hj he hb2 h3)
    by_cases e2 : id = i <;> by_cases e3 : id = j
    · exact e2.symm.trans e3
    · exfalso
      rw [if_neg e3] at hj
      have e4 : ¬ j = id := fun e => e3 e.symm
      have hbi' : bk (if i = id then v1 else μ i) = some b := hbi
      have hbj' : bk (if j = id then v1 else μ j) = some b := hbj
      rw [if_pos e2.symm] at hbi'
      rw [if_neg e4] at hbj'
      exact key j e' e4 hj b hbi' hbj'
    · exfalso
      rw [if_neg e2] at hi
      have e4 : ¬ i = id := fun e => e2 e.symm
      have hbi' : bk (if i = id then v1 else μ i) = some b := hbi
      have hbj' : bk (if j = id then v1 else μ j) = some b := hbj
      rw [if_pos e3.symm] at hbj'
      rw [if_neg e4] at hbi'
      exact key i e e4 hi b hbj' hbi'
    · rw [if_neg e2] at hi
      rw [if_neg e3] at hj
      have hbi' : bk (if i = id then v1 else μ i) = some b := hbi
      have hbj' : bk (if j = id then v1 else μ j) = some b := hbj
      rw [if_neg (fun e => e2 e.symm)] at hbi'
      rw [if_neg (fun e => e3 e.symm)] at hbj'
      exact h.dis i j e e' b hi hj hbi' hbj'
  · rw [lk_cons] at hj
    by_cases e2 : id = j
    · subst e2
      rw [if_pos rfl] at hj
      cases hj
      show ∃ g, (if id = id then v1 else μ id) = _ ∧ _
      rw [if_pos rfl]
      exact hnew hmv
    · rw [if_neg e2] at hj
      have e3 : ¬ j = id := fun e => e2 e.symm
      obtain ⟨g, h1, h2, h3⟩ := h.tap j s pos hj
      refine ⟨g, by show (if j = id then v1 else μ j) = _; rw [if_neg e3]; exact h1, h2, tape_step h3 (hb g h3.lt (fun hne2 hb2 => ?_))⟩
      cases he : lk σ id with
      | none => exact hne2 he
      | some e => exact e2 (h.dis id j e _ g he hj hb2 (by rw [h1]; rfl))
theorem aL_new (d ty : Nat) (cs : List AC) (hd : o.dst = some d) (hg : Wn n st ops o) (hdn : d < n) (hf : st.fr d = true)
    (h1 : ∀ (μ : Nat → Value) (a : Act) (w : World), Hv c st.σ μ w → (∀ t v, lk st.env t = some v → RelV c st.σ μ w v (a.tmps.getD t undef)) → ∃ us : List Value, (execOp a.eval o).run Tryz.prog w = .ok (.value (.pointer (some ⟨w.heap.size, 0, none⟩))) (w.alloc (.cells us.toArray ty)) ∧ RelL c st.σ μ w cs us)
    (hcs : cs.all (fun x => !x.men d) = true)
    (h : aL Tryz.prog c n ops rest Q ⟨(d, .c (.ptr d 0)) :: st.env, (d, .box ty cs) :: st.σ⟩) : aL Tryz.prog c n ops (o :: rest) Q st := fun a w hi => by
  have hw := hg.want hi
  obtain ⟨μ, hv, hdf, hn, he⟩ := hi
  obtain ⟨us, hr, hu⟩ := h1 μ a w hv he
  refine wpList_step fun K hK => ?_
  rw [if_pos hw]
  unfold Oper.wp
  rw [hr]
  show K (a.put o.dst _) _
  rw [hd]
  have hold : ∀ b, b < w.heap.size → (w.alloc (.cells us.toArray ty)).heap[b]? = w.heap[b]? := fun b hb => Below.heap_alloc w _ b hb
  have hmen : ∀ x : AC, x.men d = false → ∀ i, x.men i = true → upd μ d (.pointer (some ⟨w.heap.size, 0, none⟩)) i = μ i := fun x hx i hi => if_neg (fun e => by subst e; rw [hx] at hi; cases hi)
  obtain ⟨hh, hmv⟩ := hv.put (w' := w.alloc (.cells us.toArray ty)) d (.box ty cs) (.pointer (some ⟨w.heap.size, 0, none⟩)) rfl rfl rfl (by simp) (fun b hb _ => hold b hb) (fun b hb => by cases hb; exact .inl (Nat.le_refl _)) (.inr fun j e hj hne => St.fr_σ hf hj hne)
    (fun hmv => ⟨w.heap.size, us, rfl, hv.fr.size, heap_alloc_new _ _, hu.mv hmv (fun x hx i hi => hmen x (by simpa using (List.all_eq_true.1 hcs) x hx) i hi)⟩)
  obtain ⟨k1, k2, k3⟩ := put_inv (st := ⟨st.env, (d, .box ty cs) :: st.σ⟩) (w := w.alloc (.cells us.toArray ty)) (μ := upd μ d (.pointer (some ⟨w.heap.size, 0, none⟩))) hdf hn
    (fun t v ht => (he t v ht).mv hmv (fun i hi => if_neg (fun e => by subst e; rw [St.fr_env hf ht] at hi; cases hi))) (v := .c (.ptr d 0)) (u := .pointer (some ⟨w.heap.size, 0, none⟩)) hdn ⟨w.heap.size, if_pos rfl, rfl⟩
  exact hK _ _ (h _ _ ⟨_, hh, k1, k2, k3⟩)
theorem aL_alloc (d t : Nat) (i : TI) (ho : o.op = .alloc t) (hd : o.dst = some d) (hg : Wn n st ops o) (hdn : d < n) (hf : st.fr d = true) (hi : tyT t = some i)
    (h : aL Tryz.prog c n ops rest Q ⟨(d, .c (.ptr d 0)) :: st.env, (d, .box t (i.zero.cells.toList.map AC.v)) :: st.σ⟩) : aL Tryz.prog c n ops (o :: rest) Q st :=
  aL_new d t _ hd hg hdn hf (fun μ a w _ _ => ⟨i.zero.cells.toList, by
    have h1 := (tyT_ok hi).zero_run w
    simp [execOp, ho, Instr.alloc, h1, newVar, newRow, newObj, Sem.run], by
    generalize i.zero.cells.toList = l
    induction l with
    | nil => rfl
    | cons x xs ih => exact ⟨x, xs, rfl, rfl, ih⟩⟩) (by
    rw [List.all_eq_true]; intro x hx; obtain ⟨y, _, rfl⟩ := List.mem_map.1 hx; rfl) h
abbrev AV.flat : AV → Option (List AC)
  | .c x => some [x]
  | .g xs => some xs
  | .p _ => none
theorem RelV.flat {v : AV} {xs : List AC} {u : Value} (h : v.flat = some xs) (hr : RelV c σ μ w v u) (ho : ∀ x, v = .c x → u.oneCell' = true) : RelL c σ μ w xs u.cells.toList := by
  cases v with
  | c x =>
    cases h
    have h1 := ho x rfl
    have : u.cells.toList = [u] := by cases u <;> first | rfl | cases h1
    rw [this]
    exact ⟨u, [], rfl, hr, rfl⟩
  | g xs' =>
    cases h
    obtain ⟨us, rfl, h2⟩ := hr
    simpa [Value.cells] using h2
  | p _ => cases h
end
section
variable {c : Cx} {n : Nat} {ops : Array Oper} {Q : Exit → St → Prop} {st st' : St} {rest : List Oper} {o : Oper} {σ : List (Nat × Ent)} {μ : Nat → Value} {w w' : World}
theorem upd_self (μ : Nat → Value) (id : Nat) : upd μ id (μ id) = μ := funext fun j => by
  show (if j = id then μ id else μ j) = μ j
  split
  · rename_i h; rw [h]
  · rfl
theorem RelL.ones : ∀ {xs : List AC} {us : List Value}, RelL c σ μ w xs us → Hv c σ μ w → xs.all (AC.ok1 σ) = true → ∀ u ∈ us, u.oneCell' = true
  | [], _, h, _, _ => by rw [show _ = [] from h]; simp
  | x :: xs, _, ⟨u, us', e, h1, h2⟩, hh, ho => by
    subst e
    rw [List.all_cons, Bool.and_eq_true] at ho
    intro v hv
    rcases List.mem_cons.1 hv with rfl | hv
    · exact h1.one ho.1 hh
    · exact h2.ones hh ho.2 v hv
theorem flat_rel {v : AV} {xs : List AC} {u : Value} (h : v.flat = some xs) (hr : RelV c σ μ w v u) (hh : Hv c σ μ w) (ho : xs.all (AC.ok1 σ) = true) : RelL c σ μ w xs u.cells.toList :=
  RelV.flat h hr (fun x e => by
    subst e
    cases h
    simp only [List.all_cons, List.all_nil, Bool.and_true] at ho
    exact RelC.one hr ho hh)
theorem store_run {t : Nat} {i : TI} (hi : TyF t i) {g off : Nat} {u : Value} {cur : Array Value} {ty : Nat} (hg : w.heap[g]? = some (.cells cur ty (0, 0))) (hsz : u.cells.toList.length = i.size) (hfit : off + i.size ≤ cur.size) (h1 : ∀ x ∈ u.cells.toList, x.oneCell' = true) :
    (Instr.storeAt t (.pointer (some ⟨g, off, none⟩)) u).run Tryz.prog w = .ok () (w.setCells g off u.cells.toList) := by
  have h2 := run_storeCells_cells (P := Tryz.prog) g off u.cells.toList 0 w (fun j hj => by
    rw [cell_of_row w g (off + 0 + j) cur ty (0, 0) hg, Array.getElem?_eq_getElem (by omega)]; rfl) (fun j hj => kF hg _) h1
  rw [Nat.add_zero] at h2
  obtain ⟨j, h3, h4⟩ := Option.map_eq_some_iff.1 hi.size
  have h5 : u.cells.size = j.size := by rw [h4, ← hsz, Array.length_toList]
  simp [Instr.storeAt, Instr.sureAddr, storeVar, sizeOf, typeInfo, h3, h5, h2]
theorem aL_store (t : TypeId) (p x : Operand) (id off ty : Nat) (cs ys : List AC) (i : TI) (v : AV) (ho : o.op = .store t p x) (hd : o.dst = none) (hg : Wn n st ops o) (hp : aEv st p = some (.c (.ptr id off))) (hb : lk st.σ id = some (.box ty cs)) (hx : aEv st x = some v) (hfl : v.flat = some ys) (hi : tyT t = some i) (hsz : ys.length = i.size) (hfit : off + i.size ≤ cs.length) (hok : ys.all (AC.ok1 st.σ) = true)
    (h : aL Tryz.prog c n ops rest Q ⟨st.env, (id, .box ty (cs.take off ++ ys ++ cs.drop (off + ys.length))) :: st.σ⟩) : aL Tryz.prog c n ops (o :: rest) Q st := fun a w hin => by
  have hw := hg.want hin
  obtain ⟨μ, hv, hdf, hn, he⟩ := hin
  obtain ⟨g, h1, h2⟩ := aEv_rel he hp
  obtain ⟨g', us, h3, h4, h5, h6⟩ := hv.box id ty cs hb
  rw [h1] at h3
  cases h3
  have h7 := flat_rel hfl (aEv_rel he hx) hv hok
  have h8 := h7.ones hv hok
  have h9 := store_run (tyT_ok hi) (off := off) h5 (by rw [h7.len, hsz]) (by rw [List.size_toArray, h6.len]; exact hfit) h8
  refine wpList_step fun K hK => ?_
  rw [if_pos hw]
  unfold Oper.wp
  have hr : (execOp a.eval o).run Tryz.prog w = .ok .skip (w.setCells g off (a.eval x).cells.toList) := by
    simp only [execOp, ho, h2, Sem.run_bind, h9, Result.andThen_ok, Sem.run_pure]
  rw [hr]
  show K (a.put o.dst undef) _
  rw [hd]
  obtain ⟨s1, s2, s3, s4⟩ := setCells_same g (a.eval x).cells.toList off w
  obtain ⟨cur', r1, r2, r3⟩ := setCells_row (a.eval x).cells.toList off w us.toArray h5 (by rw [h7.len, hsz, List.size_toArray, h6.len]; exact hfit)
  obtain ⟨hh, hmv⟩ := hv.put (w' := w.setCells g off (a.eval x).cells.toList) id (.box ty (cs.take off ++ ys ++ cs.drop (off + ys.length))) (μ id) s1 s2 s3 (by rw [s4]; exact Nat.le_refl _) (fun b hlt hne => setCells_far _ _ b (fun e => by
      subst e; exact hne (by rw [hb]; simp) (by rw [h1]; rfl))) (fun b hb' => .inr ⟨by rw [hb]; simp, hb'⟩) (.inl rfl)
    (fun hmv => ⟨g, cur'.toList, h1, h4, by rw [Array.toArray_toList]; exact r1, by
      rw [upd_self] at hmv ⊢
      rw [r3, List.toList_toArray, h7.len]
      have q1 := (h6.part 0 off)
      have q2 := (h6.part (off + ys.length) (cs.length - (off + ys.length)))
      have e1 : AC.part cs 0 off = cs.take off := by simp [AC.part]
      have e2 : AC.part cs (off + ys.length) (cs.length - (off + ys.length)) = cs.drop (off + ys.length) := by
        rw [AC.part, List.take_of_length_le (by rw [List.length_drop]; exact Nat.le_refl _)]
      have e3 : (us.drop (off + ys.length)).take (cs.length - (off + ys.length)) = us.drop (off + ys.length) := List.take_of_length_le (by rw [List.length_drop, h6.len]; exact Nat.le_refl _)
      rw [e1] at q1
      rw [e2, e3] at q2
      exact ((q1.append h7).append q2).mv hmv (fun x hx i hi => rfl)⟩)
  rw [upd_self] at hh hmv
  exact hK _ _ (h _ _ ⟨μ, hh, hdf, hn, fun t v ht => (he t v ht).mv hmv (fun i hi => rfl)⟩)
theorem aL_box (d t : Nat) (x : Operand) (v : AV) (xs : List AC) (ho : o.op = .box t x) (hd : o.dst = some d) (hg : Wn n st ops o) (hdn : d < n) (hf : st.fr d = true) (hx : aEv st x = some v) (hfl : v.flat = some xs) (hok : xs.all (AC.ok1 st.σ) = true) (hm : xs.all (fun x => !x.men d) = true)
    (h : aL Tryz.prog c n ops rest Q ⟨(d, .c (.ptr d 0)) :: st.env, (d, .box t xs) :: st.σ⟩) : aL Tryz.prog c n ops (o :: rest) Q st :=
  aL_new d t xs hd hg hdn hf (fun μ a w hv he => ⟨(a.eval x).cells.toList, by
    simp [execOp, ho, Instr.box, newVar, newRow, newObj, Sem.run], flat_rel hfl (aEv_rel he hx) hv hok⟩) hm h
abbrev Ki.sl : Ki → Nat | .i => 22 | .t => 88 | .m => 23 | .s => 112
theorem Ki.und (k : Ki) : Tryz.prog.underlying k.sl = some (.slice k.e) := by
  cases k
  · exact Tryz.underlying22
  · exact Tryz.underlying88
  · exact Tryz.underlying23
  · exact Tryz.underlying112
theorem Ki.ty (k : Ki) : ∃ i, tyT k.e = some i ∧ i.size = k.d.sz ∧ 0 < k.d.sz := by
  cases k
  · exact ⟨_, rfl, rfl, by decide⟩
  · exact ⟨_, rfl, rfl, by show 0 < 3; decide⟩
  · exact ⟨_, rfl, rfl, by show 0 < 4; decide⟩
  · exact ⟨_, rfl, rfl, by show 0 < 1; decide⟩
theorem Ki.info (k : Ki) : ∃ j, Tryz.prog.info? k.e = some j ∧ j.size = k.d.sz := by
  obtain ⟨i, h1, h2, _⟩ := k.ty
  obtain ⟨j, h3, h4⟩ := Option.map_eq_some_iff.1 (tyT_ok h1).size
  exact ⟨j, h3, h4.trans h2⟩
theorem add_spot {ad : Addr} {n : Nat} (h : ad.spot = none ∨ n ≠ 0) : ad.add n = ⟨ad.block, ad.off + n, none⟩ := by
  unfold Addr.add
  by_cases e : n = 0
  · rw [if_pos e]
    have h1 := h.resolve_right (fun h => h e)
    cases ad
    simp only at h1
    subst h1
    rw [e]
    rfl
  · rw [if_neg e]
theorem cell_spot {w : World} {ad : Addr} {n : Nat} {u : Value} (h : w.cell? (ad.add (n + 0)) = some u) : ad.spot = none ∨ n ≠ 0 := by
  by_cases e : n = 0
  · left
    subst e
    have h1 : w.cell? ad = some u := h
    cases hs : ad.spot with
    | none => rfl
    | some q =>
      unfold World.cell? at h1
      rw [hs] at h1
      split at h1
      · simp at h1
      · cases h1
  · exact .inr e
theorem index_run (k : Ki) (a : Addr) (len cap : Nat) (i : Int) (h0 : 0 ≤ i) (h1 : i < len) (w : World) : (Instr.indexAt k.sl (.slice (some a) len cap) (.int .i64 i)).run Tryz.prog w = .ok (.pointer (some (a.add (i.toNat * k.d.sz)))) w := by
  obtain ⟨j, h2, h3⟩ := k.info
  simp [Instr.indexAt, run_underlying k.und, asIntOf, h0, h1, sizeOf, typeInfo, h2, h3]
theorem aL_index (d : Nat) (k : Ki) (x y : Operand) (xs : List k.T) (i : Int) (z : k.T) (ho : o.op = .indexAddr k.sl x y) (hd : o.dst = some d) (hg : Wn n st ops o) (hdn : d < n) (hx : aEv st x = some (.c (.fz k xs))) (hy : aEv st y = some (.c (.v (.int .i64 i)))) (h0 : 0 ≤ i) (hz : xs[i.toNat]? = some z)
    (h : aL Tryz.prog c n ops rest Q (st.set d (.c (.el k z 0)))) : aL Tryz.prog c n ops (o :: rest) Q st :=
  aL_val d (.c (.el k z 0)) hd hg hdn (fun μ a w hh he => by
    obtain ⟨A, q, h1, h2, h3⟩ := aEv_rel he hx
    have h4 : a.eval y = .int .i64 i := aEv_rel he hy
    have hlt := (List.getElem?_eq_some_iff.1 hz).1
    obtain ⟨ad, cc, rfl, h5, h6, h7, h8⟩ := Kd.F_get h3 z i h0 (by omega)
    rw [List.getD_eq_getElem?_getD, hz] at h6
    obtain ⟨_, _, _, hpos⟩ := k.ty
    have h9 := h8 hpos
    have hc0 := h7 0 _ (List.getElem?_eq_getElem (show 0 < cc.length by omega))
    have hsp : ad.spot = none ∨ i.toNat * k.d.sz ≠ 0 := cell_spot hc0
    have hadd : ad.add (i.toNat * k.d.sz) = ⟨ad.block, ad.off + i.toNat * k.d.sz, none⟩ := add_spot hsp
    have hir := index_run k ad xs.length q i h0 (by omega) w
    rw [hadd] at hir
    refine ⟨.pointer (some ⟨ad.block, ad.off + i.toNat * k.d.sz, none⟩), by simp only [execOp, ho, h1, h4, Sem.run_bind, hir, Result.andThen_ok, Sem.run_pure], ad.block, ad.off + i.toNat * k.d.sz, cc, h6, fun j v hj => ?_, ?_, h9, by rw [Nat.add_zero]⟩
    · have h10 := h7 j v hj
      rw [add_spot (ad := ad) (n := i.toNat * k.d.sz + j) (hsp.imp_right fun h => Nat.ne_of_gt (Nat.lt_of_lt_of_le (Nat.pos_of_ne_zero h) (Nat.le_add_right _ _)))] at h10
      rw [Nat.add_assoc]
      exact h10
    · have := World.block_lt_of_cell? w _ hc0
      rw [show (ad.add (i.toNat * k.d.sz + 0)).block = ad.block by unfold Addr.add; split <;> rfl] at this
      exact this) h
theorem len_run (k : Ki) (ty : TypeId) (base : Option Addr) (m cp : Nat) (w : World) : (Builtin.len_ #[k.sl] ty #[.slice base m cp]).run Tryz.prog w = .ok (goInt m) w := by
  simp [Builtin.len_, run_underlying k.und]
theorem aL_len (d : Nat) (k : Ki) (x : Operand) (xs : List k.T) (ho : o.op = .call { callee := .builtin .len, args := #[x], argTypes := #[k.sl] }) (hd : o.dst = some d) (hg : Wn n st ops o) (hdn : d < n) (hx : aEv st x = some (.c (.fz k xs)))
    (h : aL Tryz.prog c n ops rest Q (st.set d (.c (.v (.int .i64 (xs.length : Int)))))) : aL Tryz.prog c n ops (o :: rest) Q st :=
  aL_val d (.c (.v (.int .i64 (xs.length : Int)))) hd hg hdn (fun μ a w hh he => by
    obtain ⟨A, q, h1, h2, h3⟩ := aEv_rel he hx
    exact ⟨_, by simp [execOp, ho, resolve, invoke, builtin, h1, len_run k, goInt], rfl⟩) h
theorem aL_lenO (d : Nat) (k : Ki) (x : Operand) (id : Nat) (xs : List k.T) (ho : o.op = .call { callee := .builtin .len, args := #[x], argTypes := #[k.sl] }) (hd : o.dst = some d) (hg : Wn n st ops o) (hdn : d < n) (hx : aEv st x = some (.c (.own id))) (hr : lk st.σ id = some (.row k xs))
    (h : aL Tryz.prog c n ops rest Q (st.set d (.c (.v (.int .i64 (xs.length : Int)))))) : aL Tryz.prog c n ops (o :: rest) Q st :=
  aL_val d (.c (.v (.int .i64 (xs.length : Int)))) hd hg hdn (fun μ a w hh he => by
    have h1 : a.eval x = μ id := aEv_rel he hx
    obtain ⟨cs, h2, _⟩ := hh.row id k xs hr
    obtain ⟨A, q, e1⟩ := own_slice h2
    exact ⟨_, by simp [execOp, ho, resolve, invoke, builtin, h1, e1, len_run k, goInt], rfl⟩) h
theorem FK_of_relL {k : Ki} {x : k.T} {us : List Value} (h : RelL c σ μ w (k.cells x) us) : Kd.FK k.d w (Bok c σ μ) x us := by
  cases k with
  | i =>
    obtain ⟨u, us', rfl, h1, h2⟩ := h
    rw [show u = _ from h1, show us' = [] from h2]
    exact fun W' _ => rfl
  | t =>
    obtain ⟨u0, r0, rfl, h0, u1, r1, rfl, ⟨A1, q1, rfl, l1, g1⟩, u2, r2, rfl, ⟨A2, q2, rfl, l2, g2⟩, h3⟩ := h
    rw [show u0 = _ from h0, show r2 = [] from h3]
    exact k90_mkF w _ x l1 g1 l2 g2
  | m =>
    obtain ⟨u, r, rfl, h, u0, r0, rfl, h0, u1, r1, rfl, ⟨A1, q1, rfl, l1, g1⟩, u2, r2, rfl, ⟨A2, q2, rfl, l2, g2⟩, h3⟩ := h
    rw [show u = _ from h, show u0 = _ from h0, show r2 = [] from h3]
    exact k92_mkF w _ x l1 g1 l2 g2
  | s =>
    obtain ⟨u, us', rfl, ⟨A, q, rfl, l1, g1⟩, h2⟩ := h
    rw [show us' = [] from h2]
    exact Kd.FK_slice_mk l1 g1
end
section
variable {c : Cx} {n : Nat} {ops : Array Oper} {Q : Exit → St → Prop} {st st' : St} {rest : List Oper} {o : Oper} {σ : List (Nat × Ent)} {μ : Nat → Value} {w w' : World}
abbrev Ki.un : (k : Ki) → List AC → Option k.T
  | .i, [.v (.int .i64 x)] => some x
  | .t, [.v (.int .i64 x), .fz .i l, .fz .t ts] => some ⟨x, l, ts⟩
  | .t, [.v (.int .i64 x), .v (.slice none 0 0), .fz .t ts] => some ⟨x, [], ts⟩
  | .t, [.v (.int .i64 x), .fz .i l, .v (.slice none 0 0)] => some ⟨x, l, []⟩
  | .t, [.v (.int .i64 x), .v (.slice none 0 0), .v (.slice none 0 0)] => some ⟨x, [], []⟩
  | .m, [.v (.bool b), .v (.int .i64 x), .fz .i l, .fz .t ts] => some ⟨b, ⟨x, l, ts⟩⟩
  | .m, [.v (.bool b), .v (.int .i64 x), .v (.slice none 0 0), .fz .t ts] => some ⟨b, ⟨x, [], ts⟩⟩
  | .m, [.v (.bool b), .v (.int .i64 x), .fz .i l, .v (.slice none 0 0)] => some ⟨b, ⟨x, l, []⟩⟩
  | .m, [.v (.bool b), .v (.int .i64 x), .v (.slice none 0 0), .v (.slice none 0 0)] => some ⟨b, ⟨x, [], []⟩⟩
  | .s, [.fz .t ts] => some ts
  | .s, [.v (.slice none 0 0)] => some []
  | _, _ => none
theorem nil_fz (k : Ki) : RelC c σ μ w (.fz k []) (.slice none 0 0) := ⟨none, 0, rfl, Nat.le_refl _, Kd.F_nil _ _ _⟩
theorem un_rel {k : Ki} {ys : List AC} {y : k.T} (h : k.un ys = some y) {us : List Value} (hr : RelL c σ μ w ys us) : RelL c σ μ w (k.cells y) us := by
  have key : ∀ {x : AC} {k' : Ki} {u : Value}, x = .v (.slice none 0 0) → RelC c σ μ w x u → RelC c σ μ w (.fz k' []) u := by
    intro x k' u e h
    subst e
    rw [show u = _ from h]
    exact nil_fz k'
  unfold Ki.un at h
  split at h
  · cases h; exact hr
  · cases h; exact hr
  · cases h
    obtain ⟨u, r, rfl, h0, u1, r1, rfl, h1, h2⟩ := hr
    exact ⟨u, _, rfl, h0, u1, r1, rfl, key rfl h1, h2⟩
  · cases h
    obtain ⟨u, r, rfl, h0, u1, r1, rfl, h1, u2, r2, rfl, h2, h3⟩ := hr
    exact ⟨u, _, rfl, h0, u1, _, rfl, h1, u2, r2, rfl, key rfl h2, h3⟩
  · cases h
    obtain ⟨u, r, rfl, h0, u1, r1, rfl, h1, u2, r2, rfl, h2, h3⟩ := hr
    exact ⟨u, _, rfl, h0, u1, _, rfl, key rfl h1, u2, r2, rfl, key rfl h2, h3⟩
  · cases h; exact hr
  · cases h
    obtain ⟨u', r', rfl, hb, u, r, rfl, h0, u1, r1, rfl, h1, h2⟩ := hr
    exact ⟨u', _, rfl, hb, u, _, rfl, h0, u1, r1, rfl, key rfl h1, h2⟩
  · cases h
    obtain ⟨u', r', rfl, hb, u, r, rfl, h0, u1, r1, rfl, h1, u2, r2, rfl, h2, h3⟩ := hr
    exact ⟨u', _, rfl, hb, u, _, rfl, h0, u1, _, rfl, h1, u2, r2, rfl, key rfl h2, h3⟩
  · cases h
    obtain ⟨u', r', rfl, hb, u, r, rfl, h0, u1, r1, rfl, h1, u2, r2, rfl, h2, h3⟩ := hr
    exact ⟨u', _, rfl, hb, u, _, rfl, h0, u1, _, rfl, key rfl h1, u2, r2, rfl, key rfl h2, h3⟩
  · cases h; exact hr
  · cases h
    obtain ⟨u, r, rfl, h0, h1⟩ := hr
    exact ⟨u, r, rfl, key rfl h0, h1⟩
  · cases h
theorem cells_len (k : Ki) (x : k.T) : (k.cells x).length = k.d.sz := by cases k <;> rfl
theorem rows_len (k : Ki) : ∀ xs : List k.T, (xs.flatMap k.cells).length = xs.length * k.d.sz
  | [] => by simp
  | x :: xs => by rw [List.flatMap_cons, List.length_append, rows_len k xs, cells_len, List.length_cons, Nat.succ_mul, Nat.add_comm]
theorem rows_at {k : Ki} : ∀ {xs : List k.T} {cs : List Value} (_ : RelL c σ μ w (xs.flatMap k.cells) cs) {j : Nat} {x : k.T}, xs[j]? = some x → RelL c σ μ w (k.cells x) ((cs.drop (j * k.d.sz)).take k.d.sz)
  | [], _, _, j, x, h => by simp at h
  | y :: ys, cs, hr, 0, x, h => by
    simp at h; subst h
    rw [List.flatMap_cons] at hr
    have := (hr.split).1
    rw [cells_len] at this
    simpa using this
  | y :: ys, cs, hr, j + 1, x, h => by
    rw [List.flatMap_cons] at hr
    have h2 := (hr.split).2
    rw [cells_len] at h2
    have h3 := rows_at h2 (j := j) (x := x) (by simpa using h)
    rw [List.drop_drop] at h3
    rw [Nat.succ_mul, Nat.add_comm]
    exact h3
theorem row_F {k : Ki} {xs : List k.T} {cs : List Value} {v : Value} {base : Nat} (h1 : w.ownsRow base k.e k.d.sz v xs.length cs) (h2 : RelL c σ μ w (xs.flatMap k.cells) cs) {B : Nat → Prop} (hB1 : ∀ b, Bok c σ μ b → B b) (hB2 : ∀ b, v.ownBlock = some b → B b) :
    ∃ A q, v = .slice A xs.length q ∧ xs.length ≤ q ∧ Kd.F k.d w B A xs.length xs := by
  have h1' := h1
  rcases h1.2 with ⟨rfl, h0⟩ | ⟨g, cap, cur, rfl, hb, hh, hnc, hcm, hcs, ht⟩
  · have : xs = [] := List.eq_nil_of_length_eq_zero h0
    subst this
    exact ⟨none, 0, rfl, Nat.le_refl _, Kd.F_nil _ _ _⟩
  · refine ⟨_, cap, rfl, hnc, fun W' hW => ?_⟩
    have hg : W'.heap[g]? = w.heap[g]? := hW g (hB2 g rfl) (blk_lt hh)
    have h3 : W'.ownsRow base k.e k.d.sz (.slice (some ⟨g, 0, none⟩) xs.length cap) xs.length cs := own_step h1' (fun b hbo => by cases hbo; exact hg)
    refine ⟨rfl, by simp only [maxLen] at hcm; omega, fun hp => ⟨_, rfl, fun j p hj => ?_⟩⟩
    have h4 := rows_at h2 hj
    have h5 := FK_of_relL h4
    refine ⟨_, by rw [h4.len, cells_len], h5 W' (fun b hb hlt => hW b (hB1 b hb) hlt), fun i u hu => ?_⟩
    rw [List.getElem?_take] at hu
    split at hu
    · rw [List.getElem?_drop] at hu
      exact h3.cells rfl _ u hu
    · cases hu
def kilC (id : Nat) (x : AC) : AC := bif x.men id then .top else x
def kilA (id : Nat) : AV → AV
  | .c x => .c (kilC id x)
  | .g xs => .g (xs.map (kilC id))
  | .p _ => .c .top
def kilE (id : Nat) : Ent → Ent
  | .box t cs => .box t (cs.map (kilC id))
  | e => e
def St.kil (st : St) (id : Nat) : St := ⟨st.env.map (fun p => (p.1, kilA id p.2)), st.σ.map (fun p => (p.1, kilE id p.2))⟩
theorem kilC_men (id : Nat) (x : AC) : (kilC id x).men id = false := by
  unfold kilC
  cases h : x.men id
  · exact h
  · rfl
theorem kilA_men (id : Nat) (x : AV) : (kilA id x).men id = false := by
  cases x with
  | c x => exact kilC_men id x
  | g xs => simp only [kilA, AV.men, List.any_map, List.any_eq_false, Function.comp]; intro x _; rw [kilC_men]; simp
  | p xs => rfl
theorem kilE_men (id : Nat) (e : Ent) : (kilE id e).men id = false := by
  cases e with
  | box t cs => simp only [kilE, Ent.men, List.any_map, List.any_eq_false, Function.comp]; intro x _; rw [kilC_men]; simp
  | row k xs => rfl
  | tape _ _ => rfl
theorem lk_map {α : Type} (f : α → α) : ∀ (l : List (Nat × α)) (t : Nat), lk (l.map fun p => (p.1, f p.2)) t = (lk l t).map f
  | [], t => rfl
  | (k, v) :: l, t => by
    rw [List.map_cons, lk_cons, lk_cons, lk_map f l t]
    by_cases h : k = t <;> simp [h]
theorem RelC.kil {x : AC} {u : Value} (h : RelC c σ μ w x u) (id : Nat) : RelC c σ μ w (kilC id x) u := by
  unfold kilC
  cases x.men id
  · exact h
  · trivial
theorem RelL.kil (id : Nat) : ∀ {xs : List AC} {us : List Value}, RelL c σ μ w xs us → RelL c σ μ w (xs.map (kilC id)) us
  | [], _, h => h
  | x :: xs, _, ⟨u, us', e, h1, h2⟩ => ⟨u, us', e, h1.kil id, h2.kil id⟩
theorem RelV.kil {x : AV} {u : Value} (h : RelV c σ μ w x u) (id : Nat) : RelV c σ μ w (kilA id x) u := by
  cases x with
  | c x => exact RelC.kil (x := x) h id
  | g xs => obtain ⟨us, e, h2⟩ := h; exact ⟨us, e, h2.kil id⟩
  | p xs => exact trivial
theorem mv_same {σ σ' : List (Nat × Ent)} (h : ∀ id, (lk σ' id).isSome = true → (lk σ id).isSome = true) : Mv c σ σ' μ μ w w :=
  ⟨fun _ _ _ => rfl, fun b hk _ => ⟨hk.1, fun id e he => by
    cases h2 : lk σ id with
    | none => have := h id (by rw [he]; rfl); rw [h2] at this; cases this
    | some e' => exact hk.2 id e' h2⟩, Nat.le_refl _⟩
theorem lk_kil (st : St) (id j : Nat) : lk (st.kil id).σ j = (lk st.σ j).map (kilE id) := lk_map (kilE id) st.σ j
theorem kil_mv (st : St) (id : Nat) : Mv c st.σ (st.kil id).σ μ μ w w := mv_same fun j h => by rw [lk_kil, Option.isSome_map] at h; exact h
theorem Hv.kil (hv : Hv c st.σ μ w) (id : Nat) : Hv c (st.kil id).σ μ w := by
  have hmv : Mv c st.σ (st.kil id).σ μ μ w w := kil_mv st id
  refine ⟨hv.fr, hv.ok, fun j ty cs hj => ?_, fun j k xs hj => ?_, fun i j e e' b hi hj hbi hbj => ?_, fun j s pos hj => ?_, hv.rt⟩
  · rw [lk_kil] at hj
    obtain ⟨e, h1, h2⟩ := Option.map_eq_some_iff.1 hj
    cases e with
    | row k xs => cases h2
    | tape _ _ => cases h2
    | box ty' cs' =>
      cases h2
      obtain ⟨g, us, q1, q2, q3, q4⟩ := hv.box j ty cs' h1
      exact ⟨g, us, q1, q2, q3, (q4.kil id).mv hmv (fun _ _ _ _ => rfl)⟩
  · rw [lk_kil] at hj
    obtain ⟨e, h1, h2⟩ := Option.map_eq_some_iff.1 hj
    cases e with
    | box ty' cs' => cases h2
    | tape _ _ => cases h2
    | row k' xs' =>
      cases h2
      obtain ⟨cs, q1, q2⟩ := hv.row j k xs h1
      exact ⟨cs, q1, q2.mv hmv (fun _ _ _ _ => rfl)⟩
  · rw [lk_kil] at hi hj
    obtain ⟨e1, h1, _⟩ := Option.map_eq_some_iff.1 hi
    obtain ⟨e2, h2, _⟩ := Option.map_eq_some_iff.1 hj
    exact hv.dis i j e1 e2 b h1 h2 hbi hbj
  · rw [lk_kil] at hj
    obtain ⟨e, h1, h2⟩ := Option.map_eq_some_iff.1 hj
    cases e with
    | tape s' p' => cases h2; exact hv.tap j s pos h1
    | _ => cases h2
theorem env_kil {a : Act} (id : Nat) (he : ∀ t v, lk st.env t = some v → RelV c st.σ μ w v (a.tmps.getD t undef)) : ∀ t v, lk (st.kil id).env t = some v → RelV c (st.kil id).σ μ w v (a.tmps.getD t undef) := fun t v ht => by
  have h1 : lk (st.kil id).env t = (lk st.env t).map (kilA id) := lk_map (kilA id) st.env t
  rw [h1] at ht
  obtain ⟨v', h2, rfl⟩ := Option.map_eq_some_iff.1 ht
  exact ((he t v' h2).kil id).mv (kil_mv st id) (fun _ _ => rfl)
theorem St.kil_fr (st : St) (id : Nat) : (st.kil id).fr id = true := by
  unfold St.fr St.kil
  rw [Bool.and_eq_true, List.all_eq_true, List.all_eq_true]
  refine ⟨fun p hp => ?_, fun p hp => ?_⟩
  · obtain ⟨q, _, rfl⟩ := List.mem_map.1 hp
    simp [kilA_men]
  · obtain ⟨q, _, rfl⟩ := List.mem_map.1 hp
    simp [kilE_men]
end
section
variable {c : Cx} {n : Nat} {ops : Array Oper} {Q : Exit → St → Prop} {st st' : St} {rest : List Oper} {o : Oper} {σ : List (Nat × Ent)} {μ : Nat → Value} {w w' : World}
theorem env_put {a : Act} {id : Nat} {e1 : Ent} {v1 : Value} (he : ∀ t v, lk st.env t = some v → RelV c st.σ μ w v (a.tmps.getD t undef)) (hf : st.fr id = true) (hmv : Mv c st.σ ((id, e1) :: st.σ) μ (upd μ id v1) w w') :
    ∀ t v, lk st.env t = some v → RelV c ((id, e1) :: st.σ) (upd μ id v1) w' v (a.tmps.getD t undef) := fun t v ht =>
  (he t v ht).mv hmv (fun i hi => if_neg (fun e => by subst e; rw [St.fr_env hf ht] at hi; cases hi))
def litA (st : St) (k : Ki) : List Operand → Option (List k.T)
  | [] => some []
  | x :: xs => match aEv st x with
    | some v => match v.flat with
      | some l => bif l.all (AC.ok1 st.σ) then (match k.un l with
        | some y => (litA st k xs).map (y :: ·)
        | none => none) else none
      | none => none
    | none => none
theorem litA_rel {a : Act} (hv : Hv c st.σ μ w) (he : ∀ t v, lk st.env t = some v → RelV c st.σ μ w v (a.tmps.getD t undef)) {k : Ki} : ∀ {xs : List Operand} {ys : List k.T}, litA st k xs = some ys →
    ys.length = xs.length ∧ RelL c st.σ μ w (ys.flatMap k.cells) ((xs.map a.eval).flatMap fun v => v.cells.toList) ∧ ∀ v ∈ xs.map a.eval, v.cells.size = k.d.sz
  | [], ys, h => by cases h; exact ⟨rfl, rfl, by simp⟩
  | x :: xs, ys, h => by
    unfold litA at h
    cases hx : aEv st x with
    | none => rw [hx] at h; cases h
    | some v =>
      rw [hx] at h
      simp only at h
      cases hl : v.flat with
      | none => rw [hl] at h; cases h
      | some l =>
        rw [hl] at h
        simp only at h
        cases hall : l.all (AC.ok1 st.σ)
        · rw [hall] at h; cases h
        · rw [hall] at h
          simp only [cond_true] at h
          cases hy : k.un l with
          | none => rw [hy] at h; cases h
          | some y =>
            rw [hy] at h
            simp only at h
            obtain ⟨ys', h1, rfl⟩ := Option.map_eq_some_iff.1 h
            obtain ⟨q1, q2, q3⟩ := litA_rel hv he h1
            have q4 := un_rel hy (flat_rel hl (aEv_rel he hx) hv hall)
            have q5 := q4.len
            rw [cells_len] at q5
            refine ⟨by rw [List.length_cons, List.length_cons, q1], by rw [List.flatMap_cons, List.map_cons, List.flatMap_cons]; exact q4.append q2, fun u hu => ?_⟩
            rw [List.map_cons] at hu
            rcases List.mem_cons.1 hu with rfl | hu
            · rw [← Array.length_toList]; exact q5
            · exact q3 u hu
theorem aL_lit (d : Nat) (k : Ki) (m : Nat) (parts : Array (Nat × Operand)) (xs : List Operand) (ys : List k.T) (ho : o.op = .buildSlice k.sl m parts) (hd : o.dst = some d) (hg : Wn n st ops o) (hdn : d < n) (hp : parts.toList = (xs.zipIdx 0).map fun x => (x.2, x.1)) (hm : m = xs.length) (h0 : 0 < m) (hms : m < 1000) (hl : litA st k xs = some ys) (hf : st.fr d = true)
    (h : aL Tryz.prog c n ops rest Q ⟨(d, .c (.own d)) :: st.env, (d, .row k ys) :: st.σ⟩) : aL Tryz.prog c n ops (o :: rest) Q st := fun a w hi => by
  have hw := hg.want hi
  obtain ⟨μ, hv, hdf, hn, he⟩ := hi
  obtain ⟨q1, q2, q3⟩ := litA_rel hv he hl
  obtain ⟨i, t1, t2, t3⟩ := k.ty
  obtain ⟨j, t4, t5⟩ := Option.map_eq_some_iff.1 (tyT_ok t1).info
  simp only [Prod.mk.injEq] at t5
  have t6 := (tyT_ok t1).all.2
  have hsz4 : k.d.sz ≤ 4 := by cases k <;> first | exact (by decide : 1 ≤ 4) | exact (by decide : 3 ≤ 4) | exact (by decide : 4 ≤ 4)
  have hjs : j.size = k.d.sz := t5.2.trans t2
  have hmul : m * k.d.sz ≤ 4000 := Nat.le_trans (Nat.mul_le_mul (Nat.le_of_lt hms) hsz4) (by decide)
  have hrun := run_buildSlice (P := Tryz.prog) w k.sl k.e m (parts.map fun (i, x) => (i, a.eval x)) ((xs.map a.eval).flatMap fun v => v.cells.toList).toArray j i.zero k.und t4 t5.1 (by rw [hjs]; omega) (by rw [hjs]; exact Nat.ne_of_gt (Nat.mul_pos h0 t3))
    (by
      rw [hjs]
      have e : (parts.map fun (i, x) => (i, a.eval x)).toList = ((xs.map a.eval).zipIdx 0).map fun x => (x.2, x.1) := by
        rw [Array.toList_map, hp, List.zipIdx_map, List.map_map, List.map_map]
        rfl
      rw [e]
      exact Go.Great.fill_whole t3 _ _ q3 (by rw [List.length_map, ← hm]; simp))
  refine wpList_step fun K hK => ?_
  rw [if_pos hw]
  unfold Oper.wp
  have hr : (execOp a.eval o).run Tryz.prog w = .ok (.value (.slice (some ⟨w.heap.size, 0, none⟩) m m)) (w.alloc (.cells ((xs.map a.eval).flatMap fun v => v.cells.toList).toArray k.e)) := by
    simp only [execOp, ho, Sem.run_bind, hrun, Result.andThen_ok, Sem.run_pure]
  rw [hr]
  show K (a.put o.dst _) _
  rw [hd]
  generalize hus : ((xs.map a.eval).flatMap fun v => v.cells.toList) = us at *
  have hul := q2.len
  rw [rows_len] at hul
  obtain ⟨hh, hmv⟩ := hv.put (w' := w.alloc (.cells us.toArray k.e)) d (.row k ys) (.slice (some ⟨w.heap.size, 0, none⟩) m m) rfl rfl rfl (by simp) (fun b hb _ => Below.heap_alloc w _ b hb) (fun b hb => by cases hb; exact .inl (Nat.le_refl _)) (.inr fun j e hj hne => St.fr_σ hf hj hne)
    (fun hmv => ⟨us, by
      have := World.ownsRow_lit (base := c.base) (e := k.e) (size := k.d.sz) w us.toArray m hv.fr.size (by unfold maxLen; omega) (by rw [List.size_toArray, hul, q1, hm])
      rw [q1, ← hm]
      simpa using this, q2.mv hmv (fun x hx i hi => by rw [rows_men k ys i x hx] at hi; cases hi)⟩)
  obtain ⟨k1, k2, k3⟩ := put_inv (st := ⟨st.env, (d, .row k ys) :: st.σ⟩) (w := w.alloc (.cells us.toArray k.e)) (μ := upd μ d (.slice (some ⟨w.heap.size, 0, none⟩) m m)) hdf hn (env_put he hf hmv) (v := .c (.own d)) (u := .slice (some ⟨w.heap.size, 0, none⟩) m m) hdn (by
    show _ = (if d = d then _ else _)
    rw [if_pos rfl])
  exact hK _ _ (h _ _ ⟨_, hh, k1, k2, k3⟩)
def SrcA (c : Cx) (σ : List (Nat × Ent)) (μ : Nat → Value) (w : World) (k : Ki) (ys : List k.T) (u : Value) : Prop :=
  ∃ A q, u = .slice A ys.length q ∧ (A = none → ys = []) ∧ ∀ ad, A = some ad → ∃ news, RelL c σ μ w (ys.flatMap k.cells) news ∧ ∀ j v, news[j]? = some v → w.cell? (ad.add j) = some v
theorem reps_relL {k : Ki} {B : Nat → Prop} (hB : B = Bok c σ μ) : ∀ {ys : List k.T} {us : List Value}, Reps (fun x cc => Kd.FK k.d w B x cc) k.d.sz ys us → RelL c σ μ w (ys.flatMap k.cells) us
  | [], us, h => by
    have := h.1
    simp at this
    subst this
    rfl
  | y :: ys, us, h => by
    subst hB
    rw [List.flatMap_cons]
    have h1 := relL_of_FK (h.2 0 y rfl)
    simp only [Nat.zero_mul, List.drop_zero] at h1
    have h2 : Reps (fun x cc => Kd.FK k.d w (Bok c σ μ) x cc) k.d.sz ys (us.drop k.d.sz) := ⟨by rw [List.length_drop, h.1, List.length_cons, Nat.succ_mul]; omega, fun j p hj => by
      have := h.2 (j + 1) p (by simpa using hj)
      rw [List.drop_drop]
      rw [Nat.succ_mul, Nat.add_comm] at this
      exact this⟩
    have := h1.append (reps_relL rfl h2)
    rwa [List.take_append_drop] at this
theorem src_fz {k : Ki} {ys : List k.T} {u : Value} (h : RelC c σ μ w (.fz k ys) u) : SrcA c σ μ w k ys u := by
  obtain ⟨A, q, rfl, h1, h2⟩ := h
  refine ⟨A, q, rfl, fun e => ?_, fun ad e => ?_⟩
  · subst e
    rcases Nat.eq_zero_or_pos ys.length with h0 | h0
    · exact List.eq_nil_of_length_eq_zero h0
    · obtain ⟨ad, h3, _⟩ := (Kd.F_now h2).2.2 h0
      cases h3
  · subst e
    obtain ⟨news, h3, h4⟩ := ReadsRow.inner_ (Kd.F_rows h2)
    exact ⟨news, reps_relL rfl h3, h4⟩
theorem src_own {k : Ki} {ys : List k.T} {id : Nat} (hv : Hv c σ μ w) (h : lk σ id = some (.row k ys)) : SrcA c σ μ w k ys (μ id) := by
  obtain ⟨cs, h1, h2⟩ := hv.row id k ys h
  have h1' := h1
  rcases h1.2 with ⟨e, h0⟩ | ⟨g, cap, cur, e, _⟩
  · rw [e]
    exact ⟨none, 0, by rw [h0], fun _ => List.eq_nil_of_length_eq_zero h0, fun ad h => by cases h⟩
  · rw [e] at h1' ⊢
    exact ⟨_, cap, rfl, fun h => (by cases h), fun ad h => (by cases h; exact ⟨cs, h2, fun j v hj => h1'.cells rfl j v hj⟩)⟩
theorem rows_one {k : Ki} {xs : List k.T} {us : List Value} (hv : Hv c σ μ w) (h : RelL c σ μ w (xs.flatMap k.cells) us) : ∀ u ∈ us, u.oneCell' = true :=
  h.ones hv (List.all_eq_true.2 fun x hx => by
    obtain ⟨y, _, hy⟩ := List.mem_flatMap.1 hx
    cases k <;> simp [Ki.cells] at hy <;> (first | (rcases hy with rfl | rfl | rfl | rfl) | (rcases hy with rfl | rfl | rfl) | subst hy) <;> rfl)
theorem aL_append (d : Nat) (k : Ki) (s x : Operand) (id : Nat) (xs ys : List k.T) (v : AV) (ho : o.op = .call { callee := .builtin .append, args := #[s, x], argTypes := #[k.sl, k.sl] }) (hd : o.dst = some d) (hg : Wn n st ops o) (hdn : d < n) (hs : aEv st s = some (.c (.own id))) (hr : lk st.σ id = some (.row k xs))
    (hx : aEv st x = some v) (hsrc : v = .c (.fz k ys) ∨ ∃ id2, v = .c (.own id2) ∧ lk st.σ id2 = some (.row k ys)) (hl : xs.length + ys.length ≤ 1000000000000)
    (h : aL Tryz.prog c n ops rest Q ⟨(d, .c (.own id)) :: (st.kil id).env, (id, .row k (xs ++ ys)) :: (st.kil id).σ⟩) : aL Tryz.prog c n ops (o :: rest) Q st := fun a w hi => by
  have hw := hg.want hi
  obtain ⟨μ, hv, hdf, hn, he⟩ := hi
  have h1 : a.eval s = μ id := aEv_rel he hs
  obtain ⟨cs, o1, o2⟩ := hv.row id k xs hr
  have hsrc' : SrcA c st.σ μ w k ys (a.eval x) := by
    have h2 := aEv_rel he hx
    rcases hsrc with rfl | ⟨id2, rfl, h3⟩
    · exact src_fz h2
    · rw [show a.eval x = μ id2 from h2]; exact src_own hv h3
  obtain ⟨A, q, e1, e2, e3⟩ := hsrc'
  obtain ⟨i, t1, t2, t3⟩ := k.ty
  obtain ⟨j, t4, t5⟩ := Option.map_eq_some_iff.1 (tyT_ok t1).info
  simp only [Prod.mk.injEq] at t5
  have hjs : j.size = k.d.sz := t5.2.trans t2
  have hby : j.bytes ≤ 64 := by
    cases k
    · obtain ⟨j', p1, p2⟩ := Option.map_eq_some_iff.1 info3; rw [t4] at p1; cases p1; simp only [Prod.mk.injEq] at p2; omega
    · obtain ⟨j', p1, p2⟩ := Option.map_eq_some_iff.1 info90; rw [t4] at p1; cases p1; simp only [Prod.mk.injEq] at p2; omega
    · obtain ⟨j', p1, p2⟩ := Option.map_eq_some_iff.1 info92; rw [t4] at p1; cases p1; simp only [Prod.mk.injEq] at p2; omega
    · have p1 : (Tryz.prog.info? 88).map (·.bytes) = some 24 := by kernel_rfl
      obtain ⟨j', p2, p3⟩ := Option.map_eq_some_iff.1 p1
      rw [t4] at p2; cases p2; omega
  have hrun : ∃ v1 w1, (Builtin.append_ #[k.sl, k.sl] o.type #[μ id, a.eval x]).run Tryz.prog w = .ok v1 w1 ∧ w.grownBy w1 (μ id).ownBlock ∧ (v1.ownBlock = (μ id).ownBlock ∨ v1.ownBlock = some w.heap.size) ∧ ∃ news, RelL c st.σ μ w (ys.flatMap k.cells) news ∧ w1.ownsRow c.base k.e k.d.sz v1 (xs ++ ys).length (cs ++ news) := by
    cases A with
    | none =>
      have h0 := e2 rfl
      subst h0
      refine ⟨μ id, w, ?_, World.grownBy.refl w _, .inl rfl, [], rfl, by simpa using o1⟩
      rw [e1]
      rcases o1.2 with ⟨e, hn0⟩ | ⟨g, cap, cur, e, _, _, hnc, _⟩
      · rw [e]; simp [Builtin.append_, run_underlying k.und, sizeOf, typeInfo, t4, Builtin.lenOf, Builtin.firstCells]
      · rw [e]; simp [Builtin.append_, run_underlying k.und, sizeOf, typeInfo, t4, Builtin.lenOf, Builtin.firstCells, hnc, storeCells]
    | some ad =>
      obtain ⟨news, n1, n2⟩ := e3 ad rfl
      have n3 := n1.len
      rw [rows_len] at n3
      obtain ⟨v1, w1, r1, r2, r3, _, r4⟩ := run_append_own_at (P := Tryz.prog) (w := w) c.base k.sl o.type k.e j i.zero k.d.sz j.bytes k.und t4 t5.1 hjs rfl ((tyT_ok t1).all.2.trans t2) t3 (μ id) xs.length cs o1 ad ys.length q news n3 n2 (rows_one hv n1) (by unfold maxLen; omega)
        (Nat.le_trans (Nat.mul_le_mul_left _ hby) (by omega)) hv.fr.size
      rw [e1]
      exact ⟨v1, w1, r1, r3, r4, news, n1, by rw [List.length_append]; exact r2⟩
  obtain ⟨v1, w1, r1, r2, r3, news, n1, r4⟩ := hrun
  refine wpList_step fun K hK => ?_
  rw [if_pos hw]
  unfold Oper.wp
  have hr' : (execOp a.eval o).run Tryz.prog w = .ok (.value v1) w1 := by
    simp [execOp, ho, resolve, invoke, builtin, h1, r1]
  rw [hr']
  show K (a.put o.dst _) _
  rw [hd]
  have hk := hv.kil (st := st) id
  have hek := env_kil (c := c) (w := w) id he
  have hfk := St.kil_fr st id
  have hlk : lk (st.kil id).σ id = some (.row k xs) := by rw [lk_kil, hr]; rfl
  have hbk : ∀ {v : Value} {b : Nat}, (∃ A m q, v = .slice A m q) → bk v = some b → v.ownBlock = some b := by
    rintro v b ⟨A, m, q, rfl⟩ h; rw [own_bk] at h; exact h
  obtain ⟨A1, q1, es1⟩ := own_slice o1
  obtain ⟨A2, q2, es2⟩ := own_slice r4
  obtain ⟨hh, hmv⟩ := hk.put (w' := w1) id (.row k (xs ++ ys)) v1 r2.os r2.tape r2.output r2.size (fun b hlt hne => r2.block b hlt (fun e => hne (by rw [hlk]; simp) (bk_own e.symm)))
    (fun b hb => by
      have hb' := hbk ⟨A2, _, q2, es2⟩ hb
      rcases r3 with r3 | r3
      · right; exact ⟨by rw [hlk]; simp, bk_own (r3.symm.trans hb')⟩
      · left; rw [r3] at hb'; cases hb'; exact Nat.le_refl _)
    (.inr fun j e hj hne => St.fr_σ hfk hj hne)
    (fun hmv => ⟨cs ++ news, r4, by
      rw [List.flatMap_append]
      exact ((o2.mv (kil_mv st id) (fun _ _ _ _ => rfl)).append (n1.mv (kil_mv st id) (fun _ _ _ _ => rfl))).mv hmv (fun y hy i hi => by
        rw [← List.flatMap_append] at hy
        rw [rows_men k (xs ++ ys) i y hy] at hi; cases hi)⟩)
  obtain ⟨k1, k2, k3⟩ := put_inv (st := ⟨(st.kil id).env, (id, .row k (xs ++ ys)) :: (st.kil id).σ⟩) (w := w1) (μ := upd μ id v1) hdf hn (env_put hek hfk hmv) (v := .c (.own id)) (u := v1) hdn (by
    show _ = (if id = id then _ else _)
    rw [if_pos rfl])
  exact hK _ _ (h _ _ ⟨_, hh, k1, k2, k3⟩)
end
def okC (σ : List (Nat × Ent)) : AC → AC → Prop
  | .own id, .fz k xs => lk σ id = some (.row k xs)
  | .v (.slice none 0 0), .fz k xs => xs = []
  | .fz k xs, .fz k' xs' => (AC.fz k xs) = .fz k' xs'
  | .v x, .v y => x = y
  | _, .top => True
  | _, _ => False
def okL (σ : List (Nat × Ent)) : List AC → List AC → Prop
  | [], [] => True
  | x :: xs, y :: ys => okC σ x y ∧ okL σ xs ys
  | _, _ => False
def okA (σ : List (Nat × Ent)) : AV → AV → Prop
  | .c x, .c y => okC σ x y
  | .g xs, .g ys => okL σ xs ys
  | _, _ => False
def okT (σ : List (Nat × Ent)) : List AV → List AV → Prop
  | [], [] => True
  | x :: xs, y :: ys => okA σ x y ∧ okT σ xs ys
  | _, _ => False
section
variable {c c2 : Cx} {n : Nat} {ops : Array Oper} {Q : Exit → St → Prop} {st st' : St} {rest : List Oper} {o : Oper} {σ σ2 : List (Nat × Ent)} {μ μ2 : Nat → Value} {w w' : World}
def Tr (c : Cx) (σ : List (Nat × Ent)) (μ : Nat → Value) (c2 : Cx) (σ2 : List (Nat × Ent)) (μ2 : Nat → Value) (w : World) : Prop :=
  ∀ b, b < w.heap.size → (Bok c σ μ b ∨ ∃ id k xs, lk σ id = some (.row k xs) ∧ (μ id).ownBlock = some b) → Bok c2 σ2 μ2 b
theorem okC_rel (hv : Hv c σ μ w) (ht : Tr c σ μ c2 σ2 μ2 w) {x y : AC} {u : Value} (h : okC σ x y) (hr : RelC c σ μ w x u) : RelC c2 σ2 μ2 w y u := by
  unfold okC at h
  split at h
  · rename_i id k xs
    obtain ⟨cs, h1, h2⟩ := hv.row id k xs h
    rw [show u = μ id from hr]
    obtain ⟨A, q, e1, e2, e3⟩ := row_F h1 h2 (B := fun b => Bok c σ μ b ∨ (μ id).ownBlock = some b) (fun b hb => .inl hb) (fun b hb => .inr hb)
    exact ⟨A, q, e1, e2, Kd.F_mono (Kd.F_bound e3) (fun b hb => ht b hb.2 (hb.1.imp_right fun h' => ⟨id, k, xs, h, h'⟩))⟩
  · subst h
    rw [show u = _ from hr]
    exact nil_fz _
  · rw [← h]
    obtain ⟨A, q, e1, e2, e3⟩ := hr
    exact ⟨A, q, e1, e2, Kd.F_mono (Kd.F_bound e3) (fun b hb => ht b hb.2 (.inl hb.1))⟩
  · rw [← h]; exact hr
  · trivial
  · exact h.elim
theorem okL_rel (hv : Hv c σ μ w) (ht : Tr c σ μ c2 σ2 μ2 w) : ∀ {xs ys : List AC} {us : List Value}, okL σ xs ys → RelL c σ μ w xs us → RelL c2 σ2 μ2 w ys us
  | [], [], _, _, hr => hr
  | x :: xs, y :: ys, _, h, ⟨u, us', e, h1, h2⟩ => ⟨u, us', e, okC_rel hv ht h.1 h1, okL_rel hv ht h.2 h2⟩
  | [], _ :: _, _, h, _ => h.elim
  | _ :: _, [], _, h, _ => h.elim
theorem okA_rel (hv : Hv c σ μ w) (ht : Tr c σ μ c2 σ2 μ2 w) {x y : AV} {u : Value} (h : okA σ x y) (hr : RelV c σ μ w x u) : RelA c2 σ2 μ2 w y u := by
  cases x <;> cases y <;> first | exact h.elim | skip
  · exact okC_rel hv ht h hr
  · obtain ⟨us, e, h2⟩ := hr
    exact ⟨us, e, okL_rel hv ht h h2⟩
def Snd (f : Nat) (args : List AV) (r : AV) : Prop := ∀ (c : Cx) (σ : List (Nat × Ent)) (μ : Nat → Value) (w : World) (us : List Value), Hv c σ μ w → RelT c σ μ w args us →
  Calls Tryz.prog f us.toArray w fun e w' => ∃ u, e = .returned u ∧ RelV c σ μ w' r u ∧ Below w.heap.size w w'
def evL (st : St) : List Operand → Option (List AV)
  | [] => some []
  | x :: xs => match aEv st x with
    | some v => (evL st xs).map (v :: ·)
    | none => none
theorem evL_rel {a : Act} (he : ∀ t v, lk st.env t = some v → RelV c st.σ μ w v (a.tmps.getD t undef)) (hv : Hv c st.σ μ w) (ht : Tr c st.σ μ c2 σ2 μ2 w) : ∀ {xs : List Operand} {vs ws : List AV}, evL st xs = some vs → okT st.σ vs ws → RelT c2 σ2 μ2 w ws (xs.map a.eval)
  | [], vs, ws, h, k => by
    cases h
    cases ws with
    | nil => rfl
    | cons _ _ => exact k.elim
  | x :: xs, vs, ws, h, k => by
    unfold evL at h
    cases hx : aEv st x with
    | none => rw [hx] at h; cases h
    | some v =>
      rw [hx] at h
      simp only at h
      obtain ⟨vs', h1, rfl⟩ := Option.map_eq_some_iff.1 h
      cases ws with
      | nil => exact k.elim
      | cons y ys => exact ⟨_, _, rfl, okA_rel hv ht k.1 (aEv_rel he hx), evL_rel he hv ht h1 k.2⟩
theorem Hv.below (h : Hv c σ μ w) (hb : Below w.heap.size w w') : Hv c σ μ w' ∧ Mv c σ σ μ μ w w' := by
  have hmv : Mv c σ σ μ μ w w' := ⟨fun b _ hlt => hb.block b hlt, fun b hk _ => hk, hb.size⟩
  refine ⟨⟨⟨hb.os.trans h.fr.os, hb.tape.trans h.fr.tape, hb.output.trans h.fr.output, Nat.le_trans h.fr.size hb.size, fun b hlt hne => (hb.block b (Nat.lt_of_lt_of_le hlt h.fr.size)).trans (h.fr.block b hlt hne)⟩, h.ok, fun j ty cs hj => ?_, fun j k xs hj => ?_, h.dis, fun j s pos hj => ?_, h.rt⟩, hmv⟩
  · obtain ⟨g, us, h1, h2, h3, h4⟩ := h.box j ty cs hj
    exact ⟨g, us, h1, h2, (hb.block g (blk_lt h3)).trans h3, h4.mv hmv (fun _ _ _ _ => rfl)⟩
  · obtain ⟨cs, h1, h2⟩ := h.row j k xs hj
    exact ⟨cs, own_step h1 (fun b hbo => hb.block b (own_lt h1 b hbo)), h2.mv hmv (fun _ _ _ _ => rfl)⟩
  · obtain ⟨g, h1, h2, h3⟩ := h.tap j s pos hj
    exact ⟨g, h1, h2, tape_step h3 (hb.block g h3.lt)⟩
def AV.flatv : AV → Bool
  | .c (.v _) => true
  | .p xs => xs.all fun x => match x with | .c (.v _) => true | _ => false
  | _ => false
theorem flatv_rel {r : AV} (h : r.flatv = true) {u : Value} (hr : RelV c σ μ w r u) : RelV c2 σ2 μ2 w r u := by
  cases r with
  | c x => cases x <;> first | exact hr | cases h
  | g xs => cases h
  | p xs =>
    obtain ⟨us, e, h2⟩ := hr
    refine ⟨us, e, ?_⟩
    clear e
    induction xs generalizing us with
    | nil => exact h2
    | cons x xs ih =>
      obtain ⟨u, us', e, h3, h4⟩ := h2
      simp only [AV.flatv, List.all_cons, Bool.and_eq_true] at h
      refine ⟨u, us', e, ?_, ih (by simpa [AV.flatv] using h.2) us' h4⟩
      cases x with
      | c x => cases x <;> first | exact h3 | cases h.1
      | g xs => cases h.1
      | p xs => cases h.1
abbrev Cx.all (c : Cx) : Cx := ⟨c.w0, fun _ => True, c.tp, c.r0⟩
theorem Hv.all (h : Hv c σ μ w) : Hv c.all [] μ w := ⟨⟨h.fr.os, h.fr.tape, h.fr.output, h.fr.size, h.fr.block⟩, fun _ _ => trivial, fun _ _ _ h => (by cases h), fun _ _ _ h => (by cases h), fun _ _ _ _ _ h => (by cases h), fun _ _ _ h => (by cases h), h.rt⟩
theorem call_step (d f : Nat) (fn : Func) (xs : List Operand) (ts : Array TypeId) (r : AV) (ho : o.op = .call { callee := .value (.func f), args := xs.toArray, argTypes := ts }) (hd : o.dst = some d) (hg : Wn n st ops o) (hdn : d < n)
    (hf : Tryz.prog.funcs[f]? = some fn) (hname : (fn.name == "runtime.NumGoroutine") = false) (hb : fn.body.isSome = true)
    (hc : ∀ (μ : Nat → Value) (a : Act) (w : World), Hv c st.σ μ w → (∀ t v, lk st.env t = some v → RelV c st.σ μ w v (a.tmps.getD t undef)) → Calls Tryz.prog f (xs.map a.eval).toArray w fun e w' => ∃ u, e = .returned u ∧ RelV c st.σ μ w' r u ∧ Below w.heap.size w w')
    (h : aL Tryz.prog c n ops rest Q (st.set d r)) : aL Tryz.prog c n ops (o :: rest) Q st := fun a w hi => by
  have hw := hg.want hi
  obtain ⟨μ, hv, hdf, hn, he⟩ := hi
  refine wpList_step fun K hK => ?_
  rw [if_pos hw]
  unfold Oper.wp
  have hn2 : ¬ fn.name = "runtime.NumGoroutine" := fun e => by rw [e] at hname; simp at hname
  have hb2 : ¬ fn.body = none := fun e => by rw [e] at hb; cases hb
  have hr : (execOp a.eval o).run Tryz.prog w = .ok (.enter f (xs.map a.eval).toArray) w := by
    simp [execOp, ho, resolve, Deferred.ofValue, Act.eval, invoke, callFunc, hf, hn2, hb2]
  rw [hr]
  show Calls Tryz.prog f _ w _
  refine (hc μ a w hv he).mono ?_
  rintro e w' ⟨u, rfl, hu, hbl⟩
  show K (a.put o.dst u) w'
  rw [hd]
  obtain ⟨hh, hmv⟩ := hv.below hbl
  obtain ⟨k1, k2, k3⟩ := put_inv (st := st) (w := w') (μ := μ) hdf hn (fun t v ht => (he t v ht).mv hmv (fun _ _ => rfl)) (v := r) (u := u) hdn hu
  exact hK _ _ (h _ _ ⟨μ, hh, k1, k2, k3⟩)
theorem aL_call (d f : Nat) (fn : Func) (xs : List Operand) (ts : Array TypeId) (vs args : List AV) (r : AV) (ho : o.op = .call { callee := .value (.func f), args := xs.toArray, argTypes := ts }) (hd : o.dst = some d) (hg : Wn n st ops o) (hdn : d < n)
    (hf : Tryz.prog.funcs[f]? = some fn) (hname : (fn.name == "runtime.NumGoroutine") = false) (hb : fn.body.isSome = true) (hvs : evL st xs = some vs) (hok : okT [] vs args) (hc : Snd f args r)
    (h : aL Tryz.prog c n ops rest Q (st.set d r)) : aL Tryz.prog c n ops (o :: rest) Q st :=
  call_step d f fn xs ts r ho hd hg hdn hf hname hb (fun μ a w hv he => hc c st.σ μ w _ hv (by
    have h1 : ∀ {x y : AC}, okC [] x y → ∀ {u}, RelC c st.σ μ w x u → RelC c st.σ μ w y u := by
      intro x y h u hr
      unfold okC at h
      split at h
      · cases h
      · subst h; rw [show u = _ from hr]; exact nil_fz _
      · rw [← h]; exact hr
      · rw [← h]; exact hr
      · trivial
      · exact h.elim
    have h2 : ∀ {xs ys : List AC}, okL [] xs ys → ∀ {us}, RelL c st.σ μ w xs us → RelL c st.σ μ w ys us := by
      intro xs
      induction xs with
      | nil => intro ys h us hr; cases ys with
        | nil => exact hr
        | cons _ _ => exact h.elim
      | cons x xs ih => intro ys h us hr; cases ys with
        | nil => exact h.elim
        | cons y ys => obtain ⟨u, us', e, q1, q2⟩ := hr; exact ⟨u, us', e, h1 h.1 q1, ih h.2 q2⟩
    clear hc ho
    induction xs generalizing vs args with
    | nil => cases hvs; cases args with
      | nil => rfl
      | cons _ _ => exact hok.elim
    | cons x xs ih =>
      unfold evL at hvs
      cases hx : aEv st x with
      | none => rw [hx] at hvs; cases hvs
      | some v =>
        rw [hx] at hvs
        simp only at hvs
        obtain ⟨vs', q1, rfl⟩ := Option.map_eq_some_iff.1 hvs
        cases args with
        | nil => exact hok.elim
        | cons y ys =>
          have q2 := aEv_rel he hx
          refine ⟨_, _, rfl, ?_, ih vs' ys q1 hok.2⟩
          have q3 := hok.1
          cases v <;> cases y <;> first | exact q3.elim | skip
          · exact h1 q3 q2
          · obtain ⟨us, e, q4⟩ := q2
            exact ⟨us, e, h2 q3 q4⟩)) h
theorem aL_callS (d f : Nat) (fn : Func) (xs : List Operand) (ts : Array TypeId) (vs args : List AV) (r : AV) (ho : o.op = .call { callee := .value (.func f), args := xs.toArray, argTypes := ts }) (hd : o.dst = some d) (hg : Wn n st ops o) (hdn : d < n)
    (hf : Tryz.prog.funcs[f]? = some fn) (hname : (fn.name == "runtime.NumGoroutine") = false) (hb : fn.body.isSome = true) (hvs : evL st xs = some vs) (hok : okT st.σ vs args) (hr : r.flatv = true) (hc : Snd f args r)
    (h : aL Tryz.prog c n ops rest Q (st.set d r)) : aL Tryz.prog c n ops (o :: rest) Q st :=
  call_step d f fn xs ts r ho hd hg hdn hf hname hb (fun μ a w hv he => by
    refine (hc c.all [] μ w _ hv.all (evL_rel he hv (fun b _ _ => ⟨trivial, fun _ _ h => (by cases h)⟩) hvs hok)).mono ?_
    rintro e w' ⟨u, h1, h2, h3⟩
    exact ⟨u, h1, flatv_rel hr h2, h3⟩) h
def argE : Nat → List AV → List (Nat × AV)
  | _, [] => []
  | i, x :: xs => (i, x) :: argE (i + 1) xs
def resV (st : St) : ResultVar → Option AV
  | .tmp t => lk st.env t
  | .cell p ty => match lk st.env p with
    | some (.c (.ptr id 0)) => match lk st.σ id with
      | some (.box _ cs) => match tyT ty with
        | some i => rdA i cs 0
        | none => none
      | _ => none
    | _ => none
def resL (st : St) : List ResultVar → Option (List AV)
  | [] => some []
  | x :: xs => match resV st x with
    | some v => (resL st xs).map (v :: ·)
    | none => none
def resOK (fn : Func) (st : St) (r : AV) : Prop := ∃ vs ws, resL st fn.results.toList = some vs ∧ okT st.σ vs ws ∧ r = (match ws with | [x] => x | ws => .p ws)
def resF (tmps : Array Value) : ResultVar → Sem Value
  | .tmp t => pure (tmps.getD t undef)
  | .cell a t => do loadVar t (← asAddr (tmps.getD a undef))
theorem results_eq (fn : Func) (tmps : Array Value) : results fn tmps = (do
    let vs ← fn.results.mapM (resF tmps)
    pure (if h : vs.size = 1 then vs[0] else .tuple vs)) := rfl
theorem resV_run {a : Act} (hv : Hv c st.σ μ w) (he : ∀ t v, lk st.env t = some v → RelV c st.σ μ w v (a.tmps.getD t undef)) {x : ResultVar} {v : AV} (h : resV st x = some v) :
    ∃ u, (resF a.tmps x).run Tryz.prog w = .ok u w ∧ RelV c st.σ μ w v u := by
  cases x with
  | tmp t => exact ⟨_, rfl, he t v h⟩
  | cell p ty =>
    unfold resV at h
    simp only at h
    split at h
    · rename_i id hp
      split at h
      · rename_i t' cs hb
        split at h
        · rename_i i hi
          obtain ⟨g, h1, h2⟩ := he p _ hp
          obtain ⟨g', us, h3, h4, h5, h6⟩ := hv.box id t' cs hb
          rw [h1] at h3
          cases h3
          obtain ⟨u, h7, h8⟩ := load_run (tyT_ok hi) h6 h (blk_range h5)
          refine ⟨u, ?_, h8⟩
          simp only [Nat.zero_add, Instr.loadAt, Instr.sureAddr, Sem.run_bind, Sem.run_pure, Result.andThen_ok] at h7
          simp only [resF, h2, asAddr, Sem.run_bind, Sem.run_pure, Result.andThen_ok]
          exact h7
        · cases h
      · cases h
    · cases h
theorem resL_run {a : Act} (hv : Hv c st.σ μ w) (he : ∀ t v, lk st.env t = some v → RelV c st.σ μ w v (a.tmps.getD t undef)) (ht : Tr c st.σ μ c2 σ2 μ2 w) : ∀ {xs : List ResultVar} {vs ws : List AV}, resL st xs = some vs → okT st.σ vs ws →
    ∃ us, (xs.mapM (resF a.tmps)).run Tryz.prog w = .ok us w ∧ RelT c2 σ2 μ2 w ws us
  | [], vs, ws, h, k => by
    cases h
    cases ws with
    | nil => exact ⟨[], by simp, rfl⟩
    | cons _ _ => exact k.elim
  | x :: xs, vs, ws, h, k => by
    unfold resL at h
    cases hx : resV st x with
    | none => rw [hx] at h; cases h
    | some v =>
      rw [hx] at h
      simp only at h
      obtain ⟨vs', h1, rfl⟩ := Option.map_eq_some_iff.1 h
      cases ws with
      | nil => exact k.elim
      | cons y ys =>
        obtain ⟨u, q1, q2⟩ := resV_run hv he hx
        obtain ⟨us, q3, q4⟩ := resL_run hv he ht h1 k.2
        exact ⟨u :: us, by rw [List.mapM_cons]; simp only [Sem.run_bind, q1, Result.andThen_ok, q3, Sem.run_pure], _, _, rfl, okA_rel hv ht k.1 q2, q4⟩
def AC.cl : AC → Bool | .v _ => true | .fz _ _ => true | .top => true | _ => false
def AV.cl : AV → Bool | .c x => x.cl | .g xs => xs.all AC.cl | .p _ => false
theorem cl_rel {x : AC} (hx : x.cl = true) (ht : ∀ b, b < w.heap.size → Bok c σ μ b → Bok c2 σ2 μ2 b) {u : Value} (h : RelC c σ μ w x u) : RelC c2 σ2 μ2 w x u := by
  cases x <;> first | cases hx | skip
  · exact h
  · obtain ⟨A, q, e1, e2, e3⟩ := h
    exact ⟨A, q, e1, e2, Kd.F_mono (Kd.F_bound e3) (fun b hb => ht b hb.2 hb.1)⟩
  · trivial
theorem clL_rel (ht : ∀ b, b < w.heap.size → Bok c σ μ b → Bok c2 σ2 μ2 b) : ∀ {xs : List AC} {us : List Value}, xs.all AC.cl = true → RelL c σ μ w xs us → RelL c2 σ2 μ2 w xs us
  | [], _, _, h => h
  | x :: xs, _, hx, ⟨u, us', e, h1, h2⟩ => by
    rw [List.all_cons, Bool.and_eq_true] at hx
    exact ⟨u, us', e, cl_rel hx.1 ht h1, clL_rel ht hx.2 h2⟩
theorem clT_rel (ht : ∀ b, b < w.heap.size → Bok c σ μ b → Bok c2 σ2 μ2 b) : ∀ {xs : List AV} {us : List Value}, xs.all AV.cl = true → RelT c σ μ w xs us → RelT c2 σ2 μ2 w xs us
  | [], _, _, h => h
  | x :: xs, _, hx, ⟨u, us', e, h1, h2⟩ => by
    rw [List.all_cons, Bool.and_eq_true] at hx
    refine ⟨u, us', e, ?_, clT_rel ht hx.2 h2⟩
    cases x with
    | c x => exact cl_rel hx.1 ht h1
    | g xs => obtain ⟨us, e, h3⟩ := h1; exact ⟨us, e, clL_rel ht hx.1 h3⟩
    | p xs => exact h1.elim
theorem argE_rel {a : Act} : ∀ {xs : List AV} {us : List Value} (i : Nat), RelT c σ μ w xs us → (∀ j u, us[j]? = some u → a.tmps.getD (i + j) undef = u) → ∀ t v, lk (argE i xs) t = some v → RelV c σ μ w v (a.tmps.getD t undef)
  | [], _, _, _, _, t, v, h => by cases h
  | x :: xs, _, i, ⟨u, us', e, h1, h2⟩, hg, t, v, h => by
    subst e
    unfold argE at h
    rw [lk_cons] at h
    by_cases e : i = t
    · rw [if_pos e] at h
      cases h
      have := hg 0 u rfl
      rw [Nat.add_zero, e] at this
      rw [this]
      exact h1.v
    · rw [if_neg e] at h
      exact argE_rel (i + 1) h2 (fun j u hj => by rw [Nat.add_right_comm, Nat.add_assoc]; exact hg (j + 1) u (by simpa using hj)) t v h
theorem relT_len : ∀ {xs : List AV} {us : List Value}, RelT c σ μ w xs us → us.length = xs.length
  | [], _, h => by rw [show _ = [] from h]; rfl
  | x :: xs, _, ⟨u, us', e, _, h⟩ => by rw [e, List.length_cons, List.length_cons, relT_len h]
theorem snd_of {f : Nat} {fn : Func} {code : Code} (hf : Tryz.prog.funcs[f]? = some fn) (hb : fn.body = some code) (hn : fn.ntmps = n) (args : List AV) (r : AV) (hcl : args.all AV.cl = true) (hlen : args.length ≤ n)
    (h : ∀ c, aW Tryz.prog c n code (fun e st => (e = .ret ∨ e = .normal) ∧ resOK fn st r) ⟨argE 0 args, []⟩) : Snd f args r := by
  intro c σ μ w us hv hr
  refine calls_of_wp hf hb ?_
  have hul := relT_len hr
  obtain ⟨c2, hc2⟩ : ∃ c2 : Cx, c2 = ⟨w, fun b => Bok c σ μ b ∨ w.heap.size ≤ b, none, w⟩ := ⟨_, rfl⟩
  have hv2 : Hv c2 [] μ w := by
    subst hc2
    exact ⟨⟨rfl, rfl, rfl, Nat.le_refl _, fun _ _ _ => rfl⟩, fun b hb => .inr hb, fun _ _ _ h => (by cases h), fun _ _ _ h => (by cases h), fun _ _ _ _ _ h => (by cases h), fun _ _ _ h => (by cases h), fun _ h => (by cases h)⟩
  have hr2 : RelT c2 [] μ w args us := clT_rel (fun b _ hb => by subst hc2; exact ⟨.inl hb, fun _ _ h => (by cases h)⟩) hcl hr
  refine wp_mono (h c2 _ w ⟨μ, hv2, rfl, by simp [hn, hul]; omega, argE_rel 0 hr2 (fun j u hj => ?_)⟩) ?_
  · have hlt := (List.getElem?_eq_some_iff.1 hj).1
    rw [Nat.zero_add, Array.getD_eq_getD_getElem?, Array.getElem?_append_left (by simpa using hlt)]
    simp [hj]
  · rintro e a' w' ⟨st', ⟨hex, vs, ws, h1, h2, h3⟩, μ', hv', hd', hn', he'⟩
    have hbel : Below w.heap.size w w' := by
      have := hv'.fr
      subst hc2
      exact ⟨this.os, this.tape, this.output, this.size, fun b hb => this.block b hb (by simp)⟩
    have htr : Tr c2 st'.σ μ' c σ μ w' := by
      intro b hb ho
      have hfresh : w.heap.size ≤ b → Bok c σ μ b := fun hge => ⟨hv.ok b (Nat.le_trans hv.fr.size hge), fun id e he hbk => by have := (hv.lt he hbk).1; omega⟩
      rcases ho with ho | ⟨id, k, xs, q1, q2⟩
      · have := ho.1
        subst hc2
        exact this.elim id hfresh
      · obtain ⟨cs, q3, _⟩ := hv'.row id k xs q1
        have q4 := own_base q3 b q2
        subst hc2
        exact hfresh q4
    obtain ⟨vals, r1, r2⟩ := resL_run hv' he' htr h1 h2
    have hres : (results fn a'.tmps).run Tryz.prog w' = .ok (if h : vals.length = 1 then vals[0]'(by omega) else .tuple vals.toArray) w' := by
      rw [results_eq, ← Array.toArray_toList (xs := fn.results), List.mapM_toArray]
      simp only [Sem.run_bind, Sem.run_map, r1, Result.andThen_ok, Sem.run_pure]
      simp
    have hR : ∃ u, Ending.returned (if h : vals.length = 1 then vals[0]'(by omega) else .tuple vals.toArray) = .returned u ∧ RelV c σ μ w' r u ∧ Below w.heap.size w w' := by
      refine ⟨_, rfl, ?_, hbel⟩
      have r3 := relT_len r2
      subst h3
      cases ws with
      | nil =>
        rw [dif_neg (by rw [r3]; decide)]
        exact ⟨vals, rfl, r2⟩
      | cons x ws =>
        cases ws with
        | nil =>
          obtain ⟨u, us', rfl, q1, q2⟩ := r2
          rw [show us' = [] from q2]
          exact q1.v
        | cons y ws =>
          rw [dif_neg (by rw [r3]; simp)]
          exact ⟨vals, rfl, r2⟩
    rcases hex with rfl | rfl
    · exact ⟨hd', _, hres, hR⟩
    · exact ⟨hd', _, hres, hR⟩
end
section
variable {c : Cx} {n : Nat} {ops : Array Oper} {Q : Exit → St → Prop} {N : St → Prop} {st : St} {rest : List Oper}
theorem tA_n (h : N st) : thenA N Q .normal st := h
theorem tA_x {id : Nat} (h : Q (.exit id) st) : thenA N Q (.exit id) st := h
theorem tA_r (h : Q .ret st) : thenA N Q .ret st := h
theorem bA_n {id : Nat} (h : Q .normal st) : blockA id Q .normal st := h
theorem bA_r {id : Nat} (h : Q .ret st) : blockA id Q .ret st := h
theorem bA_e {id : Nat} (h : Q .normal st) : blockA id Q (.exit id) st := by show (if id = id then _ else _); rw [if_pos rfl]; exact h
theorem bA_x {id j : Nat} (e : Nat.beq j id = false) (h : Q (.exit j) st) : blockA id Q (.exit j) st := by
  show (if j = id then _ else _)
  rw [if_neg (fun h => by subst h; simp at e)]; exact h
theorem ltb {d n : Nat} (h : Nat.ble (d + 1) n = true) : d < n := Nat.le_of_ble_eq_true h
variable {d ty : Nat} {p : String} {af : Array Edge} {x y z : Operand}
theorem M_move {v : AV} (hd : Nat.ble (d + 1) n = true) (hv : aEv st x = some v) (h : aL Tryz.prog c n ops rest Q (st.set d v)) : aL Tryz.prog c n ops (⟨some d, .move x, ty, p, af, none⟩ :: rest) Q st :=
  aL_move d x v rfl rfl (.inl rfl) (ltb hd) hv h
theorem M_assign {v : AV} (hd : Nat.ble (d + 1) n = true) (hv : aEv st x = some v) (h : aL Tryz.prog c n ops rest Q (st.set d v)) : aL Tryz.prog c n ops (⟨some d, .assign x, ty, p, af, none⟩ :: rest) Q st :=
  aL_assign d x v rfl rfl (.inl rfl) (ltb hd) hv h
theorem M_pick {b : Bool} {v : AV} (hd : Nat.ble (d + 1) n = true) (hx : aEv st x = some (.c (.v (.bool b)))) (hv : (if b = true then aEv st y else aEv st z) = some v) (h : aL Tryz.prog c n ops rest Q (st.set d v)) : aL Tryz.prog c n ops (⟨some d, .pick x y z, ty, p, af, none⟩ :: rest) Q st :=
  aL_pick d x y z b v rfl rfl (.inl rfl) (ltb hd) hx hv h
theorem M_bin {op : BinOp} {t t2 : TypeId} {vx vy : Int} {r : Value} (hd : Nat.ble (d + 1) n = true) (hx : aEv st x = some (.c (.v (.int .i64 vx)))) (hy : aEv st y = some (.c (.v (.int .i64 vy)))) (hr : aBin op vx vy = some r) (h : aL Tryz.prog c n ops rest Q (st.set d (.c (.v r)))) : aL Tryz.prog c n ops (⟨some d, .binOp op t x y t2, ty, p, af, none⟩ :: rest) Q st :=
  aL_bin d op t t2 x y vx vy r rfl rfl (.inl rfl) (ltb hd) hx hy hr h
theorem M_not {t : TypeId} {b : Bool} (hd : Nat.ble (d + 1) n = true) (hx : aEv st x = some (.c (.v (.bool b)))) (h : aL Tryz.prog c n ops rest Q (st.set d (.c (.v (.bool !b))))) : aL Tryz.prog c n ops (⟨some d, .unOp .not t x, ty, p, af, none⟩ :: rest) Q st :=
  aL_not d t x b rfl rfl (.inl rfl) (ltb hd) hx h
theorem M_extract {i : Nat} {xs : List AV} {v : AV} (hd : Nat.ble (d + 1) n = true) (hx : aEv st x = some (.p xs)) (hv : xs[i]? = some v) (h : aL Tryz.prog c n ops rest Q (st.set d v)) : aL Tryz.prog c n ops (⟨some d, .extract x i, ty, p, af, none⟩ :: rest) Q st :=
  aL_extract d x i xs v rfl rfl (.inl rfl) (ltb hd) hx hv h
theorem M_field {s : TypeId} {f id off fo : Nat} (hd : Nat.ble (d + 1) n = true) (hx : aEv st x = some (.c (.ptr id off))) (hf : foT s f = some fo) (h : aL Tryz.prog c n ops rest Q (st.set d (.c (.ptr id (off + fo))))) : aL Tryz.prog c n ops (⟨some d, .fieldAddr s x f, ty, p, af, none⟩ :: rest) Q st :=
  aL_fieldAddr d s x f id off fo rfl rfl (.inl rfl) (ltb hd) hx hf h
theorem M_fieldE {s : TypeId} {f : Nat} {k : Ki} {u : k.T} {off fo : Nat} (hd : Nat.ble (d + 1) n = true) (hx : aEv st x = some (.c (.el k u off))) (hf : foT s f = some fo) (h : aL Tryz.prog c n ops rest Q (st.set d (.c (.el k u (off + fo))))) : aL Tryz.prog c n ops (⟨some d, .fieldAddr s x f, ty, p, af, none⟩ :: rest) Q st :=
  aL_fieldAddrE d s x f k u off fo rfl rfl (.inl rfl) (ltb hd) hx hf h
theorem M_load {t : TypeId} {id off tb : Nat} {cs : List AC} {i : TI} {v : AV} (hd : Nat.ble (d + 1) n = true) (hx : aEv st x = some (.c (.ptr id off))) (hb : lk st.σ id = some (.box tb cs)) (hi : tyT t = some i) (hv : rdA i cs off = some v) (h : aL Tryz.prog c n ops rest Q (st.set d v)) : aL Tryz.prog c n ops (⟨some d, .load t x, ty, p, af, none⟩ :: rest) Q st :=
  aL_load d t x id off tb cs i v rfl rfl (.inl rfl) (ltb hd) hx hb hi hv h
theorem M_loadE {t : TypeId} {k : Ki} {u : k.T} {off : Nat} {i : TI} {v : AV} (hd : Nat.ble (d + 1) n = true) (hx : aEv st x = some (.c (.el k u off))) (hi : tyT t = some i) (hv : rdA i (k.cells u) off = some v) (h : aL Tryz.prog c n ops rest Q (st.set d v)) : aL Tryz.prog c n ops (⟨some d, .load t x, ty, p, af, none⟩ :: rest) Q st :=
  aL_loadE d t x k u off i v rfl rfl (.inl rfl) (ltb hd) hx hi hv h
theorem M_store {t : TypeId} {id off tb : Nat} {cs ys : List AC} {i : TI} {v : AV} (hp : aEv st x = some (.c (.ptr id off))) (hb : lk st.σ id = some (.box tb cs)) (hx : aEv st y = some v) (hfl : v.flat = some ys) (hi : tyT t = some i) (hsz : Nat.beq ys.length i.size = true) (hfit : Nat.ble (off + i.size) cs.length = true) (hok : ys.all (AC.ok1 st.σ) = true) (h : aL Tryz.prog c n ops rest Q ⟨st.env, (id, .box tb (cs.take off ++ ys ++ cs.drop (off + ys.length))) :: st.σ⟩) : aL Tryz.prog c n ops (⟨none, .store t x y, ty, p, af, none⟩ :: rest) Q st :=
  aL_store t x y id off tb cs ys i v rfl rfl (.inl rfl) hp hb hx hfl hi (Nat.eq_of_beq_eq_true hsz) (Nat.le_of_ble_eq_true hfit) hok h
theorem M_box {t : Nat} {v : AV} {xs : List AC} (hd : Nat.ble (d + 1) n = true) (hf : st.fr d = true) (hx : aEv st x = some v) (hfl : v.flat = some xs) (hok : (xs.all (AC.ok1 st.σ) && xs.all (fun x => !x.men d)) = true) (h : aL Tryz.prog c n ops rest Q ⟨(d, .c (.ptr d 0)) :: st.env, (d, .box t xs) :: st.σ⟩) : aL Tryz.prog c n ops (⟨some d, .box t x, ty, p, af, none⟩ :: rest) Q st :=
  aL_box d t x v xs rfl rfl (.inl rfl) (ltb hd) hf hx hfl (Bool.and_eq_true_iff.1 hok).1 (Bool.and_eq_true_iff.1 hok).2 h
theorem M_alloc {t : Nat} {i : TI} (hd : Nat.ble (d + 1) n = true) (hf : st.fr d = true) (hi : tyT t = some i) (h : aL Tryz.prog c n ops rest Q ⟨(d, .c (.ptr d 0)) :: st.env, (d, .box t (i.zero.cells.toList.map AC.v)) :: st.σ⟩) : aL Tryz.prog c n ops (⟨some d, .alloc t, ty, p, af, none⟩ :: rest) Q st :=
  aL_alloc d t i rfl rfl (.inl rfl) (ltb hd) hf hi h
abbrev kiT : Nat → Option Ki | 22 => some .i | 88 => some .t | 23 => some .m | 112 => some .s | _ => none
theorem kiT_ok {t : Nat} {k : Ki} (h : kiT t = some k) : t = k.sl := by
  unfold kiT at h
  split at h <;> cases h <;> rfl
theorem M_len {t : Nat} {k : Ki} {xs : List k.T} (hd : Nat.ble (d + 1) n = true) (hk : kiT t = some k) (hx : aEv st x = some (.c (.fz k xs))) (h : aL Tryz.prog c n ops rest Q (st.set d (.c (.v (.int .i64 (xs.length : Int)))))) : aL Tryz.prog c n ops (⟨some d, .call ⟨.builtin .len, #[x], #[t]⟩, ty, p, af, none⟩ :: rest) Q st := by
  obtain rfl := kiT_ok hk
  exact aL_len d k x xs rfl rfl (.inl rfl) (ltb hd) hx h
theorem M_lenO {t : Nat} {k : Ki} {id : Nat} {xs : List k.T} (hd : Nat.ble (d + 1) n = true) (hk : kiT t = some k) (hx : aEv st x = some (.c (.own id))) (hr : lk st.σ id = some (.row k xs)) (h : aL Tryz.prog c n ops rest Q (st.set d (.c (.v (.int .i64 (xs.length : Int)))))) : aL Tryz.prog c n ops (⟨some d, .call ⟨.builtin .len, #[x], #[t]⟩, ty, p, af, none⟩ :: rest) Q st := by
  obtain rfl := kiT_ok hk
  exact aL_lenO d k x id xs rfl rfl (.inl rfl) (ltb hd) hx hr h
theorem M_index {t : Nat} {k : Ki} {xs : List k.T} {i : Int} {u : k.T} (hd : Nat.ble (d + 1) n = true) (hk : kiT t = some k) (hx : aEv st x = some (.c (.fz k xs))) (hy : aEv st y = some (.c (.v (.int .i64 i)))) (h0 : 0 ≤ i) (hu : xs[i.toNat]? = some u) (h : aL Tryz.prog c n ops rest Q (st.set d (.c (.el k u 0)))) : aL Tryz.prog c n ops (⟨some d, .indexAddr t x y, ty, p, af, none⟩ :: rest) Q st := by
  obtain rfl := kiT_ok hk
  exact aL_index d k x y xs i u rfl rfl (.inl rfl) (ltb hd) hx hy h0 hu h
theorem M_lit1 {t : Nat} {k : Ki} {u : k.T} (hd : Nat.ble (d + 1) n = true) (hk : kiT t = some k) (hl : litA st k [x] = some [u]) (hf : st.fr d = true) (h : aL Tryz.prog c n ops rest Q ⟨(d, .c (.own d)) :: st.env, (d, .row k [u]) :: st.σ⟩) : aL Tryz.prog c n ops (⟨some d, .buildSlice t 1 #[(0, x)], ty, p, af, none⟩ :: rest) Q st := by
  obtain rfl := kiT_ok hk
  exact aL_lit d k 1 _ [x] [u] rfl rfl (.inl rfl) (ltb hd) rfl rfl (by decide) (by decide) hl hf h
theorem M_append {t : Nat} {k : Ki} {id : Nat} {xs ys : List k.T} {v : AV} (hd : Nat.ble (d + 1) n = true) (hk : kiT t = some k) (hs : aEv st x = some (.c (.own id))) (hr : lk st.σ id = some (.row k xs)) (hx : aEv st y = some v) (hsrc : v = .c (.fz k ys) ∨ ∃ id2, v = .c (.own id2) ∧ lk st.σ id2 = some (.row k ys)) (hl : xs.length + ys.length ≤ 1000000000000)
    (h : aL Tryz.prog c n ops rest Q ⟨(d, .c (.own id)) :: (st.kil id).env, (id, .row k (xs ++ ys)) :: (st.kil id).σ⟩) : aL Tryz.prog c n ops (⟨some d, .call ⟨.builtin .append, #[x, y], #[t, t]⟩, ty, p, af, none⟩ :: rest) Q st := by
  obtain rfl := kiT_ok hk
  exact aL_append d k x y id xs ys v rfl rfl (.inl rfl) (ltb hd) hs hr hx hsrc hl h
theorem M_want {D : Option Nat} {op : Op} {j : Nat} {b : Bool} {e : Nat} (h1 : (ops[j]?).bind (·.dst) = some e) (h2 : Nat.ble (e + 1) n = true) (h3 : lk st.env e = some (.c (.v (.bool b)))) (h : aL Tryz.prog c n ops (⟨D, op, ty, p, af, none⟩ :: rest) Q st) : aL Tryz.prog c n ops (⟨D, op, ty, p, af, some (j, b)⟩ :: rest) Q st := fun a w hi => by
  have hw := (Wn.want (c := c) (w := w) (a := a) (o := ⟨D, op, ty, p, af, some (j, b)⟩) (n := n) (st := st) (ops := ops) (.inr ⟨j, b, e, rfl, h1, ltb h2, h3⟩) hi)
  have h4 := h a w hi
  unfold wpList at h4 ⊢
  rw [if_pos (by rfl)] at h4
  rw [if_pos hw]
  exact h4
theorem M_skip {op : Op} {j : Nat} {b : Bool} {e : Nat} (h1 : (ops[j]?).bind (·.dst) = some e) (h2 : Nat.ble (e + 1) n = true) (h3 : lk st.env e = some (.c (.v (.bool !b)))) (hd : Nat.ble (d + 1) n = true) (h : aL Tryz.prog c n ops rest Q (st.set d (.c .top))) : aL Tryz.prog c n ops (⟨some d, op, ty, p, af, some (j, b)⟩ :: rest) Q st :=
  aL_skip d rfl ⟨j, b, e, rfl, h1, ltb h2, h3⟩ (ltb hd) h
theorem W_cond {t : Nat} {u v : Code} {b : Bool} (hb : lk st.env t = some (.c (.v (.bool b)))) (h1 : b = true → aW Tryz.prog c n u Q st) (h2 : b = false → aW Tryz.prog c n v Q st) : aW Tryz.prog c n (.cond (.tmp t) u v) Q st := aW_cond hb h1 h2
theorem W_cond_d {t : Nat} {u v : Code} {q : Prop} [Decidable q] (hb : lk st.env t = some (.c (.v (.bool (decide q))))) (h1 : q → aW Tryz.prog c n u Q st) (h2 : ¬ q → aW Tryz.prog c n v Q st) : aW Tryz.prog c n (.cond (.tmp t) u v) Q st := aW_cond hb (fun h => h1 (of_decide_eq_true h)) (fun h => h2 (of_decide_eq_false h))
theorem W_false {t : Nat} {u v : Code} (hb : lk st.env t = some (.c (.v (.bool false)))) (h2 : aW Tryz.prog c n v Q st) : aW Tryz.prog c n (.cond (.tmp t) u v) Q st := aW_cond hb (fun h => by cases h) (fun _ => h2)
theorem res1 {fn : Func} {x : ResultVar} {v r : AV} (hf : fn.results.toList = [x]) (hx : resV st x = some v) (hr : okA st.σ v r) : resOK fn st r := ⟨[v], [r], by rw [hf]; simp [resL, hx], ⟨hr, trivial⟩, rfl⟩
theorem Le_of {st' : St} (he : ∀ q ∈ st'.env, lk st.env q.1 = some q.2) (hs : ∀ q ∈ st'.σ, lk st.σ q.1 = some q.2) : Le c n st st' := fun a w hi => by
  obtain ⟨μ, hv, hd, hn, hev⟩ := hi
  have hs' : ∀ id e, lk st'.σ id = some e → lk st.σ id = some e := fun id e h => hs _ (lk_mem h)
  have hmv : Mv c st.σ st'.σ μ μ w w := mv_same fun id h => by
    cases h2 : lk st'.σ id with
    | none => rw [h2] at h; cases h
    | some e => rw [hs' id e h2]; rfl
  refine ⟨μ, ⟨hv.fr, hv.ok, fun j ty cs hj => ?_, fun j k xs hj => ?_, fun i j e e' b hi hj => hv.dis i j e e' b (hs' _ _ hi) (hs' _ _ hj), fun j s pos hj => hv.tap j s pos (hs' _ _ hj), hv.rt⟩, hd, hn, fun t v ht => (hev t v (he _ (lk_mem ht))).mv hmv (fun _ _ => rfl)⟩
  · obtain ⟨g, us, q1, q2, q3, q4⟩ := hv.box j ty cs (hs' _ _ hj)
    exact ⟨g, us, q1, q2, q3, q4.mv hmv (fun _ _ _ _ => rfl)⟩
  · obtain ⟨cs, q1, q2⟩ := hv.row j k xs (hs' _ _ hj)
    exact ⟨cs, q1, q2.mv hmv (fun _ _ _ _ => rfl)⟩
end
def depB (ops : Array Oper) : Nat → Nat → Nat → Bool
  | 0, _, _ => false
  | k + 1, i, j => match ops[i]? with
    | some o => o.after.toList.any fun e => Region.binds .any e && (Nat.beq e.on j || depB ops k e.on j)
    | none => false
abbrev dstN (ops : Array Oper) (i : Nat) : Option Nat := (ops[i]?).bind (·.dst)
def Closed1 (ops : Array Oper) (L : Array Bool) : Prop := ∀ i o, ops[i]? = some o → L.getD i false = true → ∀ e ∈ o.after.toList, Region.binds .any e = true → L.getD e.on false = true
theorem Closed1.dep {ops : Array Oper} {L : Array Bool} (h : Closed1 ops L) : ∀ (k i j : Nat), L.getD i false = true → depB ops k i j = true → L.getD j false = true
  | 0, _, _, _, h2 => by cases h2
  | k + 1, i, j, h1, h2 => by
    unfold depB at h2
    cases ho : ops[i]? with
    | none => rw [ho] at h2; cases h2
    | some o =>
      rw [ho] at h2
      obtain ⟨e, he, h3⟩ := List.any_eq_true.1 h2
      rw [Bool.and_eq_true, Bool.or_eq_true] at h3
      have h4 := h i o ho h1 e he h3.1
      rcases h3.2 with h5 | h5
      · rw [← Nat.eq_of_beq_eq_true h5]; exact h4
      · exact h.dep k e.on j h4 h5
section
variable {P : Program} {c : Cx} {n : Nat} {ops : Array Oper} {Q : Exit → St → Prop} {st : St}
theorem wp_both {o : Oper} {a : Act} {w : World} {K K' : Act → World → Prop} {Q Q' : Exit → Act → World → Prop} (h : ∀ a w, K a w → K' a w) (hq : ∀ e a w, e ≠ .normal → Q e a w → Q' e a w) (hh : o.wp P a w K Q) : o.wp P a w K' Q' := by
  unfold Oper.wp at *
  generalize (execOp a.eval o).run P w = r at *
  have hout : LetsOut Q → LetsOut Q' := fun ⟨a, w, h⟩ => ⟨a, w, hq _ _ _ (by simp) h⟩
  cases r with
  | ok n w' =>
    cases n <;> simp only [Oper.upon] at hh ⊢ <;>
      first
        | exact h _ _ hh
        | exact Calls.mono hh (fun e w'' he => by cases e <;> first | exact h _ _ he | exact hq _ _ _ (by simp) he | exact hout he)
        | exact Rows.mono hh (fun _ _ he => h _ _ he)
  | halt x w' => cases x <;> simp only [Oper.upon] at hh ⊢ <;> first | exact hq _ _ _ (by simp) hh | exact hh
def Stp (P : Program) (c : Cx) (n : Nat) (ops : Array Oper) (o : Oper) (S S' : St) : Prop := aL P c n ops [o] (fun e T => e = .normal ∧ Le c n T S') S
theorem Stp.op {o : Oper} {S S' : St} (h : Stp P c n ops o S S') {i : Nat} (hi : ops[i]? = some o) {a : Act} {w : World} (hin : Inv c n S a w) {K : Act → World → Prop} {Q : Exit → Act → World → Prop} (hK : ∀ a w, Inv c n S' a w → K a w) : wpOp P ops Q i K a w := by
  have h1 := h a w hin
  unfold wpOp
  rw [hi]
  simp only
  unfold wpList at h1
  by_cases hw : Region.wanted o (yielded ops a.tmps) = true
  · rw [if_pos hw] at h1 ⊢
    rcases h1 with h1 | ⟨_, h1⟩
    · refine .inl (wp_both (fun a w hq => ?_) (fun e a w hne hq => ?_) h1)
      · obtain ⟨T, ⟨_, hle⟩, hT⟩ := hq
        exact hK a w (hle a w hT)
      · obtain ⟨T, ⟨rfl, hle⟩, hT⟩ := hq
        exact absurd rfl hne
    · obtain ⟨a, w, T, ⟨h2, _⟩, _⟩ := h1
      cases h2
  · rw [if_neg hw] at h1 ⊢
    obtain ⟨T, ⟨_, hle⟩, hT⟩ := h1
    exact hK _ _ (hle _ _ hT)
structure Mid (ops : Array Oper) (m : Nat) (v : Nat → AV) (st S : St) (L : Nat → Bool) : Prop where
  done : ∀ j d, j < m → L j = true → dstN ops j = some d → lk S.env d = some (v j)
  else_ : ∀ t, (∀ j, j < m → L j = true → dstN ops j ≠ some t) → lk S.env t = lk st.env t
  heap : S.σ = st.σ
end
section
variable {c : Cx} {n : Nat} {ops : Array Oper} {Q : Exit → St → Prop} {st st' : St} {rest : List Oper} {o : Oper} {σ σ' : List (Nat × Ent)} {μ : Nat → Value} {w w' : World}
theorem a_ownB (p id2 id j ty : Nat) (k : Ki) (cs : List AC) (hb : lk st.σ id2 = some (.box ty cs)) (hj : cs[j]? = some (.v (.slice none 0 0))) (hf : st.fr id = true) (hne : Nat.beq id2 id = false) : Le c n st ⟨st.env, (id2, .box ty (cs.set j (.own id))) :: (id, .row k []) :: st.σ⟩ := fun a w hi => by
  obtain ⟨μ, hv, hd, hn, he⟩ := hi
  have hne' : id2 ≠ id := fun e => by subst e; simp at hne
  obtain ⟨hh, hmv⟩ := hv.put (w' := w) id (.row k []) (.slice none 0 0) rfl rfl rfl (Nat.le_refl _) (fun _ _ _ => rfl) (fun b hb => by cases hb) (.inr fun j e hj hne => St.fr_σ hf hj hne) (fun hmv => ⟨[], own_nil _ _ _ _, rfl⟩)
  have hb' : lk ((id, Ent.row k []) :: st.σ) id2 = some (.box ty cs) := by rw [lk_cons, if_neg (fun e => hne' e.symm)]; exact hb
  have hmv2 : Mv c ((id, Ent.row k []) :: st.σ) ((id2, .box ty (cs.set j (.own id))) :: (id, .row k []) :: st.σ) (upd μ id (.slice none 0 0)) (upd μ id (.slice none 0 0)) w w := mv_same fun i hi => by
    rw [lk_cons] at hi
    split at hi
    · rename_i e; subst e; rw [hb']; rfl
    · exact hi
  have hsome : ∀ i e, lk ((id2, Ent.box ty (cs.set j (.own id))) :: (id, .row k []) :: st.σ) i = some e → i ≠ id2 → lk ((id, Ent.row k []) :: st.σ) i = some e := fun i e hi hne => by
    rw [lk_cons, if_neg (fun e => hne e.symm)] at hi; exact hi
  have hany : ∀ i e, lk ((id2, Ent.box ty (cs.set j (.own id))) :: (id, .row k []) :: st.σ) i = some e → ∃ e', lk ((id, Ent.row k []) :: st.σ) i = some e' := fun i e hi => by
    by_cases hq : i = id2
    · subst hq; exact ⟨_, hb'⟩
    · exact ⟨e, hsome i e hi hq⟩
  refine ⟨_, ⟨hh.fr, hh.ok, fun i ty' cs' hi => ?_, fun i k' ys hi => ?_, fun i j e e' b hi hj => ?_, fun i s pos hi => ?_, hh.rt⟩, hd, hn, fun t v ht => (env_put he hf hmv t v ht).mv hmv2 (fun _ _ => rfl)⟩
  · by_cases hq : i = id2
    · subst hq
      rw [lk_cons, if_pos rfl] at hi
      cases hi
      obtain ⟨g, us, q1, q2, q3, q4⟩ := hh.box i ty cs hb'
      refine ⟨g, us, q1, q2, q3, ?_⟩
      have q5 := q4.mv hmv2 (fun _ _ _ _ => rfl)
      obtain ⟨u, r1, r2⟩ := q5.get hj
      have q6 := q5.set j (x := .own id) (u := u) (by
        rw [show u = Value.slice none 0 0 from r2]
        show _ = (if id = id then Value.slice none 0 0 else μ id)
        rw [if_pos rfl])
      have e6 : us.set j u = us := by
        apply List.ext_getElem?
        intro i
        rw [List.getElem?_set]
        split
        · rename_i e; subst e; rw [if_pos (List.getElem?_eq_some_iff.1 r1).1]; exact r1.symm
        · rfl
      rw [e6] at q6
      exact q6
    · obtain ⟨g, us, q1, q2, q3, q4⟩ := hh.box i ty' cs' (hsome i _ hi hq)
      exact ⟨g, us, q1, q2, q3, q4.mv hmv2 (fun _ _ _ _ => rfl)⟩
  · have hq : i ≠ id2 := fun e => by subst e; rw [lk_cons, if_pos rfl] at hi; cases hi
    obtain ⟨cs, q1, q2⟩ := hh.row i k' ys (hsome i _ hi hq)
    exact ⟨cs, q1, q2.mv hmv2 (fun _ _ _ _ => rfl)⟩
  · obtain ⟨e1, h1⟩ := hany i e hi
    obtain ⟨e2, h2⟩ := hany j e' hj
    exact hh.dis i j e1 e2 b h1 h2
  · have hq : i ≠ id2 := fun e => by subst e; rw [lk_cons, if_pos rfl] at hi; cases hi
    exact hh.tap i s pos (hsome i _ hi hq)
theorem aL_indexO (d : Nat) (k : Ki) (x y : Operand) (id : Nat) (xs : List k.T) (i : Int) (ho : o.op = .indexAddr k.sl x y) (hd : o.dst = some d) (hg : Wn n st ops o) (hdn : d < n) (hx : aEv st x = some (.c (.own id))) (hr : lk st.σ id = some (.row k xs)) (hy : aEv st y = some (.c (.v (.int .i64 i)))) (h0 : 0 ≤ i) (h1 : i < xs.length)
    (h : aL Tryz.prog c n ops rest Q (st.set d (.c (.elo id k.d.sz i.toNat 0)))) : aL Tryz.prog c n ops (o :: rest) Q st :=
  aL_val d (.c (.elo id k.d.sz i.toNat 0)) hd hg hdn (fun μ a w hh he => by
    have e1 : a.eval x = μ id := aEv_rel he hx
    have e2 : a.eval y = .int .i64 i := aEv_rel he hy
    obtain ⟨cs, o1, o2⟩ := hh.row id k xs hr
    rcases o1.2 with ⟨_, hn0⟩ | ⟨g, cap, cur, e, _⟩
    · omega
    · have hir := index_run k ⟨g, 0, none⟩ xs.length cap i h0 h1 w
      rw [add_spot (.inl rfl), Nat.zero_add] at hir
      exact ⟨.pointer (some ⟨g, i.toNat * k.d.sz, none⟩), by simp only [execOp, ho, e1, e2, e, Sem.run_bind, hir, Result.andThen_ok, Sem.run_pure], g, _, _, e, rfl⟩) h
theorem aL_fieldO (d : Nat) (s : TypeId) (x : Operand) (f id sz i off fo : Nat) (ho : o.op = .fieldAddr s x f) (hd : o.dst = some d) (hg : Wn n st ops o) (hdn : d < n) (hx : aEv st x = some (.c (.elo id sz i off)))
    (hf' : foT s f = some fo)
    (h : aL Tryz.prog c n ops rest Q (st.set d (.c (.elo id sz i (off + fo))))) : aL Tryz.prog c n ops (o :: rest) Q st :=
  aL_val d (.c (.elo id sz i (off + fo))) hd hg hdn (fun μ a w _ he => by
    obtain ⟨g, m, q, h1, h2⟩ := aEv_rel he hx
    have hf := @foT_ok _ _ _ hf'
    exact ⟨.pointer (some ⟨g, i * sz + off + fo, none⟩), by simp only [execOp, ho, h2, Sem.run_bind, hf, Result.andThen_ok, Sem.run_pure], g, m, q, h1, by rw [Nat.add_assoc]⟩) h
theorem aL_loadO (d : Nat) (t : TypeId) (x : Operand) (k : Ki) (id i off : Nat) (xs : List k.T) (z : k.T) (ti : TI) (v : AV) (ho : o.op = .load t x) (hd : o.dst = some d) (hg : Wn n st ops o) (hdn : d < n) (hx : aEv st x = some (.c (.elo id k.d.sz i off))) (hr : lk st.σ id = some (.row k xs)) (hz : xs[i]? = some z) (hi : tyT t = some ti) (hv : rdA ti (k.cells z) off = some v)
    (h : aL Tryz.prog c n ops rest Q (st.set d v)) : aL Tryz.prog c n ops (o :: rest) Q st :=
  aL_val d v hd hg hdn (fun μ a w hh he => by
    obtain ⟨g, m, q, h1, h2⟩ := aEv_rel he hx
    obtain ⟨cs, o1, o2⟩ := hh.row id k xs hr
    rw [h1] at o1
    have hat := rows_at o2 hz
    have hrg : w.rangeAt g (i * k.d.sz) ((cs.drop (i * k.d.sz)).take k.d.sz) := fun j u hu => by
      rw [List.getElem?_take] at hu
      split at hu
      · rw [List.getElem?_drop] at hu
        have := o1.cells rfl _ u hu
        rw [add_spot (.inl rfl)] at this
        simpa using this
      · cases hu
    obtain ⟨u, h7, h8⟩ := load_run (tyT_ok hi) hat hv hrg
    exact ⟨u, by simp only [execOp, ho, h2, Sem.run_bind, h7, Result.andThen_ok, Sem.run_pure], h8⟩) h
theorem rows_set {k : Ki} {y : k.T} {ds : List Value} (hy : RelL c σ μ w (k.cells y) ds) : ∀ {xs : List k.T} {cs : List Value} (_ : RelL c σ μ w (xs.flatMap k.cells) cs) {i : Nat}, i < xs.length → RelL c σ μ w ((xs.set i y).flatMap k.cells) (cs.take (i * k.d.sz) ++ ds ++ cs.drop (i * k.d.sz + k.d.sz))
  | [], _, _, i, h => by simp at h
  | x :: xs, cs, hr, 0, _ => by
    rw [List.flatMap_cons] at hr
    have h2 := hr.split.2
    rw [cells_len] at h2
    simp only [List.set_cons_zero, List.flatMap_cons, Nat.zero_mul, List.take_zero, List.nil_append, Nat.zero_add]
    exact hy.append h2
  | x :: xs, cs, hr, i + 1, hi => by
    rw [List.flatMap_cons] at hr
    obtain ⟨h1, h2⟩ := hr.split
    rw [cells_len] at h1 h2
    have h3 := rows_set hy h2 (i := i) (by simpa using hi)
    rw [List.set_cons_succ, List.flatMap_cons]
    have h4 := h1.append h3
    have e : cs.take k.d.sz ++ ((cs.drop k.d.sz).take (i * k.d.sz) ++ ds ++ (cs.drop k.d.sz).drop (i * k.d.sz + k.d.sz)) = cs.take ((i + 1) * k.d.sz) ++ ds ++ cs.drop ((i + 1) * k.d.sz + k.d.sz) := by
      rw [List.drop_drop, ← List.append_assoc, ← List.append_assoc, ← List.take_add, Nat.succ_mul]
      congr 2
      · rw [Nat.add_comm]
      · omega
    rw [e] at h4
    exact h4
theorem cut_eq {α : Type} (cur vs : List α) (S sz N off : Nat) (h1 : S + sz ≤ N) (h2 : N ≤ cur.length) (h3 : off + vs.length ≤ sz) :
    (cur.take (S + off) ++ vs ++ cur.drop (S + off + vs.length)).take N = (cur.take N).take S ++ ((((cur.take N).drop S).take sz).take off ++ vs ++ (((cur.take N).drop S).take sz).drop (off + vs.length)) ++ (cur.take N).drop (S + sz) := by
  have e1 : (cur.take N).take S = cur.take S := by rw [List.take_take, Nat.min_eq_left (by omega)]
  have e2 : ((cur.take N).drop S).take sz = (cur.drop S).take sz := by
    rw [List.drop_take, List.take_take, Nat.min_eq_left (by omega)]
  have e3 : ((cur.drop S).take sz).take off = (cur.drop S).take off := by rw [List.take_take, Nat.min_eq_left (by omega)]
  have e4 : ((cur.drop S).take sz).drop (off + vs.length) = (cur.drop (S + off + vs.length)).take (sz - (off + vs.length)) := by
    rw [List.drop_take, List.drop_drop, Nat.add_assoc]
  have e5 : (cur.take N).drop (S + sz) = (cur.drop (S + sz)).take (N - (S + sz)) := by rw [List.drop_take]
  have e6 : cur.take (S + off) = cur.take S ++ (cur.drop S).take off := by rw [List.take_add]
  have e7 : (cur.drop (S + off + vs.length)).take (N - (S + off + vs.length)) = (cur.drop (S + off + vs.length)).take (sz - (off + vs.length)) ++ (cur.drop (S + sz)).take (N - (S + sz)) := by
    rw [show N - (S + off + vs.length) = (sz - (off + vs.length)) + (N - (S + sz)) by omega, List.take_add, List.drop_drop, show S + off + vs.length + (sz - (off + vs.length)) = S + sz by omega]
  rw [e1, e2, e3, e4, e5, List.take_append, List.length_append, List.length_take, Nat.min_eq_left (by omega), e7, List.take_of_length_le (by rw [List.length_append, List.length_take]; omega), e6]
  simp only [List.append_assoc]
theorem aL_storeO (t : TypeId) (p x : Operand) (k : Ki) (id i off : Nat) (xs : List k.T) (z y : k.T) (ys : List AC) (ti : TI) (v : AV) (ho : o.op = .store t p x) (hd : o.dst = none) (hg : Wn n st ops o) (hp : aEv st p = some (.c (.elo id k.d.sz i off))) (hr : lk st.σ id = some (.row k xs)) (hz : xs[i]? = some z) (hx : aEv st x = some v) (hfl : v.flat = some ys) (hi : tyT t = some ti) (hsz : ys.length = ti.size) (hfit : off + ti.size ≤ k.d.sz) (hok : ys.all (AC.ok1 st.σ) = true) (hun : k.un ((k.cells z).take off ++ ys ++ (k.cells z).drop (off + ys.length)) = some y)
    (h : aL Tryz.prog c n ops rest Q ⟨st.env, (id, .row k (xs.set i y)) :: st.σ⟩) : aL Tryz.prog c n ops (o :: rest) Q st := fun a w hin => by
  have hw := hg.want hin
  obtain ⟨μ, hv, hdf, hn, he⟩ := hin
  obtain ⟨g, m, q, h1, h2⟩ := aEv_rel he hp
  obtain ⟨cs, o1, o2⟩ := hv.row id k xs hr
  have o1' := o1
  have hilt := (List.getElem?_eq_some_iff.1 hz).1
  rcases o1.2 with ⟨_, hn0⟩ | ⟨g', cap, cur, e, hbg, hheap, hnc, hcm, hcs, htake⟩
  · omega
  rw [h1] at e
  injection e with e1 e2 e3
  injection e1 with e1
  injection e1 with e1
  subst e1
  subst e2
  subst e3
  have h7 := flat_rel hfl (aEv_rel he hx) hv hok
  have h8 := h7.ones hv hok
  have hlen := h7.len
  have hfit2 : i * k.d.sz + k.d.sz ≤ xs.length * k.d.sz := by rw [← Nat.succ_mul]; exact Nat.mul_le_mul_right _ hilt
  have hfit3 : xs.length * k.d.sz ≤ cur.size := by rw [hcs]; exact Nat.mul_le_mul_right _ hnc
  have h9 := store_run (tyT_ok hi) (off := i * k.d.sz + off) hheap (by rw [hlen, hsz]) (by omega) h8
  refine wpList_step fun K hK => ?_
  rw [if_pos hw]
  unfold Oper.wp
  have hrun : (execOp a.eval o).run Tryz.prog w = .ok .skip (w.setCells g (i * k.d.sz + off) (a.eval x).cells.toList) := by
    simp only [execOp, ho, h2, Sem.run_bind, h9, Result.andThen_ok, Sem.run_pure]
  rw [hrun]
  show K (a.put o.dst undef) _
  rw [hd]
  obtain ⟨s1, s2, s3, s4⟩ := setCells_same g (a.eval x).cells.toList (i * k.d.sz + off) w
  obtain ⟨cur', r1, r2, r3⟩ := setCells_row (a.eval x).cells.toList (i * k.d.sz + off) w cur hheap (by rw [hlen, hsz]; omega)
  have hcl : cs.length = xs.length * k.d.sz := o1.1
  obtain ⟨hh, hmv⟩ := hv.put (w' := w.setCells g (i * k.d.sz + off) (a.eval x).cells.toList) id (.row k (xs.set i y)) (μ id) s1 s2 s3 (by rw [s4]; exact Nat.le_refl _) (fun b hlt hne => setCells_far _ _ b (fun e => by
      subst e; exact hne (by rw [hr]; simp) (by rw [h1]; rfl))) (fun b hb' => .inr ⟨by rw [hr]; simp, hb'⟩) (.inl rfl)
    (fun hmv => by
      have hat := rows_at o2 hz
      have p1 := hat.part 0 off
      have p2 := hat.part (off + ys.length) (k.d.sz - (off + ys.length))
      have f1 : AC.part (k.cells z) 0 off = (k.cells z).take off := by simp [AC.part]
      have f2 : AC.part (k.cells z) (off + ys.length) (k.d.sz - (off + ys.length)) = (k.cells z).drop (off + ys.length) := List.take_of_length_le (by rw [List.length_drop, cells_len]; exact Nat.le_refl _)
      have hel : ((cs.drop (i * k.d.sz)).take k.d.sz).length = k.d.sz := by rw [List.length_take, List.length_drop, hcl]; omega
      have f3 : (((cs.drop (i * k.d.sz)).take k.d.sz).drop (off + ys.length)).take (k.d.sz - (off + ys.length)) = ((cs.drop (i * k.d.sz)).take k.d.sz).drop (off + ys.length) := List.take_of_length_le (by rw [List.length_drop, hel]; exact Nat.le_refl _)
      rw [f1] at p1
      rw [f2, f3] at p2
      have p3 := un_rel hun ((p1.append h7).append p2)
      have p4 := rows_set p3 o2 hilt
      refine ⟨cur'.toList.take (xs.length * k.d.sz), ⟨by rw [List.length_take, List.length_set]; refine Nat.min_eq_left ?_; rw [show cur'.toList.length = cur.size from (Array.length_toList (xs := cur')).trans r2]; exact hfit3, .inr ⟨g, q, cur', by rw [h1, List.length_set], hbg, r1, by rw [List.length_set]; exact hnc, hcm, by rw [r2, hcs], by rw [List.length_set]⟩⟩, ?_⟩
      rw [upd_self] at hmv ⊢
      refine RelL.mv hmv (fun x hx i hi => rfl) ?_
      have e4 : cur'.toList.take (xs.length * k.d.sz) = cs.take (i * k.d.sz) ++ (((cs.drop (i * k.d.sz)).take k.d.sz).take off ++ (a.eval x).cells.toList ++ ((cs.drop (i * k.d.sz)).take k.d.sz).drop (off + ys.length)) ++ cs.drop (i * k.d.sz + k.d.sz) := by
        have hL : cur.toList.length = cur.size := Array.length_toList
        rw [r3, ← htake, ← hlen]
        exact cut_eq cur.toList (a.eval x).cells.toList (i * k.d.sz) k.d.sz (xs.length * k.d.sz) off hfit2 (by rw [hL]; exact hfit3) (by rw [hlen, hsz]; exact hfit)
      rw [e4]
      simpa using p4)
  rw [upd_self] at hh hmv
  exact hK _ _ (h _ _ ⟨μ, hh, hdf, hn, fun t v ht => (he t v ht).mv hmv (fun i hi => rfl)⟩)
end
section
variable {c : Cx} {n : Nat} {ops : Array Oper} {Q : Exit → St → Prop} {st st' : St} {rest : List Oper} {o : Oper} {σ σ' : List (Nat × Ent)} {μ : Nat → Value} {w w' : World}
abbrev plT : Nat → Option (List (Nat × Nat))
  | 90 => some [(0, 1), (1, 1), (2, 1)]
  | 92 => some [(0, 1), (1, 3)]
  | 25 => some [(0, 1)]
  | 62 => some [(0, 1), (1, 1), (2, 1)]
  | _ => none
theorem plT_ok {t : Nat} {pl : List (Nat × Nat)} {i : TI} (h : plT t = some pl) (hi : tyT t = some i) (parts : List (Nat × Value)) : Tryz.prog.built t parts = Instr.fill (pl.toArray[·]?) i.zero.cells parts := by
  unfold plT at h
  split at h <;> cases h <;> cases hi <;> kernel_rfl
def bldA (st : St) (pl : List (Nat × Nat)) : List AC → List (Nat × Operand) → Option (List AC)
  | cs, [] => some cs
  | cs, (i, x) :: r => match pl[i]?, aEv st x with
    | some (off, size), some v => match v.flat with
      | some ys => bif Nat.beq ys.length size && Nat.ble (off + ys.length) cs.length && ys.all (AC.ok1 st.σ) then bldA st pl (cs.take off ++ ys ++ cs.drop (off + ys.length)) r else none
      | none => none
    | _, _ => none
theorem fold_put (off : Nat) : ∀ (vs : List Value) (j : Nat) (cs : Array Value), off + j + vs.length ≤ cs.size →
    ((vs.zipIdx j).foldl (fun cs (x : Value × Nat) => cs.setIfInBounds (off + x.2) x.1) cs).toList = cs.toList.take (off + j) ++ vs ++ cs.toList.drop (off + j + vs.length)
  | [], j, cs, h => by simp
  | v :: vs, j, cs, h => by
    rw [List.zipIdx_cons, List.foldl_cons]
    simp only [List.length_cons] at h
    rw [fold_put off vs (j + 1) _ (by simp; omega), Array.toList_setIfInBounds]
    have hl : off + j < cs.toList.length := by rw [Array.length_toList]; omega
    rw [show off + (j + 1) = (off + j) + 1 by omega, List.take_set, List.drop_set_of_lt (by omega), List.take_succ_eq_append_getElem hl, List.length_cons, show off + j + 1 + vs.length = off + j + (vs.length + 1) by omega, List.set_append_right _ _ (by rw [List.length_take]; omega), List.length_take, Nat.min_eq_left (by omega)]
    simp
theorem bldA_rel {a : Act} (hv : Hv c st.σ μ w) (he : ∀ t v, lk st.env t = some v → RelV c st.σ μ w v (a.tmps.getD t undef)) {pl : List (Nat × Nat)} : ∀ {parts : List (Nat × Operand)} {cs cs' : List AC} {us : List Value}, RelL c st.σ μ w cs us → bldA st pl cs parts = some cs' →
    ∃ us', Instr.fill (pl.toArray[·]?) us.toArray (parts.map fun (i, x) => (i, a.eval x)) = some us' ∧ RelL c st.σ μ w cs' us'.toList
  | [], cs, cs', us, hr, h => by cases h; exact ⟨us.toArray, rfl, hr⟩
  | (i, x) :: r, cs, cs', us, hr, h => by
    unfold bldA at h
    split at h
    · rename_i off size v hp hx
      split at h
      · rename_i ys hy
        cases hb : (Nat.beq ys.length size && Nat.ble (off + ys.length) cs.length && ys.all (AC.ok1 st.σ))
        · rw [hb] at h; cases h
        · rw [hb] at h
          simp only [Bool.and_eq_true] at hb
          obtain ⟨⟨b1, b2⟩, b3⟩ := hb
          have b1' := Nat.eq_of_beq_eq_true b1
          have b2' := Nat.le_of_ble_eq_true b2
          have q1 := flat_rel hy (aEv_rel he hx) hv b3
          have q2 := q1.len
          have q3 := hr.len
          have p1 := hr.part 0 off
          have p2 := hr.part (off + ys.length) (cs.length - (off + ys.length))
          have e1 : AC.part cs 0 off = cs.take off := by simp [AC.part]
          have e2 : AC.part cs (off + ys.length) (cs.length - (off + ys.length)) = cs.drop (off + ys.length) := List.take_of_length_le (by rw [List.length_drop]; exact Nat.le_refl _)
          have e3 : (us.drop (off + ys.length)).take (cs.length - (off + ys.length)) = us.drop (off + ys.length) := List.take_of_length_le (by rw [List.length_drop, q3]; exact Nat.le_refl _)
          rw [e1] at p1
          rw [e2, e3] at p2
          obtain ⟨us', r1, r2⟩ := bldA_rel hv he (parts := r) ((p1.append q1).append p2) h
          refine ⟨us', ?_, r2⟩
          have hcells : (a.eval x).cells.size = size := by rw [← b1', ← q2, Array.length_toList]
          have hfold : (Array.foldl (fun cs (x : Value × Nat) => cs.setIfInBounds (off + x.2) x.1) us.toArray (a.eval x).cells.zipIdx) = (us.take off ++ (a.eval x).cells.toList ++ us.drop (off + ys.length)).toArray := by
            have := fold_put off (a.eval x).cells.toList 0 us.toArray (by rw [q2]; simp only [List.size_toArray, q3]; omega)
            rw [← Array.foldl_toList, Array.toList_zipIdx]
            apply Array.ext'
            rw [this, q2]
            simp
          have hpl : pl.toArray[i]? = some (off, size) := by simpa using hp
          rw [List.map_cons]
          unfold Instr.fill
          rw [hpl]
          simp only
          rw [if_neg (show ¬ ((decide ((a.eval x).cells.size ≠ size) || decide (off + (a.eval x).cells.size > us.toArray.size)) = true) from by rw [hcells, List.size_toArray, q3]; simp; omega)]
          rw [hfold]
          simpa using r1
      · cases h
    · cases h
theorem aL_build (d : Nat) (t : TypeId) (parts : Array (Nat × Operand)) (i : TI) (pl : List (Nat × Nat)) (cs : List AC) (ho : o.op = .build t parts) (hd : o.dst = some d) (hg : Wn n st ops o) (hdn : d < n) (hi : tyT t = some i) (hp : plT t = some pl) (hb : bldA st pl (i.zero.cells.toList.map AC.v) parts.toList = some cs)
    (h : aL Tryz.prog c n ops rest Q (st.set d (.g cs))) : aL Tryz.prog c n ops (o :: rest) Q st :=
  aL_val d (.g cs) hd hg hdn (fun μ a w hh he => by
    have h0 : RelL c st.σ μ w (i.zero.cells.toList.map AC.v) i.zero.cells.toList := by
      generalize i.zero.cells.toList = l
      induction l with
      | nil => rfl
      | cons x xs ih => exact ⟨x, xs, rfl, rfl, ih⟩
    obtain ⟨us', h1, h2⟩ := bldA_rel hh he h0 hb
    have h3 := run_build (P := Tryz.prog) w t (parts.map fun (i, x) => (i, a.eval x)) us' (by
      rw [plT_ok hp hi, Array.toList_map]
      rw [Array.toArray_toList] at h1
      exact h1)
    exact ⟨.agg us', by simp only [execOp, ho, Sem.run_bind, h3, Result.andThen_ok, Sem.run_pure], us'.toList, by rw [Array.toArray_toList], h2⟩) h
end
end Go.Proofs.YtkjlcbfjllpcnaaGreat.X
