/- Proof of the statement BlockingGrows: part 6 of 7, what it computes and why that answers true. -/
import Derived.Test.YtkjlcbfjllpcnaaKBG5
set_option linter.unusedVariables false
set_option linter.unusedSimpArgs false
namespace Go.Proofs.Ytkjlcbfjllpcnaa.X
open Go.RowKit Go.Proofs.YtkjlcbfjllpcnaaW.PrintWords Go.Proofs.YtkjlcbfjllpcnaaW.PrintLast Go.Proofs.YtkjlcbfjllpcnaaW.PrintMore
attribute [local go_sem] max2_int min2_int max_two min_two max_three min_three max_four min_four
set_option linter.unusedVariables false
set_option linter.unusedSimpArgs false
mutual
def blocking_Least.j0:Nat→Int→Bool→List (S34)→Option (List Int × Int)
 | 0,_,_,_=>none
 | k+1,x1,x23,x294000=>if x23=true then (some (([]:List Int),5)) else (if 0≤x1 then (if x1 < (x294000.length:Int) then (if ((rd_T34 x294000 x1).f0=true) then ((threshold_Uses.f k ((rd_T34 x294000 x1).f1.f0) ((rd_T34 x294000 x1).f1.f1) ((rd_T34 x294000 x1).f1.f2)).bind fun t297=>((nodeset_Subsets.f t297).bind fun t298=>(blocking_Least.l0 k x1 ([]:List Int) t298 (t298.length:Int) 0 x294000))) else (some (([]:List Int),10))) else (none)) else (none))
def blocking_Least.l0:Nat→Int→List Int→List Int→Int→Int→List (S34)→Option (List Int × Int)
 | 0,_,_,_,_,_,_=>none
 | k+1,x1,x7,x38,x39,x40,x294000=>if x40 < x39 then (if 0≤x40 then (if x40 < (x38.length:Int) then ((blocking_Blocks.f k x294000 x1 (rd x38 x40)).bind fun t302=>(if t302=true then (if x7.length < 17592186044416 then (blocking_Least.l0 k x1 (x7++[rd x38 x40]) x38 x39 (wrap64 (x40+1)) x294000) else (none)) else (blocking_Least.l0 k x1 x7 x38 x39 (wrap64 (x40+1)) x294000))) else (none)) else (none)) else ((nodeset_Least.f x7).bind fun t306=>(some (t306,0)))
end
def blocking_Least.f (k:Nat) (l0_0:List (S34)) (a1:Int):Option (List Int × Int):=(configuration_Valid.f k l0_0).bind fun t294=>(if t294=0 then (if a1 < 0 then (blocking_Least.j0 k a1 true l0_0) else (blocking_Least.j0 k a1 (decide (a1 ≥ (l0_0.length:Int))) l0_0)) else (some (([]:List Int),t294)))
set_option maxHeartbeats 8000000 in
set_option maxRecDepth 100000 in
theorem blocking_Least.calls (k:Nat) (A0_0:Option Addr) (c0_0:Nat) (l0_0:List (S34)) (a1:Int) (r1:List Int) (r2:Int) (w:World) (hr0_0:Kd.C k34 w A0_0 l0_0.length l0_0) (hc0_0:l0_0.length≤c0_0) (h:blocking_Least.f k l0_0 a1=some (r1,r2)) :
  Calls Try.prog 21 #[.agg #[.slice A0_0 l0_0.length c0_0],.int .i64 a1] w fun e w'=>∃ v0_:Value,e=.returned (.tuple #[v0_,.int .i64 r2])∧Kd.R (Kd.int .i64) 3 w' w.heap.size (fun _=>True) v0_ r1∧Below w.heap.size w w':=by
 have hu27:=Try.underlying27
 have hu32:=Try.underlying32
 have HR0_0:=Aside0.mk hr0_0
 have HC0_0:=Aside0.mk hc0_0
 clear hr0_0 hc0_0
 have HB:=Aside0.mk (Below.refl w.heap.size w)
 have H:((configuration_Valid.f k l0_0).bind fun t294=>(if t294=0 then (if a1 < 0 then (blocking_Least.j0 k a1 true l0_0) else (blocking_Least.j0 k a1 (decide (a1 ≥ (l0_0.length:Int))) l0_0)) else (some (([]:List Int),t294))))=some (r1,r2):=h
 clear h
 replace H:=Option.bind_eq_some_iff.mp H
 obtain ⟨t294,A30,H⟩:=H
 replace H:(if t294=0 then (if a1 < 0 then (blocking_Least.j0 k a1 true l0_0) else (blocking_Least.j0 k a1 (decide (a1 ≥ (l0_0.length:Int))) l0_0)) else (some (([]:List Int),t294)))=some (r1,r2):=H
 have A3:=Aside0.mk A30
 clear A30
 by_cases c4:t294=0
 ·rw [if_pos c4] at H
  have c4b0:(t294 == 0)=true:=beq_iff_eq.mpr c4
  have c4b1:(t294 != 0)=false:=bne_eq_false_iff_eq.mpr c4
  clear c4
  have HC5:=Aside0.mk H
  clear H
  go_enter Try.func21,Try.ntmps21
  go_upto_region 4 with (first|((with_reducible refine gate_dst (N:=2) rfl ?_);(try (refine gate_guard (by rfl) ?_;dsimp only));refine box_event ?hg (N:=2) ?hd (cs:=#[.slice A0_0 l0_0.length c0_0]) (t:=27) ?hr ?_;(case hd=>rfl);(case hg=>rfl);(case hr=>first|(go_simp;done)|(go_simp;rfl));intro gb293 hg w6 hbox hb;have n0_:=Aside0.mk (below_step (by repeat (first|(with_reducible first|exact HB.out|apply wA|apply wN|apply wD)|exact HB.out)) hb);have n1_:=Aside0.mk (hbox);have n2_:=Aside0.mk ((by rw [hg];exact (below_size (by repeat (first|(with_reducible first|exact HB.out|apply wA|apply wN|apply wD)|exact HB.out))):w.heap.size≤gb293));have n3_:=Aside0.mk ((by rw [hg];exact (below_size (by repeat (first|(with_reducible first|exact HB.out|apply wA|apply wN|apply wD)|exact HB.out))):w.heap.size≤gb293));clear HB;have HB:=n0_;have BK293:=n1_;have GW293:=n2_;have GE293:=n3_;clear n0_ n1_ n2_ n3_;clear hb hbox hg;have hcz7_0:w6.cell? ⟨gb293,0,none⟩=some (.slice A0_0 l0_0.length c0_0):=(kC BK293.out 0).trans rfl;have hfz7_0:=kF BK293.out 0)|((with_reducible refine gate_callee (f:=63) rfl ?_);refine goesL_ (some 11) rfl rfl Try.func63 (by kernel_rfl) rfl #[.agg #[.slice A0_0 l0_0.length c0_0]] rfl (by (try simp only [List.map_toArray,List.map_cons,List.map_nil]);first|done|rfl|(simp only [List.length_drop,List.length_take];rfl)) ?_;(with_reducible refine (configuration_Valid.calls k _ _ l0_0 t294 _ ?side1 ?side2 A3.out).mono ?_);(case side1=>repeat (first|exact (Kd.C_below HR0_0.out HB.out)|(with_reducible refine Kd.C_alloc ?_ _)|(with_reducible refine Kd.C_drewN ?_ _)|(with_reducible refine Kd.C_drew ?_)));(case side2=>exact HC0_0.out);rintro e w8 ⟨rfl,hb⟩;refine ⟨_,rfl,?_⟩;have n0_:=Aside0.mk (blk_below (g:=gb293) (o:=.cells #[.slice A0_0 l0_0.length c0_0] 27 (0,0)) (by (with_reducible repeat (first|refine kN ?_ _|refine kD ?_|refine kA ?_ _));exact BK293.out) hb);have n1_:=Aside0.mk (below_step (by repeat (first|(with_reducible first|exact HB.out|apply wA|apply wN|apply wD|refine wS ?_ GE293.out)|exact HB.out)) hb);clear BK293;clear HB;have BK293:=n0_;have HB:=n1_;clear n0_ n1_;(try clear hb);(try clear hb2);(try clear hk);(try clear hi)))
  (try simp only [Act.put,List.setIfInBounds_toArray,List.set_cons_zero,List.set_cons_succ])
  go_cut [23] (fun v23 wc=>∃ (kq:Nat) (x23_4:Bool),v23=.bool x23_4∧Aside0 (blocking_Least.j0 kq a1 x23_4 l0_0=some (r1,r2))∧Aside0 (kq≤k)∧Aside0 (wc.heap[gb293]?=some (.cells #[(.slice A0_0 l0_0.length c0_0)] 27 (0,0)))∧Aside0 (Below w.heap.size w wc))
  case first =>
   have H:=HC5.out
   clear HC5
   by_cases c9:a1 < 0
   ·rw [if_pos c9] at H
    have c9b0:decide (a1 < 0)=true:=decide_eq_true c9
    clear c9
    (first|rw [c9b0]|(simp only [i64_w,i32_w];rw [c9b0])|skip)
    have H':=Aside0.mk H
    clear H
    go_wp2
    go_meet
    case rel=>exact ⟨_,(true),(by first|rfl|(simp;done)|(simp [*];done)),H',⟨by first|omega|exact Nat.le_refl _⟩,⟨by (with_reducible repeat (first|refine kN ?_ _|refine kD ?_|refine kA ?_ _));exact BK293.out⟩,⟨by repeat (first|(with_reducible first|exact HB.out|apply wA|apply wN|apply wD|refine wS ?_ GE293.out)|exact HB.out)⟩⟩
   ·rw [if_neg c9] at H
    have c9b0:decide (a1 < 0)=false:=decide_eq_false c9
    clear c9
    (first|rw [c9b0]|(simp only [i64_w,i32_w];rw [c9b0])|skip)
    have H':=Aside0.mk H
    clear H
    have hcz10_0:w8.cell? ⟨gb293,0,none⟩=some (.slice A0_0 l0_0.length c0_0):=(kC BK293.out 0).trans rfl
    have hfz10_0:=kF BK293.out 0
    go_wp2
    go_meet
    case rel=>exact ⟨_,(decide (a1 ≥ (l0_0.length:Int))),(by first|rfl|(simp;done)|(simp [*];done)),H',⟨by first|omega|exact Nat.le_refl _⟩,⟨by (with_reducible repeat (first|refine kN ?_ _|refine kD ?_|refine kA ?_ _));exact BK293.out⟩,⟨by repeat (first|(with_reducible first|exact HB.out|apply wA|apply wN|apply wD|refine wS ?_ GE293.out)|exact HB.out)⟩⟩
  case rest =>
   clear HC5
   try clear c2
   try clear p2
   try clear c4
   try clear c4b0
   try clear c4b1
   try clear c6
   try clear c9
   try clear c9b0
   try clear hcz10_0
   try clear hcz7_0
   try clear hfz10_0
   try clear hfz7_0
   obtain ⟨kq,x23_4,rfl,HA,HJ4,BK293,HB⟩:=hcut
   cases kq with
   | zero=>exact absurd HA.out (by simp [blocking_Least.j0])
   | succ kj4 =>
    have H:=HA.out
    clear HA
    simp only [blocking_Least.j0] at H
    by_cases c11:x23_4=true
    ·subst c11
     have H1:(some (([]:List Int),5))=some (r1,r2):=by rw [if_pos rfl] at H;exact H
     clear H
     have H:=H1
     clear H1
     simp only [Option.some.injEq,Prod.mk.injEq] at H
     obtain ⟨rfl,rfl⟩:=H
     go_wp2
     go_ret2
     exact ⟨_,by first|rfl|(simp [errW_none,errW_some] <;> rfl)|(simp [*,errW_none,errW_some] <;> rfl),by first|exact Kd.R_nil _ _ _ _ _|exact Kd.N_nil _ _ _ _ _|exact Kd.V_nil _ _ _ _ _|exact Kd.Q_nil _ _ _ _ _|exact Kd.S_nil _ _ _ _ _,by repeat (first|(with_reducible first|exact HB.out|apply wA|apply wN|apply wD|refine wS ?_ GE293.out)|exact HB.out)⟩
    ·replace c11:=Bool.eq_false_iff.mpr c11
     subst c11
     have H1:(if 0≤a1 then (if a1 < (l0_0.length:Int) then (if ((rd_T34 l0_0 a1).f0=true) then ((threshold_Uses.f kj4 ((rd_T34 l0_0 a1).f1.f0) ((rd_T34 l0_0 a1).f1.f1) ((rd_T34 l0_0 a1).f1.f2)).bind fun t297=>((nodeset_Subsets.f t297).bind fun t298=>(blocking_Least.l0 kj4 a1 ([]:List Int) t298 (t298.length:Int) 0 l0_0))) else (some (([]:List Int),10))) else (none)) else (none))=some (r1,r2):=by rw [if_neg (show ¬ (false=true) by decide)] at H;exact H
     clear H
     have H:=H1
     clear H1
     by_cases c12:0≤a1
     ·rw [if_pos c12] at H
      have c12b0:decide (0≤a1)=true:=decide_eq_true c12
      clear c12
      by_cases c13:a1 < (l0_0.length:Int)
      ·rw [if_pos c13] at H
       have c13b0:decide (a1 < (l0_0.length:Int))=true:=decide_eq_true c13
       clear c13
       obtain ⟨bq14,hbq14⟩:∃ b_:Bool,b_=((rd_T34 l0_0 a1).f0):=⟨_,rfl⟩
       replace H:(if (bq14=true) then ((threshold_Uses.f kj4 ((rd_T34 l0_0 a1).f1.f0) ((rd_T34 l0_0 a1).f1.f1) ((rd_T34 l0_0 a1).f1.f2)).bind fun t297=>((nodeset_Subsets.f t297).bind fun t298=>(blocking_Least.l0 kj4 a1 ([]:List Int) t298 (t298.length:Int) 0 l0_0))) else (some (([]:List Int),10)))=some (r1,r2):=by rw [← hbq14] at H;exact H
       have Nbq14:=Aside0.mk hbq14
       clear hbq14
       by_cases c15:(bq14=true)
       ·subst c15
        have H1:((threshold_Uses.f kj4 ((rd_T34 l0_0 a1).f1.f0) ((rd_T34 l0_0 a1).f1.f1) ((rd_T34 l0_0 a1).f1.f2)).bind fun t297=>((nodeset_Subsets.f t297).bind fun t298=>(blocking_Least.l0 kj4 a1 ([]:List Int) t298 (t298.length:Int) 0 l0_0)))=some (r1,r2):=by rw [if_pos rfl] at H;exact H
        clear H
        have H:=H1
        clear H1
        replace H:=Option.bind_eq_some_iff.mp H
        obtain ⟨t297,A160,H⟩:=H
        replace H:((nodeset_Subsets.f t297).bind fun t298=>(blocking_Least.l0 kj4 a1 ([]:List Int) t298 (t298.length:Int) 0 l0_0))=some (r1,r2):=H
        have A16:=Aside0.mk A160
        clear A160
        replace H:=Option.bind_eq_some_iff.mp H
        obtain ⟨t298,A170,H⟩:=H
        replace H:(blocking_Least.l0 kj4 a1 ([]:List Int) t298 (t298.length:Int) 0 l0_0)=some (r1,r2):=H
        have A17:=Aside0.mk A170
        clear A170
        have H':=Aside0.mk H
        clear H
        have hcz18_0:wc.cell? ⟨gb293,0,none⟩=some (.slice A0_0 l0_0.length c0_0):=(kC BK293.out 0).trans rfl
        have hfz18_0:=kF BK293.out 0
        have p295:0≤(a1:Int):=of_decide_eq_true (by first|(with_reducible assumption)|assumption)
        have q295:a1 < (l0_0.length:Int):=of_decide_eq_true (by first|(with_reducible assumption)|assumption)
        obtain ⟨ad295,A295_2,c295_2,A295_3,c295_3,e295,hx295_0,hx295_1,hx295_2,hx295_3,hl295_2,hi295_2,hl295_3,hi295_3⟩:=at_T34 HR0_0.out a1 p295 q295
        (try rw [← Nbq14.out] at hx295_0)
        cases e295
        replace hx295_0:=(HB.out.cell (World.block_lt_of_cell? w _ hx295_0)).trans hx295_0
        replace hx295_1:=(HB.out.cell (World.block_lt_of_cell? w _ hx295_1)).trans hx295_1
        replace hx295_2:=(HB.out.cell (World.block_lt_of_cell? w _ hx295_2)).trans hx295_2
        replace hx295_3:=(HB.out.cell (World.block_lt_of_cell? w _ hx295_3)).trans hx295_3
        have HR295_2:=Aside0.mk hi295_2
        have HC295_2:=Aside0.mk hl295_2
        clear hi295_2 hl295_2
        have HR295_3:=Aside0.mk hi295_3
        have HC295_3:=Aside0.mk hl295_3
        clear hi295_3 hl295_3
        replace p295:=eq_true p295
        replace q295:=eq_true q295
        have p296:0≤(a1:Int):=of_decide_eq_true (by first|(with_reducible assumption)|assumption)
        have q296:a1 < (l0_0.length:Int):=of_decide_eq_true (by first|(with_reducible assumption)|assumption)
        obtain ⟨ad296,A296_2,c296_2,A296_3,c296_3,e296,hx296_0,hx296_1,hx296_2,hx296_3,hl296_2,hi296_2,hl296_3,hi296_3⟩:=at_T34 HR0_0.out a1 p296 q296
        (try rw [← Nbq14.out] at hx296_0)
        obtain rfl:ad295=ad296:=(by injection e296)
        replace hx296_0:=(HB.out.cell (World.block_lt_of_cell? w _ hx296_0)).trans hx296_0
        replace hx296_1:=(HB.out.cell (World.block_lt_of_cell? w _ hx296_1)).trans hx296_1
        replace hx296_2:=(HB.out.cell (World.block_lt_of_cell? w _ hx296_2)).trans hx296_2
        replace hx296_3:=(HB.out.cell (World.block_lt_of_cell? w _ hx296_3)).trans hx296_3
        have HR296_2:=Aside0.mk hi296_2
        have HC296_2:=Aside0.mk hl296_2
        clear hi296_2 hl296_2
        have HR296_3:=Aside0.mk hi296_3
        have HC296_3:=Aside0.mk hl296_3
        clear hi296_3 hl296_3
        replace p296:=eq_true p296
        replace q296:=eq_true q296
        have ea_:=Option.some.inj (hx295_2.symm.trans hx296_2)
        injection ea_ with ea_ en_ ec_
        subst ea_
        subst ec_
        clear en_
        have ea_:=Option.some.inj (hx295_3.symm.trans hx296_3)
        injection ea_ with ea_ en_ ec_
        subst ea_
        subst ec_
        clear en_
        go_wp2_with (first|((with_reducible refine gate_callee (f:=65) rfl ?_);refine goesL_ (some 37) rfl rfl Try.func65 (by kernel_rfl) rfl #[.agg #[.int .i64 ((rd_T34 l0_0 a1).f1.f0),.slice A295_2 ((rd_T34 l0_0 a1).f1.f1).length c295_2,.slice A295_3 ((rd_T34 l0_0 a1).f1.f2).length c295_3]] rfl (by (try simp only [List.map_toArray,List.map_cons,List.map_nil]);first|done|rfl|(simp only [List.length_drop,List.length_take];rfl)) ?_;(with_reducible refine (threshold_Uses.calls kj4 ((rd_T34 l0_0 a1).f1.f0) _ _ ((rd_T34 l0_0 a1).f1.f1) _ _ ((rd_T34 l0_0 a1).f1.f2) t297 _ ?side1 ?side2 ?side3 ?side4 A16.out).mono ?_);(case side1=>repeat (first|exact (Kd.C_below HR296_2.out HB.out)|(with_reducible refine Kd.C_alloc ?_ _)|(with_reducible refine Kd.C_drewN ?_ _)|(with_reducible refine Kd.C_drew ?_)));(case side2=>exact HC296_2.out);(case side3=>repeat (first|exact (Kd.C_below HR296_3.out HB.out)|(with_reducible refine Kd.C_alloc ?_ _)|(with_reducible refine Kd.C_drewN ?_ _)|(with_reducible refine Kd.C_drew ?_)));(case side4=>exact HC296_3.out);rintro e w19 ⟨rfl,hb⟩;refine ⟨_,rfl,?_⟩;have n0_:=Aside0.mk (blk_below (g:=gb293) (o:=.cells #[.slice (some ad295) l0_0.length c0_0] 27 (0,0)) (by (with_reducible repeat (first|refine kN ?_ _|refine kD ?_|refine kA ?_ _));exact BK293.out) hb);have n1_:=Aside0.mk (below_step (by repeat (first|(with_reducible first|exact HB.out|apply wA|apply wN|apply wD|refine wS ?_ GE293.out)|exact HB.out)) hb);clear BK293;clear HB;have BK293:=n0_;have HB:=n1_;clear n0_ n1_;(try clear hb);(try clear hb2);(try clear hk);(try clear hi))|((with_reducible refine gate_callee (f:=64) rfl ?_);refine goesL_ (some 38) rfl rfl Try.func64 (by kernel_rfl) rfl #[.int .i64 t297] rfl (by (try simp only [List.map_toArray,List.map_cons,List.map_nil]);first|done|rfl|(simp only [List.length_drop,List.length_take];rfl)) ?_;(with_reducible refine (nodeset_Subsets.calls t297 t298 _ A17.out).mono ?_);rintro e w20 ⟨v299,rfl,ho0,hb⟩;refine ⟨_,rfl,?_⟩;have n0_:=Aside0.mk (Kd.R_lower ho0 (below_size (by repeat (first|(with_reducible first|exact HB.out|apply wA|apply wN|apply wD|refine wS ?_ GE293.out)|exact HB.out))));have n1_:=Aside0.mk (blk_below (g:=gb293) (o:=.cells #[.slice (some ad295) l0_0.length c0_0] 27 (0,0)) (by (with_reducible repeat (first|refine kN ?_ _|refine kD ?_|refine kA ?_ _));exact BK293.out) hb);have n2_:=Aside0.mk (below_step (by repeat (first|(with_reducible first|exact HB.out|apply wA|apply wN|apply wD|refine wS ?_ GE293.out)|exact HB.out)) hb);clear BK293;clear HB;have HO300:=n0_;have BK293:=n1_;have HB:=n2_;clear n0_ n1_ n2_;(try clear hb);(try clear hb2);(try clear hk);(try clear hi);(try clear ho0);obtain ⟨Ao21,co21,eo21⟩:=Kd.R_slice HO300.out;subst eo21))
        go_loopg [7,40] kj4 (fun kq v7 v40 w'=>∃ (x7_2:List Int) (x40_2:Int),v40=.int .i64 x40_2∧Aside0 (blocking_Least.l0 kq a1 x7_2 t298 (t298.length:Int) x40_2 l0_0=some (r1,r2))∧Aside0 (kq≤kj4)∧Aside0 (Kd.R (Kd.int .i64) 3 w' w.heap.size (fun k_=>some k_ ≠ ((.slice Ao21 t298.length co21):Value).ownBlock) v7 x7_2)∧Aside0 (Kd.R (Kd.int .i64) 3 w' w.heap.size (fun k_=>some k_ ≠ (v7:Value).ownBlock) (.slice Ao21 t298.length co21) t298)∧Aside0 (w'.heap[gb293]?=some (.cells #[(.slice (some ad295) l0_0.length c0_0)] 27 (0,0)))∧Aside0 (Below w.heap.size w w'))
        case atStart=>exact ⟨(([]:List Int)),(0),(by first|rfl|(simp;done)|(simp [*];done)),H',⟨Nat.le_refl _⟩,⟨by first|exact Kd.R_nil _ _ _ _ _|exact Kd.N_nil _ _ _ _ _|exact Kd.V_nil _ _ _ _ _|exact Kd.Q_nil _ _ _ _ _|exact Kd.S_nil _ _ _ _ _⟩,⟨by (with_reducible repeat (first|apply Kd.R_alloc|apply Kd.R_drewN|apply Kd.R_drew));exact Kd.R_mono HO300.out (fun _ hk=>(by simp [Value.ownBlock]))⟩,⟨by (with_reducible repeat (first|refine kN ?_ _|refine kD ?_|refine kA ?_ _));exact BK293.out⟩,⟨by repeat (first|(with_reducible first|exact HB.out|apply wA|apply wN|apply wD|refine wS ?_ GE293.out)|exact HB.out)⟩⟩
        case round =>
         clear H'
         try clear c1
         try clear q1
         try clear c2
         try clear p2
         try clear q2
         try clear hx2
         try clear c4
         try clear c4b0
         try clear c4b1
         try clear c6
         try clear c9
         try clear c9b0
         try clear c11
         try clear c12
         try clear c12b0
         try clear c13
         try clear c13b0
         try clear q14
         try clear c15
         try clear c21
         try clear hcz10_0
         try clear hcz18_0
         try clear hcz7_0
         try clear hfz10_0
         try clear hfz18_0
         try clear hfz7_0
         try clear hx295_0
         try clear hx295_1
         try clear hx295_2
         try clear hx295_3
         try clear hx296_0
         try clear hx296_1
         try clear hx296_2
         try clear hx296_3
         try clear p2
         try clear p295
         try clear p296
         try clear q295
         try clear q296
         obtain ⟨x7_2,x40_2,rfl,HA,HK2,HO_7,HO_38,BK293,HB⟩:=hrel
         cases gk with
         | zero=>exact absurd HA.out (by simp [blocking_Least.l0])
         | succ k2 =>
          have H:=HA.out
          clear HA
          simp only [blocking_Least.l0] at H
          by_cases c22:x40_2 < (t298.length:Int)
          ·rw [if_pos c22] at H
           have c22b0:decide (x40_2 < (t298.length:Int))=true:=decide_eq_true c22
           clear c22
           by_cases c23:0≤x40_2
           ·rw [if_pos c23] at H
            have c23b0:decide (0≤x40_2)=true:=decide_eq_true c23
            clear c23
            by_cases c24:x40_2 < (t298.length:Int)
            ·rw [if_pos c24] at H
             have c24b0:decide (x40_2 < (t298.length:Int))=true:=decide_eq_true c24
             clear c24
             replace H:=Option.bind_eq_some_iff.mp H
             obtain ⟨t302,A250,H⟩:=H
             replace H:(if t302=true then (if x7_2.length < 17592186044416 then (blocking_Least.l0 k2 a1 (x7_2++[rd t298 x40_2]) t298 (t298.length:Int) (wrap64 (x40_2+1)) l0_0) else (none)) else (blocking_Least.l0 k2 a1 x7_2 t298 (t298.length:Int) (wrap64 (x40_2+1)) l0_0))=some (r1,r2):=H
             have A25:=Aside0.mk A250
             clear A250
             by_cases c26:t302=true
             ·subst c26
              have H1:(if x7_2.length < 17592186044416 then (blocking_Least.l0 k2 a1 (x7_2++[rd t298 x40_2]) t298 (t298.length:Int) (wrap64 (x40_2+1)) l0_0) else (none))=some (r1,r2):=by rw [if_pos rfl] at H;exact H
              clear H
              have H:=H1
              clear H1
              by_cases c27:x7_2.length < 17592186044416
              ·rw [if_pos c27] at H
               have LMc27:=Aside0.mk c27
               clear c27
               obtain ⟨y303,hy303⟩:∃ y_:List Int,y_=(x7_2++[rd t298 x40_2]):=⟨_,rfl⟩
               replace H:(blocking_Least.l0 k2 a1 y303 t298 (t298.length:Int) (wrap64 (x40_2+1)) l0_0)=some (r1,r2):=by first|(rw [hy303];with_reducible exact H)|(have H2_:=(Option.bind_some _ _).symm.trans H;rw [hy303];with_reducible exact H2_)|(have H2_:=(Option.bind_some _ _).symm.trans H;with_reducible exact H2_)|with_reducible exact H|(rw [hy303];exact H)|exact H
               have Ny303:=Aside0.mk hy303
               clear hy303
               have H':=Aside0.mk H
               clear H
               have p301:0≤(x40_2:Int):=of_decide_eq_true (by first|(with_reducible assumption)|assumption)
               have q301:x40_2 < (t298.length:Int):=of_decide_eq_true (by first|(with_reducible assumption)|assumption)
               obtain ⟨ad301,e301,hx301_0⟩:=Kd.at_int (Kd.R_reads' HO_38.out).2.2 x40_2 p301 q301
               cases e301
               replace p301:=eq_true p301
               replace q301:=eq_true q301
               have hcz28_0:wr.cell? ⟨gb293,0,none⟩=some (.slice (some ad295) l0_0.length c0_0):=(kC BK293.out 0).trans rfl
               have hfz28_0:=kF BK293.out 0
               go_wp2_with (first|((with_reducible refine gate_callee (f:=19) rfl ?_);refine goesL_ (some 47) rfl rfl Try.func19 (by kernel_rfl) rfl #[.agg #[.slice (some ad295) l0_0.length c0_0],.int .i64 a1,.int .i64 (rd t298 x40_2)] rfl (by (try simp only [List.map_toArray,List.map_cons,List.map_nil]);first|done|rfl|(simp only [List.length_drop,List.length_take];rfl)) ?_;(with_reducible refine (blocking_Blocks.calls k2 _ _ l0_0 a1 (rd t298 x40_2) true _ ?side1 ?side2 A25.out).mono ?_);(case side1=>repeat (first|exact (Kd.C_below HR0_0.out HB.out)|(with_reducible refine Kd.C_alloc ?_ _)|(with_reducible refine Kd.C_drewN ?_ _)|(with_reducible refine Kd.C_drew ?_)));(case side2=>exact HC0_0.out);rintro e w29 ⟨rfl,hb⟩;refine ⟨_,rfl,?_⟩;have n0_:=Aside0.mk (Kd.R_below (by (with_reducible repeat (first|apply Kd.R_alloc|apply Kd.R_drewN|apply Kd.R_drew));exact HO_7.out) hb);have n1_:=Aside0.mk (Kd.R_below (by (with_reducible repeat (first|apply Kd.R_alloc|apply Kd.R_drewN|apply Kd.R_drew));exact HO_38.out) hb);have n2_:=Aside0.mk (blk_below (g:=gb293) (o:=.cells #[.slice (some ad295) l0_0.length c0_0] 27 (0,0)) (by (with_reducible repeat (first|refine kN ?_ _|refine kD ?_|refine kA ?_ _));exact BK293.out) hb);have n3_:=Aside0.mk (below_step (by repeat (first|(with_reducible first|exact HB.out|apply wA|apply wN|apply wD|refine wS ?_ GE293.out)|exact HB.out)) hb);clear HO_7;clear HO_38;clear BK293;clear HB;have HO_7:=n0_;have HO_38:=n1_;have BK293:=n2_;have HB:=n3_;clear n0_ n1_ n2_ n3_;(try clear hb);(try clear hb2);(try clear hk);(try clear hi))|((with_reducible refine gate_builtin (b:=.append) (xs:=#[.tmp 48,.tmp 50]) rfl ?_);(try (refine gate_guard (by rfl) ?_;dsimp only));at_builtin;refine Kd.R_append (Kd.int .i64) (w0:=w) w.heap.size rfl (.tmp 48) (.tmp 50) 22 3 (.int .i64 0) 8 rfl Try.underlying22 info3 rfl (by decide) (by omega) u7 x7_2 (rd t298 x40_2) [.int .i64 (rd t298 x40_2)] (fun k_=>some k_ ≠ (.slice (some ad301) t298.length co21:Value).ownBlock) (fun _=>False) rfl rfl ?aP (fun _ hk=>hk.elim) ?aF ?aO ?aB ?aS ?aL ?_;(case aP=>exact rfl);(case aB=>exact (by repeat (first|(with_reducible first|exact HB.out|apply wA|apply wN|apply wD|refine wS ?_ GE293.out)|exact HB.out)));(case aF=>exact (fun k_ hk=>Kd.fresh' (Kd.R_lt (by (with_reducible repeat (first|apply Kd.R_alloc|apply Kd.R_drewN|apply Kd.R_drew));exact HO_38.out)) k_ hk));(case aO=>exact (by (with_reducible repeat (first|apply Kd.R_alloc|apply Kd.R_drewN|apply Kd.R_drew));exact HO_7.out));(case aS=>exact (below_size (by repeat (first|(with_reducible first|exact HB.out|apply wA|apply wN|apply wD|refine wS ?_ GE293.out)|exact HB.out))));(case aL=>have:=LMc27.out;omega);intro v304 w30 ho hb hg hat;rw [← Ny303.out] at ho;have n0_:=Aside0.mk (Kd.R_after (ok:=(fun _=>True)) (by (with_reducible repeat (first|apply Kd.R_alloc|apply Kd.R_drewN|apply Kd.R_drew));exact Kd.R_mono HO_38.out (fun _ hk=>⟨trivial,hk⟩)) hg hat);have n1_:=Aside0.mk (blk_grown (g:=gb293) (o:=.cells #[.slice (some ad295) l0_0.length c0_0] 27 (0,0)) (by (with_reducible repeat (first|refine kN ?_ _|refine kD ?_|refine kA ?_ _));exact BK293.out) hg (Kd.R_ne HO_7.out BK293.out (by decide)));have n2_:=Aside0.mk (hb);have n3_:=Aside0.mk (ho);clear HO_38;clear BK293;clear HB;clear HO_7;have HO_38:=n0_;have BK293:=n1_;have HB:=n2_;have HO305:=n3_;clear n0_ n1_ n2_ n3_;clear ho hb hg hat))
               go_roundg k2
               case measure=>have:=HJ4.out;have:=HK2.out;omega
               case rel=>exact ⟨(y303),(wrap64 (x40_2+1)),(by first|rfl|(simp;done)|(simp [*];done)),H',⟨by have:=HJ4.out;have:=HK2.out;omega⟩,⟨by (with_reducible repeat (first|apply Kd.R_alloc|apply Kd.R_drewN|apply Kd.R_drew));exact HO305.out⟩,⟨by (with_reducible repeat (first|apply Kd.R_alloc|apply Kd.R_drewN|apply Kd.R_drew));exact Kd.R_mono HO_38.out (fun _ hk=>hk.2)⟩,⟨by (with_reducible repeat (first|refine kN ?_ _|refine kD ?_|refine kA ?_ _));exact BK293.out⟩,⟨by repeat (first|(with_reducible first|exact HB.out|apply wA|apply wN|apply wD|refine wS ?_ GE293.out)|exact HB.out)⟩⟩
              ·rw [if_neg c27] at H
               exact absurd H (by simp)
             ·replace c26:=Bool.eq_false_iff.mpr c26
              subst c26
              have H1:(blocking_Least.l0 k2 a1 x7_2 t298 (t298.length:Int) (wrap64 (x40_2+1)) l0_0)=some (r1,r2):=by rw [if_neg (show ¬ (false=true) by decide)] at H;exact H
              clear H
              have H:=H1
              clear H1
              have H':=Aside0.mk H
              clear H
              have p301:0≤(x40_2:Int):=of_decide_eq_true (by first|(with_reducible assumption)|assumption)
              have q301:x40_2 < (t298.length:Int):=of_decide_eq_true (by first|(with_reducible assumption)|assumption)
              obtain ⟨ad301,e301,hx301_0⟩:=Kd.at_int (Kd.R_reads' HO_38.out).2.2 x40_2 p301 q301
              cases e301
              replace p301:=eq_true p301
              replace q301:=eq_true q301
              have hcz31_0:wr.cell? ⟨gb293,0,none⟩=some (.slice (some ad295) l0_0.length c0_0):=(kC BK293.out 0).trans rfl
              have hfz31_0:=kF BK293.out 0
              go_wp2_with (first|((with_reducible refine gate_callee (f:=19) rfl ?_);refine goesL_ (some 47) rfl rfl Try.func19 (by kernel_rfl) rfl #[.agg #[.slice (some ad295) l0_0.length c0_0],.int .i64 a1,.int .i64 (rd t298 x40_2)] rfl (by (try simp only [List.map_toArray,List.map_cons,List.map_nil]);first|done|rfl|(simp only [List.length_drop,List.length_take];rfl)) ?_;(with_reducible refine (blocking_Blocks.calls k2 _ _ l0_0 a1 (rd t298 x40_2) false _ ?side1 ?side2 A25.out).mono ?_);(case side1=>repeat (first|exact (Kd.C_below HR0_0.out HB.out)|(with_reducible refine Kd.C_alloc ?_ _)|(with_reducible refine Kd.C_drewN ?_ _)|(with_reducible refine Kd.C_drew ?_)));(case side2=>exact HC0_0.out);rintro e w32 ⟨rfl,hb⟩;refine ⟨_,rfl,?_⟩;have n0_:=Aside0.mk (Kd.R_below (by (with_reducible repeat (first|apply Kd.R_alloc|apply Kd.R_drewN|apply Kd.R_drew));exact HO_7.out) hb);have n1_:=Aside0.mk (Kd.R_below (by (with_reducible repeat (first|apply Kd.R_alloc|apply Kd.R_drewN|apply Kd.R_drew));exact HO_38.out) hb);have n2_:=Aside0.mk (blk_below (g:=gb293) (o:=.cells #[.slice (some ad295) l0_0.length c0_0] 27 (0,0)) (by (with_reducible repeat (first|refine kN ?_ _|refine kD ?_|refine kA ?_ _));exact BK293.out) hb);have n3_:=Aside0.mk (below_step (by repeat (first|(with_reducible first|exact HB.out|apply wA|apply wN|apply wD|refine wS ?_ GE293.out)|exact HB.out)) hb);clear HO_7;clear HO_38;clear BK293;clear HB;have HO_7:=n0_;have HO_38:=n1_;have BK293:=n2_;have HB:=n3_;clear n0_ n1_ n2_ n3_;(try clear hb);(try clear hb2);(try clear hk);(try clear hi)))
              go_roundg k2
              case measure=>have:=HJ4.out;have:=HK2.out;omega
              case rel=>exact ⟨(x7_2),(wrap64 (x40_2+1)),(by first|rfl|(simp;done)|(simp [*];done)),H',⟨by have:=HJ4.out;have:=HK2.out;omega⟩,⟨by (with_reducible repeat (first|apply Kd.R_alloc|apply Kd.R_drewN|apply Kd.R_drew));exact HO_7.out⟩,⟨by (with_reducible repeat (first|apply Kd.R_alloc|apply Kd.R_drewN|apply Kd.R_drew));exact HO_38.out⟩,⟨by (with_reducible repeat (first|refine kN ?_ _|refine kD ?_|refine kA ?_ _));exact BK293.out⟩,⟨by repeat (first|(with_reducible first|exact HB.out|apply wA|apply wN|apply wD|refine wS ?_ GE293.out)|exact HB.out)⟩⟩
            ·rw [if_neg c24] at H
             exact absurd H (by simp)
           ·rw [if_neg c23] at H
            exact absurd H (by simp)
          ·rw [if_neg c22] at H
           have c22b0:decide (x40_2 < (t298.length:Int))=false:=decide_eq_false c22
           clear c22
           replace H:=Option.bind_eq_some_iff.mp H
           obtain ⟨t306,A330,H⟩:=H
           replace H:(some (t306,0))=some (r1,r2):=H
           have A33:=Aside0.mk A330
           clear A330
           simp only [Option.some.injEq,Prod.mk.injEq] at H
           obtain ⟨rfl,rfl⟩:=H
           obtain ⟨Ao34,co34,eo34⟩:=Kd.R_slice HO_7.out
           subst eo34
           go_wp2_with (first|((with_reducible refine gate_callee (f:=66) rfl ?_);refine goesL_ (some 54) rfl rfl Try.func66 (by kernel_rfl) rfl #[.slice Ao34 x7_2.length co34] rfl (by (try simp only [List.map_toArray,List.map_cons,List.map_nil]);first|done|rfl|(simp only [List.length_drop,List.length_take];rfl)) ?_;(with_reducible refine (nodeset_Least.calls _ _ x7_2 t306 _ ?side1 ?side2 A33.out).mono ?_);(case side1=>repeat (first|exact (Kd.R_reads' HO_7.out).2.2|(with_reducible refine Kd.C_alloc ?_ _)|(with_reducible refine Kd.C_drewN ?_ _)|(with_reducible refine Kd.C_drew ?_)));(case side2=>exact (Kd.R_reads' HO_7.out).2.1);rintro e w35 ⟨v307,rfl,ho0,hb⟩;refine ⟨_,rfl,?_⟩;have n0_:=Aside0.mk (Kd.R_elder' (by (with_reducible repeat (first|apply Kd.R_alloc|apply Kd.R_drewN|apply Kd.R_drew));exact HO_7.out) (Kd.R_base ho0) hb);have n1_:=Aside0.mk (Kd.R_elder' (by (with_reducible repeat (first|apply Kd.R_alloc|apply Kd.R_drewN|apply Kd.R_drew));exact HO_38.out) (Kd.R_base ho0) hb);have n2_:=Aside0.mk (Kd.R_lower (Kd.R_new' (Kd.R_new' ho0 (Kd.R_lt (by (with_reducible repeat (first|apply Kd.R_alloc|apply Kd.R_drewN|apply Kd.R_drew));exact HO_7.out))) (Kd.R_lt (by (with_reducible repeat (first|apply Kd.R_alloc|apply Kd.R_drewN|apply Kd.R_drew));exact HO_38.out))) (below_size (by repeat (first|(with_reducible first|exact HB.out|apply wA|apply wN|apply wD|refine wS ?_ GE293.out)|exact HB.out))));have n3_:=Aside0.mk (blk_below (g:=gb293) (o:=.cells #[.slice (some ad295) l0_0.length c0_0] 27 (0,0)) (by (with_reducible repeat (first|refine kN ?_ _|refine kD ?_|refine kA ?_ _));exact BK293.out) hb);have n4_:=Aside0.mk (below_step (by repeat (first|(with_reducible first|exact HB.out|apply wA|apply wN|apply wD|refine wS ?_ GE293.out)|exact HB.out)) hb);clear HO_7;clear HO_38;clear BK293;clear HB;have HO_7:=n0_;have HO_38:=n1_;have HO308:=n2_;have BK293:=n3_;have HB:=n4_;clear n0_ n1_ n2_ n3_ n4_;(try clear hb);(try clear hb2);(try clear hk);(try clear hi);(try clear ho0)))
           go_ret2
           exact ⟨_,by first|rfl|(simp [errW_none,errW_some] <;> rfl)|(simp [*,errW_none,errW_some] <;> rfl),by (with_reducible repeat (first|apply Kd.R_alloc|apply Kd.R_drewN|apply Kd.R_drew));exact Kd.R_mono HO308.out (fun _ hk=>trivial),by repeat (first|(with_reducible first|exact HB.out|apply wA|apply wN|apply wD|refine wS ?_ GE293.out)|exact HB.out)⟩
       ·replace c15:=Bool.eq_false_iff.mpr c15
        subst c15
        have H1:(some (([]:List Int),10))=some (r1,r2):=by rw [if_neg (show ¬ (false=true) by decide)] at H;exact H
        clear H
        have H:=H1
        clear H1
        simp only [Option.some.injEq,Prod.mk.injEq] at H
        obtain ⟨rfl,rfl⟩:=H
        have hcz36_0:wc.cell? ⟨gb293,0,none⟩=some (.slice A0_0 l0_0.length c0_0):=(kC BK293.out 0).trans rfl
        have hfz36_0:=kF BK293.out 0
        have p295:0≤(a1:Int):=of_decide_eq_true (by first|(with_reducible assumption)|assumption)
        have q295:a1 < (l0_0.length:Int):=of_decide_eq_true (by first|(with_reducible assumption)|assumption)
        obtain ⟨ad295,A295_2,c295_2,A295_3,c295_3,e295,hx295_0,hx295_1,hx295_2,hx295_3,hl295_2,hi295_2,hl295_3,hi295_3⟩:=at_T34 HR0_0.out a1 p295 q295
        (try rw [← Nbq14.out] at hx295_0)
        cases e295
        replace hx295_0:=(HB.out.cell (World.block_lt_of_cell? w _ hx295_0)).trans hx295_0
        replace hx295_1:=(HB.out.cell (World.block_lt_of_cell? w _ hx295_1)).trans hx295_1
        replace hx295_2:=(HB.out.cell (World.block_lt_of_cell? w _ hx295_2)).trans hx295_2
        replace hx295_3:=(HB.out.cell (World.block_lt_of_cell? w _ hx295_3)).trans hx295_3
        have HR295_2:=Aside0.mk hi295_2
        have HC295_2:=Aside0.mk hl295_2
        clear hi295_2 hl295_2
        have HR295_3:=Aside0.mk hi295_3
        have HC295_3:=Aside0.mk hl295_3
        clear hi295_3 hl295_3
        replace p295:=eq_true p295
        replace q295:=eq_true q295
        go_wp2
        go_ret2
        exact ⟨_,by first|rfl|(simp [errW_none,errW_some] <;> rfl)|(simp [*,errW_none,errW_some] <;> rfl),by first|exact Kd.R_nil _ _ _ _ _|exact Kd.N_nil _ _ _ _ _|exact Kd.V_nil _ _ _ _ _|exact Kd.Q_nil _ _ _ _ _|exact Kd.S_nil _ _ _ _ _,by repeat (first|(with_reducible first|exact HB.out|apply wA|apply wN|apply wD|refine wS ?_ GE293.out)|exact HB.out)⟩
      ·rw [if_neg c13] at H
       exact absurd H (by simp)
     ·rw [if_neg c12] at H
      exact absurd H (by simp)
 ·rw [if_neg c4] at H
  have c4b0:(t294 == 0)=false:=beq_eq_false_iff_ne.mpr c4
  have c4b1:(t294 != 0)=true:=bne_iff_ne.mpr c4
  simp only [Option.some.injEq,Prod.mk.injEq] at H
  obtain ⟨rfl,rfl⟩:=H
  go_enter Try.func21,Try.ntmps21
  go_wp2_with (first|((with_reducible refine gate_dst (N:=2) rfl ?_);(try (refine gate_guard (by rfl) ?_;dsimp only));refine box_event ?hg (N:=2) ?hd (cs:=#[.slice A0_0 l0_0.length c0_0]) (t:=27) ?hr ?_;(case hd=>rfl);(case hg=>rfl);(case hr=>first|(go_simp;done)|(go_simp;rfl));intro gb293 hg w37 hbox hb;have n0_:=Aside0.mk (below_step (by repeat (first|(with_reducible first|exact HB.out|apply wA|apply wN|apply wD)|exact HB.out)) hb);have n1_:=Aside0.mk (hbox);have n2_:=Aside0.mk ((by rw [hg];exact (below_size (by repeat (first|(with_reducible first|exact HB.out|apply wA|apply wN|apply wD)|exact HB.out))):w.heap.size≤gb293));have n3_:=Aside0.mk ((by rw [hg];exact (below_size (by repeat (first|(with_reducible first|exact HB.out|apply wA|apply wN|apply wD)|exact HB.out))):w.heap.size≤gb293));clear HB;have HB:=n0_;have BK293:=n1_;have GW293:=n2_;have GE293:=n3_;clear n0_ n1_ n2_ n3_;clear hb hbox hg;have hcz38_0:w37.cell? ⟨gb293,0,none⟩=some (.slice A0_0 l0_0.length c0_0):=(kC BK293.out 0).trans rfl;have hfz38_0:=kF BK293.out 0)|((with_reducible refine gate_callee (f:=63) rfl ?_);refine goesL_ (some 11) rfl rfl Try.func63 (by kernel_rfl) rfl #[.agg #[.slice A0_0 l0_0.length c0_0]] rfl (by (try simp only [List.map_toArray,List.map_cons,List.map_nil]);first|done|rfl|(simp only [List.length_drop,List.length_take];rfl)) ?_;(with_reducible refine (configuration_Valid.calls k _ _ l0_0 t294 _ ?side1 ?side2 A3.out).mono ?_);(case side1=>repeat (first|exact (Kd.C_below HR0_0.out HB.out)|(with_reducible refine Kd.C_alloc ?_ _)|(with_reducible refine Kd.C_drewN ?_ _)|(with_reducible refine Kd.C_drew ?_)));(case side2=>exact HC0_0.out);rintro e w39 ⟨rfl,hb⟩;refine ⟨_,rfl,?_⟩;have n0_:=Aside0.mk (blk_below (g:=gb293) (o:=.cells #[.slice A0_0 l0_0.length c0_0] 27 (0,0)) (by (with_reducible repeat (first|refine kN ?_ _|refine kD ?_|refine kA ?_ _));exact BK293.out) hb);have n1_:=Aside0.mk (below_step (by repeat (first|(with_reducible first|exact HB.out|apply wA|apply wN|apply wD|refine wS ?_ GE293.out)|exact HB.out)) hb);clear BK293;clear HB;have BK293:=n0_;have HB:=n1_;clear n0_ n1_;(try clear hb);(try clear hb2);(try clear hk);(try clear hi)))
  go_ret2
  exact ⟨_,by first|rfl|(simp [errW_none,errW_some] <;> rfl)|(simp [*,errW_none,errW_some] <;> rfl),by first|exact Kd.R_nil _ _ _ _ _|exact Kd.N_nil _ _ _ _ _|exact Kd.V_nil _ _ _ _ _|exact Kd.Q_nil _ _ _ _ _|exact Kd.S_nil _ _ _ _ _,by repeat (first|(with_reducible first|exact HB.out|apply wA|apply wN|apply wD|refine wS ?_ GE293.out)|exact HB.out)⟩
end Go.Proofs.Ytkjlcbfjllpcnaa.X
namespace Go.Proofs.Ytkjlcbfjllpcnaa.X
open Go.RowKit Go.Proofs.YtkjlcbfjllpcnaaW.PrintWords Go.Proofs.YtkjlcbfjllpcnaaW.PrintLast Go.Proofs.YtkjlcbfjllpcnaaW.PrintMore
set_option linter.unusedVariables false
def mem3:S34:=⟨true,⟨2,[0,1,2],[]⟩⟩
def trustquorumlaw11_three.f:Option (List S34):=some [mem3,mem3,mem3]
theorem R_lit_ints (W : World) (base : Nat) (ok : Nat → Prop) (xs : List Int) (hb : base ≤ W.heap.size) (hok : ok W.heap.size) (hm : xs.length ≤ 9223372036854775807) :
    RI (W.alloc (.cells (nums .i64 xs).toArray 3)) base ok (.slice (some ⟨W.heap.size, 0, none⟩) xs.length xs.length) xs :=
  R_of_own (fun k hk => by have : W.heap.size = k := by simpa [Value.ownBlock] using hk
                           subst this; exact hok) (own_lit W base 3 .i64 xs hb hm)
theorem R_elderN {α:Type} {d:Kd α} {e base:Nat} {ok:Nat→Prop} {W:World} {v:Value} {xs:List α} (h:d.R e W base ok v xs) (u:Value) (hu:∀ k,u.ownBlock=some k→W.heap.size≤k):d.R e W base (fun k=>True∧some k ≠ u.ownBlock) v xs :=
 Kd.R_mono (Kd.R_bound h) (fun k hk=>⟨trivial,fun he=>by have:=hu k he.symm;have:=hk.2.2.1;omega⟩)
set_option maxHeartbeats 4000000 in
theorem trustquorumlaw11_three.calls (r : List S34) (w : World) (h : trustquorumlaw11_three.f = some r) : Calls Try.prog 55 #[] w fun e w' => ∃ v0_ : Value, e = .returned (.agg #[v0_]) ∧ Kd.R k34 34 w' w.heap.size (fun _ => True) v0_ r ∧ Below w.heap.size w w' := by
  obtain rfl := Option.some.inj h
  have hu32 := Try.underlying32
  have hu27 := Try.underlying27
  have hu34 := Try.underlying34
  have hu3 := Try.underlying3
  go_enter Try.func55, Try.ntmps55
  go_wp2
  refine bodyPost_ret (results_cell_row rfl _ _ w.heap.size 27 #[.slice (some ⟨w.heap.size + 1 + 1 + 1, 0, none⟩) 3 3] (0, 0) _ rfl (kA (kA (kA (heap_alloc_new _ _) _) _) _) Try.underlying27 rfl (by kernel_rfl)) rfl ?_
  refine ⟨_, rfl, ?_, wA (wA (wA (wA (Below.refl _ _) _) _) _) _⟩
  have h1 := R_lit_ints (w.alloc (.cells #[.slice (some ⟨w.heap.size + 1 + 1 + 1, 0, none⟩) 3 3] 27)) w.heap.size (fun _ => True) [0, 1, 2] (by simp) trivial (by simp)
  have h2 := Kd.R_alloc h1 (.cells #[.int .i64 2, .slice (some ⟨w.heap.size + 1, 0, none⟩) 3 3, .slice none 0 0] 32)
  obtain ⟨W, hW⟩ : ∃ W, W = ((w.alloc (.cells #[.slice (some ⟨w.heap.size + 1 + 1 + 1, 0, none⟩) 3 3] 27)).alloc (.cells #[.int .i64 0, .int .i64 1, .int .i64 2] 3)).alloc (.cells #[.int .i64 2, .slice (some ⟨w.heap.size + 1, 0, none⟩) 3 3, .slice none 0 0] 32) := ⟨_, rfl⟩
  have hs : W.heap.size = w.heap.size + 1 + 1 + 1 := by rw [hW]; simp
  have h3 : RI W w.heap.size (fun _ => True) (.slice (some ⟨w.heap.size + 1, 0, none⟩) 3 3) [0, 1, 2] := by rw [hW]; simpa [nums] using h2
  have h4 := R_elderN h3 (.slice (some ⟨W.heap.size, 0, none⟩) 3 3) (fun k hk => by have : W.heap.size = k := by simpa [Value.ownBlock] using hk
                                                                                    omega)
  rw [← hW, ← hs]
  have hM : ∀ W', Below W.heap.size W W' → k34.M W' w.heap.size (fun k => True ∧ some k ≠ (Value.slice (some ⟨W.heap.size, 0, none⟩) 3 3).ownBlock) mem3 [.bool true, .int .i64 2, .slice (some ⟨w.heap.size + 1, 0, none⟩) 3 3, .slice none 0 0] := fun W' hb =>
    k34_mkM W' w.heap.size _ mem3 (Kd.R_below h4 hb) (Kd.R_nil _ _ _ _ _)
  have hM' := hM (W.alloc (.cells #[.bool true, .int .i64 2, .slice (some ⟨w.heap.size + 1, 0, none⟩) 3 3, .slice none 0 0, .bool true, .int .i64 2, .slice (some ⟨w.heap.size + 1, 0, none⟩) 3 3, .slice none 0 0, .bool true, .int .i64 2, .slice (some ⟨w.heap.size + 1, 0, none⟩) 3 3, .slice none 0 0] 34)) (wA (Below.refl _ _) _)
  exact ⟨fun _ _ => trivial, OwnRow.lit W w.heap.size (Reps.snoc (Reps.snoc (Reps.snoc (Reps.none _ 4) hM' rfl) hM' rfl) hM' rfl) (by omega) (by simp)⟩
end Go.Proofs.Ytkjlcbfjllpcnaa.X
namespace Go.Proofs.Ytkjlcbfjllpcnaa.X
open Go.RowKit Go.Proofs.YtkjlcbfjllpcnaaW.PrintWords Go.Proofs.YtkjlcbfjllpcnaaW.PrintLast Go.Proofs.YtkjlcbfjllpcnaaW.PrintMore
attribute [local go_sem] max2_int min2_int max_two min_two max_three min_three max_four min_four
set_option linter.unusedVariables false
set_option linter.unusedSimpArgs false
def trustquorumlaw11_awake.f (k:Nat) :Option (Bool):=(trustquorumlaw11_three.f).bind fun t331=>((blocking_Least.f k t331 0).bind fun bt334=>((trustquorumlaw11_three.f).bind fun t338=>((blocking_Cascade.f k t338 6).bind fun bt341=>((trustquorumlaw11_three.f).bind fun t345=>((blocking_Cascade.f k t345 2).bind fun bt348=>(if bt334.2=0 then ((trustquorummake_Ints.f k bt334.1 (([6]:List Int))).bind fun t355=>(if t355=true then ((trustquorummake_Ints.f k bt341.1 (([0]:List Int))).bind fun t359=>(if t359=true then (if bt341.2=7 then (if (bt348.1.length:Int)=0 then (if bt348.2=2 then ((trustquorumlaw11_three.f).bind fun t360=>((blocking_Blocks.f k t360 0 6).bind fun t363=>(some t363))) else (some false)) else (some false)) else (some false)) else (some false))) else (some false))) else (some false)))))))
set_option maxHeartbeats 8000000 in
set_option maxRecDepth 100000 in
theorem trustquorumlaw11_awake.calls (k:Nat)  (w:World) (h:trustquorumlaw11_awake.f k =some true) :
  Calls Try.prog 17 #[] w fun e w'=>e=.returned (.bool true)∧Below w.heap.size w w':=by
 have HB:=Aside0.mk (Below.refl w.heap.size w)
 have H:((trustquorumlaw11_three.f).bind fun t331=>((blocking_Least.f k t331 0).bind fun bt334=>((trustquorumlaw11_three.f).bind fun t338=>((blocking_Cascade.f k t338 6).bind fun bt341=>((trustquorumlaw11_three.f).bind fun t345=>((blocking_Cascade.f k t345 2).bind fun bt348=>(if bt334.2=0 then ((trustquorummake_Ints.f k bt334.1 (([6]:List Int))).bind fun t355=>(if t355=true then ((trustquorummake_Ints.f k bt341.1 (([0]:List Int))).bind fun t359=>(if t359=true then (if bt341.2=7 then (if (bt348.1.length:Int)=0 then (if bt348.2=2 then ((trustquorumlaw11_three.f).bind fun t360=>((blocking_Blocks.f k t360 0 6).bind fun t363=>(some t363))) else (some false)) else (some false)) else (some false)) else (some false))) else (some false))) else (some false))))))))=some true:=h
 clear h
 replace H:=Option.bind_eq_some_iff.mp H
 obtain ⟨t331,A10,H⟩:=H
 replace H:((blocking_Least.f k t331 0).bind fun bt334=>((trustquorumlaw11_three.f).bind fun t338=>((blocking_Cascade.f k t338 6).bind fun bt341=>((trustquorumlaw11_three.f).bind fun t345=>((blocking_Cascade.f k t345 2).bind fun bt348=>(if bt334.2=0 then ((trustquorummake_Ints.f k bt334.1 (([6]:List Int))).bind fun t355=>(if t355=true then ((trustquorummake_Ints.f k bt341.1 (([0]:List Int))).bind fun t359=>(if t359=true then (if bt341.2=7 then (if (bt348.1.length:Int)=0 then (if bt348.2=2 then ((trustquorumlaw11_three.f).bind fun t360=>((blocking_Blocks.f k t360 0 6).bind fun t363=>(some t363))) else (some false)) else (some false)) else (some false)) else (some false))) else (some false))) else (some false)))))))=some true:=H
 have A1:=Aside0.mk A10
 clear A10
 replace H:=Option.bind_eq_some_iff.mp H
 obtain ⟨⟨t334,t337⟩,A20,H⟩:=H
 replace H:((trustquorumlaw11_three.f).bind fun t338=>((blocking_Cascade.f k t338 6).bind fun bt341=>((trustquorumlaw11_three.f).bind fun t345=>((blocking_Cascade.f k t345 2).bind fun bt348=>(if t337=0 then ((trustquorummake_Ints.f k t334 (([6]:List Int))).bind fun t355=>(if t355=true then ((trustquorummake_Ints.f k bt341.1 (([0]:List Int))).bind fun t359=>(if t359=true then (if bt341.2=7 then (if (bt348.1.length:Int)=0 then (if bt348.2=2 then ((trustquorumlaw11_three.f).bind fun t360=>((blocking_Blocks.f k t360 0 6).bind fun t363=>(some t363))) else (some false)) else (some false)) else (some false)) else (some false))) else (some false))) else (some false))))))=some true:=H
 have A2:=Aside0.mk A20
 clear A20
 replace H:=Option.bind_eq_some_iff.mp H
 obtain ⟨t338,A30,H⟩:=H
 replace H:((blocking_Cascade.f k t338 6).bind fun bt341=>((trustquorumlaw11_three.f).bind fun t345=>((blocking_Cascade.f k t345 2).bind fun bt348=>(if t337=0 then ((trustquorummake_Ints.f k t334 (([6]:List Int))).bind fun t355=>(if t355=true then ((trustquorummake_Ints.f k bt341.1 (([0]:List Int))).bind fun t359=>(if t359=true then (if bt341.2=7 then (if (bt348.1.length:Int)=0 then (if bt348.2=2 then ((trustquorumlaw11_three.f).bind fun t360=>((blocking_Blocks.f k t360 0 6).bind fun t363=>(some t363))) else (some false)) else (some false)) else (some false)) else (some false))) else (some false))) else (some false)))))=some true:=H
 have A3:=Aside0.mk A30
 clear A30
 replace H:=Option.bind_eq_some_iff.mp H
 obtain ⟨⟨t341,t344⟩,A40,H⟩:=H
 replace H:((trustquorumlaw11_three.f).bind fun t345=>((blocking_Cascade.f k t345 2).bind fun bt348=>(if t337=0 then ((trustquorummake_Ints.f k t334 (([6]:List Int))).bind fun t355=>(if t355=true then ((trustquorummake_Ints.f k t341 (([0]:List Int))).bind fun t359=>(if t359=true then (if t344=7 then (if (bt348.1.length:Int)=0 then (if bt348.2=2 then ((trustquorumlaw11_three.f).bind fun t360=>((blocking_Blocks.f k t360 0 6).bind fun t363=>(some t363))) else (some false)) else (some false)) else (some false)) else (some false))) else (some false))) else (some false))))=some true:=H
 have A4:=Aside0.mk A40
 clear A40
 replace H:=Option.bind_eq_some_iff.mp H
 obtain ⟨t345,A50,H⟩:=H
 replace H:((blocking_Cascade.f k t345 2).bind fun bt348=>(if t337=0 then ((trustquorummake_Ints.f k t334 (([6]:List Int))).bind fun t355=>(if t355=true then ((trustquorummake_Ints.f k t341 (([0]:List Int))).bind fun t359=>(if t359=true then (if t344=7 then (if (bt348.1.length:Int)=0 then (if bt348.2=2 then ((trustquorumlaw11_three.f).bind fun t360=>((blocking_Blocks.f k t360 0 6).bind fun t363=>(some t363))) else (some false)) else (some false)) else (some false)) else (some false))) else (some false))) else (some false)))=some true:=H
 have A5:=Aside0.mk A50
 clear A50
 replace H:=Option.bind_eq_some_iff.mp H
 obtain ⟨⟨t348,t351⟩,A60,H⟩:=H
 replace H:(if t337=0 then ((trustquorummake_Ints.f k t334 (([6]:List Int))).bind fun t355=>(if t355=true then ((trustquorummake_Ints.f k t341 (([0]:List Int))).bind fun t359=>(if t359=true then (if t344=7 then (if (t348.length:Int)=0 then (if t351=2 then ((trustquorumlaw11_three.f).bind fun t360=>((blocking_Blocks.f k t360 0 6).bind fun t363=>(some t363))) else (some false)) else (some false)) else (some false)) else (some false))) else (some false))) else (some false))=some true:=H
 have A6:=Aside0.mk A60
 clear A60
 by_cases c7:t337=0
 ·rw [if_pos c7] at H
  have c7b0:(t337 == 0)=true:=beq_iff_eq.mpr c7
  have c7b1:(t337 != 0)=false:=bne_eq_false_iff_eq.mpr c7
  clear c7
  obtain ⟨y352,hy352⟩:∃ y_:List Int,y_=(([6]:List Int)):=⟨_,rfl⟩
  replace H:((trustquorummake_Ints.f k t334 y352).bind fun t355=>(if t355=true then ((trustquorummake_Ints.f k t341 (([0]:List Int))).bind fun t359=>(if t359=true then (if t344=7 then (if (t348.length:Int)=0 then (if t351=2 then ((trustquorumlaw11_three.f).bind fun t360=>((blocking_Blocks.f k t360 0 6).bind fun t363=>(some t363))) else (some false)) else (some false)) else (some false)) else (some false))) else (some false)))=some true:=by first|(rw [hy352];with_reducible exact H)|(have H2_:=(Option.bind_some _ _).symm.trans H;rw [hy352];with_reducible exact H2_)|(have H2_:=(Option.bind_some _ _).symm.trans H;with_reducible exact H2_)|with_reducible exact H|(rw [hy352];exact H)|exact H
  have Ny352:=Aside0.mk hy352
  clear hy352
  replace H:=Option.bind_eq_some_iff.mp H
  obtain ⟨t355,A80,H⟩:=H
  replace H:(if t355=true then ((trustquorummake_Ints.f k t341 (([0]:List Int))).bind fun t359=>(if t359=true then (if t344=7 then (if (t348.length:Int)=0 then (if t351=2 then ((trustquorumlaw11_three.f).bind fun t360=>((blocking_Blocks.f k t360 0 6).bind fun t363=>(some t363))) else (some false)) else (some false)) else (some false)) else (some false))) else (some false))=some true:=H
  have A8:=Aside0.mk A80
  clear A80
  by_cases c9:t355=true
  ·subst c9
   have H1:((trustquorummake_Ints.f k t341 (([0]:List Int))).bind fun t359=>(if t359=true then (if t344=7 then (if (t348.length:Int)=0 then (if t351=2 then ((trustquorumlaw11_three.f).bind fun t360=>((blocking_Blocks.f k t360 0 6).bind fun t363=>(some t363))) else (some false)) else (some false)) else (some false)) else (some false)))=some true:=by rw [if_pos rfl] at H;exact H
   clear H
   have H:=H1
   clear H1
   obtain ⟨y356,hy356⟩:∃ y_:List Int,y_=(([0]:List Int)):=⟨_,rfl⟩
   replace H:((trustquorummake_Ints.f k t341 y356).bind fun t359=>(if t359=true then (if t344=7 then (if (t348.length:Int)=0 then (if t351=2 then ((trustquorumlaw11_three.f).bind fun t360=>((blocking_Blocks.f k t360 0 6).bind fun t363=>(some t363))) else (some false)) else (some false)) else (some false)) else (some false)))=some true:=by first|(rw [hy356];with_reducible exact H)|(have H2_:=(Option.bind_some _ _).symm.trans H;rw [hy356];with_reducible exact H2_)|(have H2_:=(Option.bind_some _ _).symm.trans H;with_reducible exact H2_)|with_reducible exact H|(rw [hy356];exact H)|exact H
   have Ny356:=Aside0.mk hy356
   clear hy356
   replace H:=Option.bind_eq_some_iff.mp H
   obtain ⟨t359,A100,H⟩:=H
   replace H:(if t359=true then (if t344=7 then (if (t348.length:Int)=0 then (if t351=2 then ((trustquorumlaw11_three.f).bind fun t360=>((blocking_Blocks.f k t360 0 6).bind fun t363=>(some t363))) else (some false)) else (some false)) else (some false)) else (some false))=some true:=H
   have A10:=Aside0.mk A100
   clear A100
   by_cases c11:t359=true
   ·subst c11
    have H1:(if t344=7 then (if (t348.length:Int)=0 then (if t351=2 then ((trustquorumlaw11_three.f).bind fun t360=>((blocking_Blocks.f k t360 0 6).bind fun t363=>(some t363))) else (some false)) else (some false)) else (some false))=some true:=by rw [if_pos rfl] at H;exact H
    clear H
    have H:=H1
    clear H1
    by_cases c12:t344=7
    ·rw [if_pos c12] at H
     have c12b0:(t344 == 7)=true:=beq_iff_eq.mpr c12
     have c12b1:(t344 != 7)=false:=bne_eq_false_iff_eq.mpr c12
     clear c12
     by_cases c13:(t348.length:Int)=0
     ·rw [if_pos c13] at H
      have c13b0:((t348.length:Int) == 0)=true:=beq_iff_eq.mpr c13
      have c13b1:((t348.length:Int) != 0)=false:=bne_eq_false_iff_eq.mpr c13
      clear c13
      by_cases c14:t351=2
      ·rw [if_pos c14] at H
       have c14b0:(t351 == 2)=true:=beq_iff_eq.mpr c14
       have c14b1:(t351 != 2)=false:=bne_eq_false_iff_eq.mpr c14
       clear c14
       replace H:=Option.bind_eq_some_iff.mp H
       obtain ⟨t360,A150,H⟩:=H
       replace H:((blocking_Blocks.f k t360 0 6).bind fun t363=>(some t363))=some true:=H
       have A15:=Aside0.mk A150
       clear A150
       replace H:=Option.bind_eq_some_iff.mp H
       obtain ⟨t363,A160,H⟩:=H
       replace H:(some t363)=some true:=H
       have A16:=Aside0.mk A160
       clear A160
       have HT:=Aside0.mk (Option.some.inj H)
       clear H
       go_enter Try.func17,Try.ntmps17
       go_wp2_with (first|((with_reducible refine gate_callee (f:=55) rfl ?_);refine goesL_ (some 8) rfl rfl Try.func55 (by kernel_rfl) rfl #[] rfl (by (try simp only [List.map_toArray,List.map_cons,List.map_nil]);first|done|rfl|(simp only [List.length_drop,List.length_take];rfl)) ?_;(with_reducible refine (trustquorumlaw11_three.calls  t331 _ A1.out).mono ?_);rintro e w17 ⟨v332,rfl,ho0,hb⟩;refine ⟨_,rfl,?_⟩;have n0_:=Aside0.mk (Kd.R_lower ho0 (below_size (by repeat (first|(with_reducible first|exact HB.out|apply wA|apply wN|apply wD)|exact HB.out))));have n1_:=Aside0.mk (below_step (by repeat (first|(with_reducible first|exact HB.out|apply wA|apply wN|apply wD)|exact HB.out)) hb);clear HB;have HO333:=n0_;have HB:=n1_;clear n0_ n1_;(try clear hb);(try clear hb2);(try clear hk);(try clear hi);(try clear ho0);obtain ⟨Ao18,co18,eo18⟩:=Kd.R_slice HO333.out;subst eo18)|((with_reducible refine gate_callee (f:=21) rfl ?_);refine goesL_ (some 9) rfl rfl Try.func21 (by kernel_rfl) rfl #[.agg #[.slice Ao18 t331.length co18],.int .i64 0] rfl (by (try simp only [List.map_toArray,List.map_cons,List.map_nil]);first|done|rfl|(simp only [List.length_drop,List.length_take];rfl)) ?_;(with_reducible refine (blocking_Least.calls k _ _ t331 0 t334 t337 _ ?side1 ?side2 A2.out).mono ?_);(case side1=>repeat (first|exact (Kd.R_reads' HO333.out).2.2|(with_reducible refine Kd.C_alloc ?_ _)|(with_reducible refine Kd.C_drewN ?_ _)|(with_reducible refine Kd.C_drew ?_)));(case side2=>exact (Kd.R_reads' HO333.out).2.1);rintro e w19 ⟨v335,rfl,ho0,hb⟩;refine ⟨_,rfl,?_⟩;have n0_:=Aside0.mk (Kd.R_elder' (by (with_reducible repeat (first|apply Kd.R_alloc|apply Kd.R_drewN|apply Kd.R_drew));exact HO333.out) (Kd.R_base ho0) hb);have n1_:=Aside0.mk (Kd.R_lower ho0 (below_size (by repeat (first|(with_reducible first|exact HB.out|apply wA|apply wN|apply wD)|exact HB.out))));have n2_:=Aside0.mk (below_step (by repeat (first|(with_reducible first|exact HB.out|apply wA|apply wN|apply wD)|exact HB.out)) hb);clear HO333;clear HB;have HO333:=n0_;have HO336:=n1_;have HB:=n2_;clear n0_ n1_ n2_;(try clear hb);(try clear hb2);(try clear hk);(try clear hi);(try clear ho0))|((with_reducible refine gate_callee (f:=55) rfl ?_);refine goesL_ (some 13) rfl rfl Try.func55 (by kernel_rfl) rfl #[] rfl (by (try simp only [List.map_toArray,List.map_cons,List.map_nil]);first|done|rfl|(simp only [List.length_drop,List.length_take];rfl)) ?_;(with_reducible refine (trustquorumlaw11_three.calls  t338 _ A3.out).mono ?_);rintro e w20 ⟨v339,rfl,ho0,hb⟩;refine ⟨_,rfl,?_⟩;have n0_:=Aside0.mk (Kd.R_elder' (by (with_reducible repeat (first|apply Kd.R_alloc|apply Kd.R_drewN|apply Kd.R_drew));exact HO333.out) (Kd.R_base ho0) hb);have n1_:=Aside0.mk (Kd.R_below (by (with_reducible repeat (first|apply Kd.R_alloc|apply Kd.R_drewN|apply Kd.R_drew));exact HO336.out) hb);have n2_:=Aside0.mk (Kd.R_lower (Kd.R_new' (Kd.R_new' ho0 (Kd.R_lt (by (with_reducible repeat (first|apply Kd.R_alloc|apply Kd.R_drewN|apply Kd.R_drew));exact HO333.out))) (Kd.R_lt (by (with_reducible repeat (first|apply Kd.R_alloc|apply Kd.R_drewN|apply Kd.R_drew));exact HO336.out))) (below_size (by repeat (first|(with_reducible first|exact HB.out|apply wA|apply wN|apply wD)|exact HB.out))));have n3_:=Aside0.mk (below_step (by repeat (first|(with_reducible first|exact HB.out|apply wA|apply wN|apply wD)|exact HB.out)) hb);clear HO333;clear HO336;clear HB;have HO333:=n0_;have HO336:=n1_;have HO340:=n2_;have HB:=n3_;clear n0_ n1_ n2_ n3_;(try clear hb);(try clear hb2);(try clear hk);(try clear hi);(try clear ho0);obtain ⟨Ao21,co21,eo21⟩:=Kd.R_slice HO340.out;subst eo21)|((with_reducible refine gate_callee (f:=23) rfl ?_);refine goesL_ (some 14) rfl rfl Try.func23 (by kernel_rfl) rfl #[.agg #[.slice Ao21 t338.length co21],.int .i64 6] rfl (by (try simp only [List.map_toArray,List.map_cons,List.map_nil]);first|done|rfl|(simp only [List.length_drop,List.length_take];rfl)) ?_;(with_reducible refine (blocking_Cascade.calls k _ _ t338 6 t341 t344 _ ?side1 ?side2 A4.out).mono ?_);(case side1=>repeat (first|exact (Kd.R_reads' HO340.out).2.2|(with_reducible refine Kd.C_alloc ?_ _)|(with_reducible refine Kd.C_drewN ?_ _)|(with_reducible refine Kd.C_drew ?_)));(case side2=>exact (Kd.R_reads' HO340.out).2.1);rintro e w22 ⟨v342,rfl,ho0,hb⟩;refine ⟨_,rfl,?_⟩;have n0_:=Aside0.mk (Kd.R_elder' (by (with_reducible repeat (first|apply Kd.R_alloc|apply Kd.R_drewN|apply Kd.R_drew));exact HO333.out) (Kd.R_base ho0) hb);have n1_:=Aside0.mk (Kd.R_elder' (by (with_reducible repeat (first|apply Kd.R_alloc|apply Kd.R_drewN|apply Kd.R_drew));exact HO336.out) (Kd.R_base ho0) hb);have n2_:=Aside0.mk (Kd.R_elder' (by (with_reducible repeat (first|apply Kd.R_alloc|apply Kd.R_drewN|apply Kd.R_drew));exact HO340.out) (Kd.R_base ho0) hb);have n3_:=Aside0.mk (Kd.R_lower (Kd.R_new' ho0 (Kd.R_lt (by (with_reducible repeat (first|apply Kd.R_alloc|apply Kd.R_drewN|apply Kd.R_drew));exact HO336.out))) (below_size (by repeat (first|(with_reducible first|exact HB.out|apply wA|apply wN|apply wD)|exact HB.out))));have n4_:=Aside0.mk (below_step (by repeat (first|(with_reducible first|exact HB.out|apply wA|apply wN|apply wD)|exact HB.out)) hb);clear HO333;clear HO336;clear HO340;clear HB;have HO333:=n0_;have HO336:=n1_;have HO340:=n2_;have HO343:=n3_;have HB:=n4_;clear n0_ n1_ n2_ n3_ n4_;(try clear hb);(try clear hb2);(try clear hk);(try clear hi);(try clear ho0))|((with_reducible refine gate_callee (f:=55) rfl ?_);refine goesL_ (some 18) rfl rfl Try.func55 (by kernel_rfl) rfl #[] rfl (by (try simp only [List.map_toArray,List.map_cons,List.map_nil]);first|done|rfl|(simp only [List.length_drop,List.length_take];rfl)) ?_;(with_reducible refine (trustquorumlaw11_three.calls  t345 _ A5.out).mono ?_);rintro e w23 ⟨v346,rfl,ho0,hb⟩;refine ⟨_,rfl,?_⟩;have n0_:=Aside0.mk (Kd.R_elder' (by (with_reducible repeat (first|apply Kd.R_alloc|apply Kd.R_drewN|apply Kd.R_drew));exact HO333.out) (Kd.R_base ho0) hb);have n1_:=Aside0.mk (Kd.R_below (by (with_reducible repeat (first|apply Kd.R_alloc|apply Kd.R_drewN|apply Kd.R_drew));exact HO336.out) hb);have n2_:=Aside0.mk (Kd.R_elder' (by (with_reducible repeat (first|apply Kd.R_alloc|apply Kd.R_drewN|apply Kd.R_drew));exact HO340.out) (Kd.R_base ho0) hb);have n3_:=Aside0.mk (Kd.R_below (by (with_reducible repeat (first|apply Kd.R_alloc|apply Kd.R_drewN|apply Kd.R_drew));exact HO343.out) hb);have n4_:=Aside0.mk (Kd.R_lower (Kd.R_new' (Kd.R_new' (Kd.R_new' (Kd.R_new' ho0 (Kd.R_lt (by (with_reducible repeat (first|apply Kd.R_alloc|apply Kd.R_drewN|apply Kd.R_drew));exact HO333.out))) (Kd.R_lt (by (with_reducible repeat (first|apply Kd.R_alloc|apply Kd.R_drewN|apply Kd.R_drew));exact HO336.out))) (Kd.R_lt (by (with_reducible repeat (first|apply Kd.R_alloc|apply Kd.R_drewN|apply Kd.R_drew));exact HO340.out))) (Kd.R_lt (by (with_reducible repeat (first|apply Kd.R_alloc|apply Kd.R_drewN|apply Kd.R_drew));exact HO343.out))) (below_size (by repeat (first|(with_reducible first|exact HB.out|apply wA|apply wN|apply wD)|exact HB.out))));have n5_:=Aside0.mk (below_step (by repeat (first|(with_reducible first|exact HB.out|apply wA|apply wN|apply wD)|exact HB.out)) hb);clear HO333;clear HO336;clear HO340;clear HO343;clear HB;have HO333:=n0_;have HO336:=n1_;have HO340:=n2_;have HO343:=n3_;have HO347:=n4_;have HB:=n5_;clear n0_ n1_ n2_ n3_ n4_ n5_;(try clear hb);(try clear hb2);(try clear hk);(try clear hi);(try clear ho0);obtain ⟨Ao24,co24,eo24⟩:=Kd.R_slice HO347.out;subst eo24)|((with_reducible refine gate_callee (f:=23) rfl ?_);refine goesL_ (some 19) rfl rfl Try.func23 (by kernel_rfl) rfl #[.agg #[.slice Ao24 t345.length co24],.int .i64 2] rfl (by (try simp only [List.map_toArray,List.map_cons,List.map_nil]);first|done|rfl|(simp only [List.length_drop,List.length_take];rfl)) ?_;(with_reducible refine (blocking_Cascade.calls k _ _ t345 2 t348 t351 _ ?side1 ?side2 A6.out).mono ?_);(case side1=>repeat (first|exact (Kd.R_reads' HO347.out).2.2|(with_reducible refine Kd.C_alloc ?_ _)|(with_reducible refine Kd.C_drewN ?_ _)|(with_reducible refine Kd.C_drew ?_)));(case side2=>exact (Kd.R_reads' HO347.out).2.1);rintro e w25 ⟨v349,rfl,ho0,hb⟩;refine ⟨_,rfl,?_⟩;have n0_:=Aside0.mk (Kd.R_elder' (by (with_reducible repeat (first|apply Kd.R_alloc|apply Kd.R_drewN|apply Kd.R_drew));exact HO333.out) (Kd.R_base ho0) hb);have n1_:=Aside0.mk (Kd.R_elder' (by (with_reducible repeat (first|apply Kd.R_alloc|apply Kd.R_drewN|apply Kd.R_drew));exact HO336.out) (Kd.R_base ho0) hb);have n2_:=Aside0.mk (Kd.R_elder' (by (with_reducible repeat (first|apply Kd.R_alloc|apply Kd.R_drewN|apply Kd.R_drew));exact HO340.out) (Kd.R_base ho0) hb);have n3_:=Aside0.mk (Kd.R_elder' (by (with_reducible repeat (first|apply Kd.R_alloc|apply Kd.R_drewN|apply Kd.R_drew));exact HO343.out) (Kd.R_base ho0) hb);have n4_:=Aside0.mk (Kd.R_elder' (by (with_reducible repeat (first|apply Kd.R_alloc|apply Kd.R_drewN|apply Kd.R_drew));exact HO347.out) (Kd.R_base ho0) hb);have n5_:=Aside0.mk (Kd.R_lower (Kd.R_new' (Kd.R_new' ho0 (Kd.R_lt (by (with_reducible repeat (first|apply Kd.R_alloc|apply Kd.R_drewN|apply Kd.R_drew));exact HO336.out))) (Kd.R_lt (by (with_reducible repeat (first|apply Kd.R_alloc|apply Kd.R_drewN|apply Kd.R_drew));exact HO343.out))) (below_size (by repeat (first|(with_reducible first|exact HB.out|apply wA|apply wN|apply wD)|exact HB.out))));have n6_:=Aside0.mk (below_step (by repeat (first|(with_reducible first|exact HB.out|apply wA|apply wN|apply wD)|exact HB.out)) hb);clear HO333;clear HO336;clear HO340;clear HO343;clear HO347;clear HB;have HO333:=n0_;have HO336:=n1_;have HO340:=n2_;have HO343:=n3_;have HO347:=n4_;have HO350:=n5_;have HB:=n6_;clear n0_ n1_ n2_ n3_ n4_ n5_ n6_;(try clear hb);(try clear hb2);(try clear hk);(try clear hi);(try clear ho0))|((with_reducible refine gate_dst (N:=26) rfl ?_);(try (refine gate_guard (by rfl) ?_;dsimp only));refine Kd.R_lit (Kd.int .i64) _ 3 ?hg (N:=26) ?hd (xs:=([6]:List Int)) (inner:=[.int .i64 6]) (ok:=fun _=>True) (okp:=fun _=>True) ?hr ?hp (fun _ hk=>hk) trivial (Below.refl _ _) (Nat.le_refl _) (by simp) ?_;(case hd=>rfl);(case hg=>rfl);(case hr=>first|(go_simp;done)|(go_simp;rfl));(case hp=>exact (Reps.one (show Kd.M (Kd.int .i64) _ _ _ 6 [.int .i64 6] from rfl) (Reps.none _ _)));intro v353 w26 ho27 hb hg_ hnew_;clear hg_ hnew_;(first|rw [← Ny352.out] at ho27|(simp only [Int.reduceToNat] at ho27;rw [← Ny352.out] at ho27));have n0_:=Aside0.mk (Kd.R_elder' (by (with_reducible repeat (first|apply Kd.R_alloc|apply Kd.R_drewN|apply Kd.R_drew));exact HO333.out) (Kd.R_base ho27) hb);have n1_:=Aside0.mk (Kd.R_elder' (by (with_reducible repeat (first|apply Kd.R_alloc|apply Kd.R_drewN|apply Kd.R_drew));exact HO336.out) (Kd.R_base ho27) hb);have n2_:=Aside0.mk (Kd.R_elder' (by (with_reducible repeat (first|apply Kd.R_alloc|apply Kd.R_drewN|apply Kd.R_drew));exact HO340.out) (Kd.R_base ho27) hb);have n3_:=Aside0.mk (Kd.R_elder' (by (with_reducible repeat (first|apply Kd.R_alloc|apply Kd.R_drewN|apply Kd.R_drew));exact HO343.out) (Kd.R_base ho27) hb);have n4_:=Aside0.mk (Kd.R_elder' (by (with_reducible repeat (first|apply Kd.R_alloc|apply Kd.R_drewN|apply Kd.R_drew));exact HO347.out) (Kd.R_base ho27) hb);have n5_:=Aside0.mk (Kd.R_elder' (by (with_reducible repeat (first|apply Kd.R_alloc|apply Kd.R_drewN|apply Kd.R_drew));exact HO350.out) (Kd.R_base ho27) hb);have n6_:=Aside0.mk (Kd.R_lower (Kd.R_new' (Kd.R_new' (Kd.R_new' ho27 (Kd.R_lt (by (with_reducible repeat (first|apply Kd.R_alloc|apply Kd.R_drewN|apply Kd.R_drew));exact HO336.out))) (Kd.R_lt (by (with_reducible repeat (first|apply Kd.R_alloc|apply Kd.R_drewN|apply Kd.R_drew));exact HO343.out))) (Kd.R_lt (by (with_reducible repeat (first|apply Kd.R_alloc|apply Kd.R_drewN|apply Kd.R_drew));exact HO350.out))) (below_size (by repeat (first|(with_reducible first|exact HB.out|apply wA|apply wN|apply wD)|exact HB.out))));have n7_:=Aside0.mk (below_step (by repeat (first|(with_reducible first|exact HB.out|apply wA|apply wN|apply wD)|exact HB.out)) hb);clear HO333;clear HO336;clear HO340;clear HO343;clear HO347;clear HO350;clear HB;have HO333:=n0_;have HO336:=n1_;have HO340:=n2_;have HO343:=n3_;have HO347:=n4_;have HO350:=n5_;have HO354:=n6_;have HB:=n7_;clear n0_ n1_ n2_ n3_ n4_ n5_ n6_ n7_;clear hb ho27;obtain ⟨Ao28,co28,eo28⟩:=Kd.R_slice HO336.out;subst eo28;obtain ⟨Ao29,co29,eo29⟩:=Kd.R_slice HO354.out;subst eo29)|(go_at_call 22;(with_reducible refine (trustquorummake_Ints.calls k _ _ t334 _ _ y352 true _ ?side1 ?side2 ?side3 ?side4 A8.out).mono ?_);(case side1=>repeat (first|exact (Kd.R_reads' HO336.out).2.2|(with_reducible refine Kd.C_alloc ?_ _)|(with_reducible refine Kd.C_drewN ?_ _)|(with_reducible refine Kd.C_drew ?_)));(case side2=>exact (Kd.R_reads' HO336.out).2.1);(case side3=>repeat (first|exact (Kd.R_reads' HO354.out).2.2|(with_reducible refine Kd.C_alloc ?_ _)|(with_reducible refine Kd.C_drewN ?_ _)|(with_reducible refine Kd.C_drew ?_)));(case side4=>exact (Kd.R_reads' HO354.out).2.1);rintro e w' ⟨rfl,⟨nd,rfl⟩⟩)|((with_reducible refine gate_dst (N:=31) rfl ?_);(try (refine gate_guard (by rfl) ?_;dsimp only));refine Kd.R_lit (Kd.int .i64) _ 3 ?hg (N:=31) ?hd (xs:=([0]:List Int)) (inner:=[.int .i64 0]) (ok:=fun _=>True) (okp:=fun _=>True) ?hr ?hp (fun _ hk=>hk) trivial (Below.refl _ _) (Nat.le_refl _) (by simp) ?_;(case hd=>rfl);(case hg=>rfl);(case hr=>first|(go_simp;done)|(go_simp;rfl));(case hp=>exact (Reps.one (show Kd.M (Kd.int .i64) _ _ _ 0 [.int .i64 0] from rfl) (Reps.none _ _)));intro v357 w30 ho31 hb hg_ hnew_;clear hg_ hnew_;(first|rw [← Ny356.out] at ho31|(simp only [Int.reduceToNat] at ho31;rw [← Ny356.out] at ho31));have n0_:=Aside0.mk (Kd.R_elder' (by (with_reducible repeat (first|apply Kd.R_alloc|apply Kd.R_drewN|apply Kd.R_drew));exact HO333.out) (Kd.R_base ho31) hb);have n1_:=Aside0.mk (Kd.R_elder' (by (with_reducible repeat (first|apply Kd.R_alloc|apply Kd.R_drewN|apply Kd.R_drew));exact HO336.out) (Kd.R_base ho31) hb);have n2_:=Aside0.mk (Kd.R_elder' (by (with_reducible repeat (first|apply Kd.R_alloc|apply Kd.R_drewN|apply Kd.R_drew));exact HO340.out) (Kd.R_base ho31) hb);have n3_:=Aside0.mk (Kd.R_elder' (by (with_reducible repeat (first|apply Kd.R_alloc|apply Kd.R_drewN|apply Kd.R_drew));exact HO343.out) (Kd.R_base ho31) hb);have n4_:=Aside0.mk (Kd.R_elder' (by (with_reducible repeat (first|apply Kd.R_alloc|apply Kd.R_drewN|apply Kd.R_drew));exact HO347.out) (Kd.R_base ho31) hb);have n5_:=Aside0.mk (Kd.R_elder' (by (with_reducible repeat (first|apply Kd.R_alloc|apply Kd.R_drewN|apply Kd.R_drew));exact HO350.out) (Kd.R_base ho31) hb);have n6_:=Aside0.mk (Kd.R_elder' (by (with_reducible repeat (first|apply Kd.R_alloc|apply Kd.R_drewN|apply Kd.R_drew));exact HO354.out) (Kd.R_base ho31) hb);have n7_:=Aside0.mk (Kd.R_lower (Kd.R_new' (Kd.R_new' (Kd.R_new' (Kd.R_new' ho31 (Kd.R_lt (by (with_reducible repeat (first|apply Kd.R_alloc|apply Kd.R_drewN|apply Kd.R_drew));exact HO336.out))) (Kd.R_lt (by (with_reducible repeat (first|apply Kd.R_alloc|apply Kd.R_drewN|apply Kd.R_drew));exact HO343.out))) (Kd.R_lt (by (with_reducible repeat (first|apply Kd.R_alloc|apply Kd.R_drewN|apply Kd.R_drew));exact HO350.out))) (Kd.R_lt (by (with_reducible repeat (first|apply Kd.R_alloc|apply Kd.R_drewN|apply Kd.R_drew));exact HO354.out))) (below_size (by repeat (first|(with_reducible first|exact HB.out|apply wA|apply wN|apply wD)|exact HB.out))));have n8_:=Aside0.mk (below_step (by repeat (first|(with_reducible first|exact HB.out|apply wA|apply wN|apply wD)|exact HB.out)) hb);clear HO333;clear HO336;clear HO340;clear HO343;clear HO347;clear HO350;clear HO354;clear HB;have HO333:=n0_;have HO336:=n1_;have HO340:=n2_;have HO343:=n3_;have HO347:=n4_;have HO350:=n5_;have HO354:=n6_;have HO358:=n7_;have HB:=n8_;clear n0_ n1_ n2_ n3_ n4_ n5_ n6_ n7_ n8_;clear hb ho31;obtain ⟨Ao32,co32,eo32⟩:=Kd.R_slice HO343.out;subst eo32;obtain ⟨Ao33,co33,eo33⟩:=Kd.R_slice HO358.out;subst eo33)|(go_at_call 22;(with_reducible refine (trustquorummake_Ints.calls k _ _ t341 _ _ y356 true _ ?side1 ?side2 ?side3 ?side4 A10.out).mono ?_);(case side1=>repeat (first|exact (Kd.R_reads' HO343.out).2.2|(with_reducible refine Kd.C_alloc ?_ _)|(with_reducible refine Kd.C_drewN ?_ _)|(with_reducible refine Kd.C_drew ?_)));(case side2=>exact (Kd.R_reads' HO343.out).2.1);(case side3=>repeat (first|exact (Kd.R_reads' HO358.out).2.2|(with_reducible refine Kd.C_alloc ?_ _)|(with_reducible refine Kd.C_drewN ?_ _)|(with_reducible refine Kd.C_drew ?_)));(case side4=>exact (Kd.R_reads' HO358.out).2.1);rintro e w' ⟨rfl,⟨nd,rfl⟩⟩;obtain ⟨Ao34,co34,eo34⟩:=Kd.R_slice HO350.out;subst eo34)|(go_at_call 55;(with_reducible refine (trustquorumlaw11_three.calls  t360 _ A15.out).mono ?_);rintro e w35 ⟨v361,rfl,ho0,hb⟩;have n0_:=Aside0.mk (Kd.R_elder' (by (with_reducible repeat (first|apply Kd.R_alloc|apply Kd.R_drewN|apply Kd.R_drew));exact HO333.out) (Kd.R_base ho0) hb);have n1_:=Aside0.mk (Kd.R_below (by (with_reducible repeat (first|apply Kd.R_alloc|apply Kd.R_drewN|apply Kd.R_drew));exact HO336.out) hb);have n2_:=Aside0.mk (Kd.R_elder' (by (with_reducible repeat (first|apply Kd.R_alloc|apply Kd.R_drewN|apply Kd.R_drew));exact HO340.out) (Kd.R_base ho0) hb);have n3_:=Aside0.mk (Kd.R_below (by (with_reducible repeat (first|apply Kd.R_alloc|apply Kd.R_drewN|apply Kd.R_drew));exact HO343.out) hb);have n4_:=Aside0.mk (Kd.R_elder' (by (with_reducible repeat (first|apply Kd.R_alloc|apply Kd.R_drewN|apply Kd.R_drew));exact HO347.out) (Kd.R_base ho0) hb);have n5_:=Aside0.mk (Kd.R_below (by (with_reducible repeat (first|apply Kd.R_alloc|apply Kd.R_drewN|apply Kd.R_drew));exact HO350.out) hb);have n6_:=Aside0.mk (Kd.R_below (by (with_reducible repeat (first|apply Kd.R_alloc|apply Kd.R_drewN|apply Kd.R_drew));exact HO354.out) hb);have n7_:=Aside0.mk (Kd.R_below (by (with_reducible repeat (first|apply Kd.R_alloc|apply Kd.R_drewN|apply Kd.R_drew));exact HO358.out) hb);have n8_:=Aside0.mk (Kd.R_lower (Kd.R_new' (Kd.R_new' (Kd.R_new' (Kd.R_new' (Kd.R_new' (Kd.R_new' (Kd.R_new' (Kd.R_new' ho0 (Kd.R_lt (by (with_reducible repeat (first|apply Kd.R_alloc|apply Kd.R_drewN|apply Kd.R_drew));exact HO333.out))) (Kd.R_lt (by (with_reducible repeat (first|apply Kd.R_alloc|apply Kd.R_drewN|apply Kd.R_drew));exact HO336.out))) (Kd.R_lt (by (with_reducible repeat (first|apply Kd.R_alloc|apply Kd.R_drewN|apply Kd.R_drew));exact HO340.out))) (Kd.R_lt (by (with_reducible repeat (first|apply Kd.R_alloc|apply Kd.R_drewN|apply Kd.R_drew));exact HO343.out))) (Kd.R_lt (by (with_reducible repeat (first|apply Kd.R_alloc|apply Kd.R_drewN|apply Kd.R_drew));exact HO347.out))) (Kd.R_lt (by (with_reducible repeat (first|apply Kd.R_alloc|apply Kd.R_drewN|apply Kd.R_drew));exact HO350.out))) (Kd.R_lt (by (with_reducible repeat (first|apply Kd.R_alloc|apply Kd.R_drewN|apply Kd.R_drew));exact HO354.out))) (Kd.R_lt (by (with_reducible repeat (first|apply Kd.R_alloc|apply Kd.R_drewN|apply Kd.R_drew));exact HO358.out))) (below_size (by repeat (first|(with_reducible first|exact HB.out|apply wA|apply wN|apply wD)|exact HB.out))));have n9_:=Aside0.mk (below_step (by repeat (first|(with_reducible first|exact HB.out|apply wA|apply wN|apply wD)|exact HB.out)) hb);clear HO333;clear HO336;clear HO340;clear HO343;clear HO347;clear HO350;clear HO354;clear HO358;clear HB;have HO333:=n0_;have HO336:=n1_;have HO340:=n2_;have HO343:=n3_;have HO347:=n4_;have HO350:=n5_;have HO354:=n6_;have HO358:=n7_;have HO362:=n8_;have HB:=n9_;clear n0_ n1_ n2_ n3_ n4_ n5_ n6_ n7_ n8_ n9_;(try clear hb);(try clear hb2);(try clear hk);(try clear hi);(try clear ho0);obtain ⟨Ao36,co36,eo36⟩:=Kd.R_slice HO362.out;subst eo36)|(go_at_call 19;(with_reducible refine (blocking_Blocks.calls k _ _ t360 0 6 t363 _ ?side1 ?side2 A16.out).mono ?_);(case side1=>repeat (first|exact (Kd.R_reads' HO362.out).2.2|(with_reducible refine Kd.C_alloc ?_ _)|(with_reducible refine Kd.C_drewN ?_ _)|(with_reducible refine Kd.C_drew ?_)));(case side2=>exact (Kd.R_reads' HO362.out).2.1);rintro e w37 ⟨rfl,hb⟩;have n0_:=Aside0.mk (Kd.R_below (by (with_reducible repeat (first|apply Kd.R_alloc|apply Kd.R_drewN|apply Kd.R_drew));exact HO333.out) hb);have n1_:=Aside0.mk (Kd.R_below (by (with_reducible repeat (first|apply Kd.R_alloc|apply Kd.R_drewN|apply Kd.R_drew));exact HO336.out) hb);have n2_:=Aside0.mk (Kd.R_below (by (with_reducible repeat (first|apply Kd.R_alloc|apply Kd.R_drewN|apply Kd.R_drew));exact HO340.out) hb);have n3_:=Aside0.mk (Kd.R_below (by (with_reducible repeat (first|apply Kd.R_alloc|apply Kd.R_drewN|apply Kd.R_drew));exact HO343.out) hb);have n4_:=Aside0.mk (Kd.R_below (by (with_reducible repeat (first|apply Kd.R_alloc|apply Kd.R_drewN|apply Kd.R_drew));exact HO347.out) hb);have n5_:=Aside0.mk (Kd.R_below (by (with_reducible repeat (first|apply Kd.R_alloc|apply Kd.R_drewN|apply Kd.R_drew));exact HO350.out) hb);have n6_:=Aside0.mk (Kd.R_below (by (with_reducible repeat (first|apply Kd.R_alloc|apply Kd.R_drewN|apply Kd.R_drew));exact HO354.out) hb);have n7_:=Aside0.mk (Kd.R_below (by (with_reducible repeat (first|apply Kd.R_alloc|apply Kd.R_drewN|apply Kd.R_drew));exact HO358.out) hb);have n8_:=Aside0.mk (Kd.R_below (by (with_reducible repeat (first|apply Kd.R_alloc|apply Kd.R_drewN|apply Kd.R_drew));exact HO362.out) hb);have n9_:=Aside0.mk (below_step (by repeat (first|(with_reducible first|exact HB.out|apply wA|apply wN|apply wD)|exact HB.out)) hb);clear HO333;clear HO336;clear HO340;clear HO343;clear HO347;clear HO350;clear HO354;clear HO358;clear HO362;clear HB;have HO333:=n0_;have HO336:=n1_;have HO340:=n2_;have HO343:=n3_;have HO347:=n4_;have HO350:=n5_;have HO354:=n6_;have HO358:=n7_;have HO362:=n8_;have HB:=n9_;clear n0_ n1_ n2_ n3_ n4_ n5_ n6_ n7_ n8_ n9_;(try clear hb);(try clear hb2);(try clear hk);(try clear hi)))
       go_ret
       exact ⟨by first|rfl|exact congrArg (fun b_:Bool=>Ending.returned (Value.bool b_)) HT.out|(simp [errW_none,errW_some] <;> rfl)|(simp [*,errW_none,errW_some] <;> rfl),by repeat (first|(with_reducible first|exact HB.out|apply wA|apply wN|apply wD)|exact HB.out)⟩
      ·rw [if_neg c14] at H
       have c14b0:(t351 == 2)=false:=beq_eq_false_iff_ne.mpr c14
       have c14b1:(t351 != 2)=true:=bne_iff_ne.mpr c14
       exact absurd H (by simp)
     ·rw [if_neg c13] at H
      have c13b0:((t348.length:Int) == 0)=false:=beq_eq_false_iff_ne.mpr c13
      have c13b1:((t348.length:Int) != 0)=true:=bne_iff_ne.mpr c13
      have c13b2:¬ (t348=[]):=fun h_=>c13 (by rw [h_];rfl)
      exact absurd H (by simp)
    ·rw [if_neg c12] at H
     have c12b0:(t344 == 7)=false:=beq_eq_false_iff_ne.mpr c12
     have c12b1:(t344 != 7)=true:=bne_iff_ne.mpr c12
     exact absurd H (by simp)
   ·replace c11:=Bool.eq_false_iff.mpr c11
    subst c11
    have H1:(some false)=some true:=by rw [if_neg (show ¬ (false=true) by decide)] at H;exact H
    clear H
    have H:=H1
    clear H1
    exact absurd H (by simp)
  ·replace c9:=Bool.eq_false_iff.mpr c9
   subst c9
   have H1:(some false)=some true:=by rw [if_neg (show ¬ (false=true) by decide)] at H;exact H
   clear H
   have H:=H1
   clear H1
   exact absurd H (by simp)
 ·rw [if_neg c7] at H
  have c7b0:(t337 == 0)=false:=beq_eq_false_iff_ne.mpr c7
  have c7b1:(t337 != 0)=true:=bne_iff_ne.mpr c7
  exact absurd H (by simp)
def trustquorumlaw11_BlockingGrows.f (k:Nat) (l0:List Int):Option (Bool):=(trustquorummake_New.f l0).bind fun bt440=>((trustquorummake_Config.f k bt440.1 bt440.2 10).bind fun bt443=>((trustquorummake_Tape_N.f bt440.1 bt443.2 1024).bind fun bt448=>((trustquorummake_Tape_N.f bt440.1 bt448.2 1024).bind fun bt450=>((blocking_Cascade.f k bt443.1 bt448.1).bind fun bt452=>((blocking_Cascade.f k bt443.1 (Go.bits .or .i64 bt448.1 bt450.1)).bind fun bt456=>((blocking_Cascade.f k bt443.1 bt452.2).bind fun bt460=>(if (Go.bits .and .i64 bt452.2 bt448.1)=bt448.1 then (if (Go.bits .and .i64 bt452.2 bt456.2)=bt452.2 then (if bt460.2=bt452.2 then (if (bt460.1.length:Int)=0 then ((trustquorumlaw11_awake.f k).bind fun t464=>(some t464)) else (some false)) else (some false)) else (some false)) else (some false))))))))
set_option maxHeartbeats 8000000 in
set_option maxRecDepth 100000 in
theorem trustquorumlaw11_BlockingGrows.calls (k:Nat) (A0:Option Addr) (c0:Nat) (l0:List Int) (w:World) (hr0:Kd.C (Kd.int .i64) w A0 l0.length l0) (hc0:l0.length≤c0) (h:trustquorumlaw11_BlockingGrows.f k l0=some true) :
  Calls Try.prog 4 #[.slice A0 l0.length c0] w fun e w'=>e=.returned (.bool true)∧Below w.heap.size w w':=by
 have hu27:=Try.underlying27
 have HR0:=Aside0.mk hr0
 have HC0:=Aside0.mk hc0
 clear hr0 hc0
 have HB:=Aside0.mk (Below.refl w.heap.size w)
 have H:((trustquorummake_New.f l0).bind fun bt440=>((trustquorummake_Config.f k bt440.1 bt440.2 10).bind fun bt443=>((trustquorummake_Tape_N.f bt440.1 bt443.2 1024).bind fun bt448=>((trustquorummake_Tape_N.f bt440.1 bt448.2 1024).bind fun bt450=>((blocking_Cascade.f k bt443.1 bt448.1).bind fun bt452=>((blocking_Cascade.f k bt443.1 (Go.bits .or .i64 bt448.1 bt450.1)).bind fun bt456=>((blocking_Cascade.f k bt443.1 bt452.2).bind fun bt460=>(if (Go.bits .and .i64 bt452.2 bt448.1)=bt448.1 then (if (Go.bits .and .i64 bt452.2 bt456.2)=bt452.2 then (if bt460.2=bt452.2 then (if (bt460.1.length:Int)=0 then ((trustquorumlaw11_awake.f k).bind fun t464=>(some t464)) else (some false)) else (some false)) else (some false)) else (some false)))))))))=some true:=h
 clear h
 replace H:=Option.bind_eq_some_iff.mp H
 obtain ⟨⟨t440,t441⟩,A20,H⟩:=H
 replace H:((trustquorummake_Config.f k t440 t441 10).bind fun bt443=>((trustquorummake_Tape_N.f t440 bt443.2 1024).bind fun bt448=>((trustquorummake_Tape_N.f t440 bt448.2 1024).bind fun bt450=>((blocking_Cascade.f k bt443.1 bt448.1).bind fun bt452=>((blocking_Cascade.f k bt443.1 (Go.bits .or .i64 bt448.1 bt450.1)).bind fun bt456=>((blocking_Cascade.f k bt443.1 bt452.2).bind fun bt460=>(if (Go.bits .and .i64 bt452.2 bt448.1)=bt448.1 then (if (Go.bits .and .i64 bt452.2 bt456.2)=bt452.2 then (if bt460.2=bt452.2 then (if (bt460.1.length:Int)=0 then ((trustquorumlaw11_awake.f k).bind fun t464=>(some t464)) else (some false)) else (some false)) else (some false)) else (some false))))))))=some true:=H
 have A2:=Aside0.mk A20
 clear A20
 replace H:=Option.bind_eq_some_iff.mp H
 obtain ⟨⟨t443,t446⟩,A30,H⟩:=H
 replace H:((trustquorummake_Tape_N.f t440 t446 1024).bind fun bt448=>((trustquorummake_Tape_N.f t440 bt448.2 1024).bind fun bt450=>((blocking_Cascade.f k t443 bt448.1).bind fun bt452=>((blocking_Cascade.f k t443 (Go.bits .or .i64 bt448.1 bt450.1)).bind fun bt456=>((blocking_Cascade.f k t443 bt452.2).bind fun bt460=>(if (Go.bits .and .i64 bt452.2 bt448.1)=bt448.1 then (if (Go.bits .and .i64 bt452.2 bt456.2)=bt452.2 then (if bt460.2=bt452.2 then (if (bt460.1.length:Int)=0 then ((trustquorumlaw11_awake.f k).bind fun t464=>(some t464)) else (some false)) else (some false)) else (some false)) else (some false)))))))=some true:=H
 have A3:=Aside0.mk A30
 clear A30
 replace H:=Option.bind_eq_some_iff.mp H
 obtain ⟨⟨t448,t449⟩,A40,H⟩:=H
 replace H:((trustquorummake_Tape_N.f t440 t449 1024).bind fun bt450=>((blocking_Cascade.f k t443 t448).bind fun bt452=>((blocking_Cascade.f k t443 (Go.bits .or .i64 t448 bt450.1)).bind fun bt456=>((blocking_Cascade.f k t443 bt452.2).bind fun bt460=>(if (Go.bits .and .i64 bt452.2 t448)=t448 then (if (Go.bits .and .i64 bt452.2 bt456.2)=bt452.2 then (if bt460.2=bt452.2 then (if (bt460.1.length:Int)=0 then ((trustquorumlaw11_awake.f k).bind fun t464=>(some t464)) else (some false)) else (some false)) else (some false)) else (some false))))))=some true:=H
 have A4:=Aside0.mk A40
 clear A40
 replace H:=Option.bind_eq_some_iff.mp H
 obtain ⟨⟨t450,t451⟩,A50,H⟩:=H
 replace H:((blocking_Cascade.f k t443 t448).bind fun bt452=>((blocking_Cascade.f k t443 (Go.bits .or .i64 t448 t450)).bind fun bt456=>((blocking_Cascade.f k t443 bt452.2).bind fun bt460=>(if (Go.bits .and .i64 bt452.2 t448)=t448 then (if (Go.bits .and .i64 bt452.2 bt456.2)=bt452.2 then (if bt460.2=bt452.2 then (if (bt460.1.length:Int)=0 then ((trustquorumlaw11_awake.f k).bind fun t464=>(some t464)) else (some false)) else (some false)) else (some false)) else (some false)))))=some true:=H
 have A5:=Aside0.mk A50
 clear A50
 replace H:=Option.bind_eq_some_iff.mp H
 obtain ⟨⟨t452,t455⟩,A60,H⟩:=H
 replace H:((blocking_Cascade.f k t443 (Go.bits .or .i64 t448 t450)).bind fun bt456=>((blocking_Cascade.f k t443 t455).bind fun bt460=>(if (Go.bits .and .i64 t455 t448)=t448 then (if (Go.bits .and .i64 t455 bt456.2)=t455 then (if bt460.2=t455 then (if (bt460.1.length:Int)=0 then ((trustquorumlaw11_awake.f k).bind fun t464=>(some t464)) else (some false)) else (some false)) else (some false)) else (some false))))=some true:=H
 have A6:=Aside0.mk A60
 clear A60
 replace H:=Option.bind_eq_some_iff.mp H
 obtain ⟨⟨t456,t459⟩,A70,H⟩:=H
 replace H:((blocking_Cascade.f k t443 t455).bind fun bt460=>(if (Go.bits .and .i64 t455 t448)=t448 then (if (Go.bits .and .i64 t455 t459)=t455 then (if bt460.2=t455 then (if (bt460.1.length:Int)=0 then ((trustquorumlaw11_awake.f k).bind fun t464=>(some t464)) else (some false)) else (some false)) else (some false)) else (some false)))=some true:=H
 have A7:=Aside0.mk A70
 clear A70
 replace H:=Option.bind_eq_some_iff.mp H
 obtain ⟨⟨t460,t463⟩,A80,H⟩:=H
 replace H:(if (Go.bits .and .i64 t455 t448)=t448 then (if (Go.bits .and .i64 t455 t459)=t455 then (if t463=t455 then (if (t460.length:Int)=0 then ((trustquorumlaw11_awake.f k).bind fun t464=>(some t464)) else (some false)) else (some false)) else (some false)) else (some false))=some true:=H
 have A8:=Aside0.mk A80
 clear A80
 by_cases c9:(Go.bits .and .i64 t455 t448)=t448
 ·rw [if_pos c9] at H
  have c9b0:((Go.bits .and .i64 t455 t448) == t448)=true:=beq_iff_eq.mpr c9
  have c9b1:((Go.bits .and .i64 t455 t448) != t448)=false:=bne_eq_false_iff_eq.mpr c9
  clear c9
  by_cases c10:(Go.bits .and .i64 t455 t459)=t455
  ·rw [if_pos c10] at H
   have c10b0:((Go.bits .and .i64 t455 t459) == t455)=true:=beq_iff_eq.mpr c10
   have c10b1:((Go.bits .and .i64 t455 t459) != t455)=false:=bne_eq_false_iff_eq.mpr c10
   clear c10
   by_cases c11:t463=t455
   ·rw [if_pos c11] at H
    have c11b0:(t463 == t455)=true:=beq_iff_eq.mpr c11
    have c11b1:(t463 != t455)=false:=bne_eq_false_iff_eq.mpr c11
    clear c11
    by_cases c12:(t460.length:Int)=0
    ·rw [if_pos c12] at H
     have c12b0:((t460.length:Int) == 0)=true:=beq_iff_eq.mpr c12
     have c12b1:((t460.length:Int) != 0)=false:=bne_eq_false_iff_eq.mpr c12
     clear c12
     replace H:=Option.bind_eq_some_iff.mp H
     obtain ⟨t464,A130,H⟩:=H
     replace H:(some t464)=some true:=H
     have A13:=Aside0.mk A130
     clear A130
     obtain rfl:=Option.some.inj H
     go_enter Try.func4,Try.ntmps4
     go_wp2_with (first|((with_reducible refine gate_callee (f:=14) rfl ?_);refine goesL_ (some 14) rfl rfl Try.func14 (by kernel_rfl) rfl #[.slice A0 l0.length c0] rfl (by (try simp only [List.map_toArray,List.map_cons,List.map_nil]);first|done|rfl|(simp only [List.length_drop,List.length_take];rfl)) ?_;(with_reducible refine (trustquorummake_New.calls _ _ l0 t440 t441 w _ ?side1 ?side2 ?side3 A2.out).mono ?_);(case side1=>repeat (first|(with_reducible first|exact HB.out|apply wA|apply wN|apply wD)|exact HB.out));(case side2=>exact HR0.out);(case side3=>exact HC0.out);rintro e w14 ⟨g442,rfl,hi,hb,hb2⟩;refine ⟨_,rfl,?_⟩;have n0_:=Aside0.mk (hb);have n1_:=Aside0.mk (hi);clear HB;have HB:=n0_;have HI442:=n1_;clear n0_ n1_;(try clear hb);(try clear hb2);(try clear hk);(try clear hi))|((with_reducible refine gate_callee (f:=15) rfl ?_);refine goesL_ (some 16) rfl rfl Try.func15 (by kernel_rfl) rfl #[.pointer (some ⟨g442,0,none⟩),.int .i64 10] rfl (by (try simp only [List.map_toArray,List.map_cons,List.map_nil]);first|done|rfl|(simp only [List.length_drop,List.length_take];rfl)) ?_;(with_reducible refine (trustquorummake_Config.calls k g442 t440 t441 10 t443 t446 w _ ?side1 ?side2 A3.out).mono ?_);(case side1=>repeat (first|(with_reducible first|exact HI442.out|apply IsS71.alloc|apply IsS71.drewN|apply IsS71.drew|apply IsS71.set_1)|exact HI442.out));(case side2=>repeat (first|(with_reducible first|exact HB.out|apply wA|apply wN|apply wD|refine wS ?_ (IsS71.ge HI442.out))|exact HB.out));rintro e w15 ⟨v444,rfl,ho0,hi,hb,hk⟩;refine ⟨_,rfl,?_⟩;have n0_:=Aside0.mk (Kd.R_lower ho0 (below_size (by repeat (first|(with_reducible first|exact HB.out|apply wA|apply wN|apply wD|refine wS ?_ (IsS71.ge HI442.out))|exact HB.out))));have n1_:=Aside0.mk (hb);have n2_:=Aside0.mk (hi);clear HB;clear HI442;have HO445:=n0_;have HB:=n1_;have HI442:=n2_;clear n0_ n1_ n2_;(try clear hb);(try clear hb2);(try clear hk);(try clear hi);(try clear ho0))|((with_reducible refine gate_dst (N:=4) rfl ?_);(try (refine gate_guard (by rfl) ?_;dsimp only));refine box_event ?hg (N:=4) ?hd (cs:=#[.slice none 0 0]) (t:=27) ?hr ?_;(case hd=>rfl);(case hg=>rfl);(case hr=>first|(go_simp;done)|(go_simp;rfl));intro gb447 hg w16 hbox hb;have n0_:=Aside0.mk (Kd.R_below (by (with_reducible repeat (first|apply Kd.R_alloc|apply Kd.R_drewN|apply Kd.R_drew));exact HO445.out) hb);have n1_:=Aside0.mk (IsS71.below (by repeat (first|(with_reducible first|exact HI442.out|apply IsS71.alloc|apply IsS71.drewN|apply IsS71.drew|apply IsS71.set_1)|exact HI442.out)) hb);have n2_:=Aside0.mk (below_step (by repeat (first|(with_reducible first|exact HB.out|apply wA|apply wN|apply wD|refine wS ?_ (IsS71.ge HI442.out))|exact HB.out)) hb);have n3_:=Aside0.mk (hbox);have n4_:=Aside0.mk ((by rw [hg];exact (below_size (by repeat (first|(with_reducible first|exact HB.out|apply wA|apply wN|apply wD|refine wS ?_ (IsS71.ge HI442.out))|exact HB.out))):w.heap.size≤gb447));have n5_:=Aside0.mk ((by rw [hg];exact (below_size (by repeat (first|(with_reducible first|exact HB.out|apply wA|apply wN|apply wD|refine wS ?_ (IsS71.ge HI442.out))|exact HB.out))):w.heap.size≤gb447));have n6_:=Aside0.mk ((by rw [hg];exact Nat.ne_of_lt (IsS71.lt (show IsS71 w _ g442 t440 t446 from by repeat (first|(with_reducible first|exact HI442.out|apply IsS71.alloc|apply IsS71.drewN|apply IsS71.drew|apply IsS71.set_1)|exact HI442.out))):g442 ≠ gb447));have n7_:=Aside0.mk ((by rw [hg];exact Nat.ne_of_gt (IsS71.lt (show IsS71 w _ g442 t440 t446 from by repeat (first|(with_reducible first|exact HI442.out|apply IsS71.alloc|apply IsS71.drewN|apply IsS71.drew|apply IsS71.set_1)|exact HI442.out))):gb447 ≠ g442));clear HO445;clear HI442;clear HB;have HO445:=n0_;have HI442:=n1_;have HB:=n2_;have BK447:=n3_;have GW447:=n4_;have GE447:=n5_;have NB442_447:=n6_;have NB447_442:=n7_;clear n0_ n1_ n2_ n3_ n4_ n5_ n6_ n7_;clear hb hbox hg;obtain ⟨Ao17,co17,eo17⟩:=Kd.R_slice HO445.out;subst eo17;have hnb18:=NB447_442.out;have hnc18:=NB442_447.out;have hcz19_0:w16.cell? ⟨gb447,0,none⟩=some (.slice none 0 0):=(kC BK447.out 0).trans rfl;have hfz19_0:=kF BK447.out 0)|((with_reducible refine gate_callee (f:=16) rfl ?_);refine goesL_ (some 18) rfl rfl Try.func16 (by kernel_rfl) rfl #[.pointer (some ⟨g442,0,none⟩),.int .i64 1024] rfl (by (try simp only [List.map_toArray,List.map_cons,List.map_nil]);first|done|rfl|(simp only [List.length_drop,List.length_take];rfl)) ?_;(with_reducible refine (trustquorummake_Tape_N.calls g442 t440 t446 1024 t448 t449 w _ ?side1 ?side2 A4.out).mono ?_);(case side1=>repeat (first|(with_reducible first|exact HI442.out|apply IsS71.alloc|apply IsS71.drewN|apply IsS71.drew|apply IsS71.set_1|refine IsS71.far ?_ NB442_447.out _)|exact HI442.out));(case side2=>repeat (first|(with_reducible first|exact HB.out|apply wA|apply wN|apply wD|refine wS ?_ (IsS71.ge HI442.out)|refine wS ?_ GE447.out)|exact HB.out));rintro e w20 ⟨rfl,hi,hb,hk⟩;refine ⟨_,rfl,?_⟩;have n0_:=Aside0.mk (Kd.R_mono (Kd.R_keep (IsS71.apart (show IsS71 w _ g442 t440 t446 from by repeat (first|(with_reducible first|exact HI442.out|apply IsS71.alloc|apply IsS71.drewN|apply IsS71.drew|apply IsS71.set_1|refine IsS71.far ?_ NB442_447.out _)|exact HI442.out)) (by (with_reducible repeat (first|apply Kd.R_alloc|apply Kd.R_drewN|apply Kd.R_drew));exact (Kd.R_mono (Kd.R_far (p:=⟨gb447,0,none⟩) (Kd.R_types HO445.out BK447.out (by decide)) (fun _ hk=>hk.2) (.slice Ao17 t443.length co17)) (fun _ h_=>h_.1))) (by decide)) hk (fun _ h=>h.2)) (fun _ h=>h.1));have n1_:=Aside0.mk (KeepBut.blk hk (g':=gb447) (o:=.cells #[.slice Ao17 t443.length co17] 27 (0,0)) (by (with_reducible repeat (first|refine kN ?_ _|refine kD ?_|refine kA ?_ _));refine blk_put (cs:=#[.slice none 0 0]) ?_ 0 _ rfl;(with_reducible repeat (first|refine kN ?_ _|refine kD ?_|refine kA ?_ _));exact BK447.out) NB447_442.out (by simp));have n2_:=Aside0.mk (hb);have n3_:=Aside0.mk (hi);clear HO445;clear BK447;clear HB;clear HI442;have HO445:=n0_;have BK447:=n1_;have HB:=n2_;have HI442:=n3_;clear n0_ n1_ n2_ n3_;(try clear hb);(try clear hb2);(try clear hk);(try clear hi))|((with_reducible refine gate_callee (f:=16) rfl ?_);refine goesL_ (some 21) rfl rfl Try.func16 (by kernel_rfl) rfl #[.pointer (some ⟨g442,0,none⟩),.int .i64 1024] rfl (by (try simp only [List.map_toArray,List.map_cons,List.map_nil]);first|done|rfl|(simp only [List.length_drop,List.length_take];rfl)) ?_;(with_reducible refine (trustquorummake_Tape_N.calls g442 t440 t449 1024 t450 t451 w _ ?side1 ?side2 A5.out).mono ?_);(case side1=>repeat (first|(with_reducible first|exact HI442.out|apply IsS71.alloc|apply IsS71.drewN|apply IsS71.drew|apply IsS71.set_1|refine IsS71.far ?_ NB442_447.out _)|exact HI442.out));(case side2=>repeat (first|(with_reducible first|exact HB.out|apply wA|apply wN|apply wD|refine wS ?_ (IsS71.ge HI442.out)|refine wS ?_ GE447.out)|exact HB.out));rintro e w21 ⟨rfl,hi,hb,hk⟩;refine ⟨_,rfl,?_⟩;have n0_:=Aside0.mk (Kd.R_mono (Kd.R_keep (IsS71.apart (show IsS71 w _ g442 t440 t449 from by repeat (first|(with_reducible first|exact HI442.out|apply IsS71.alloc|apply IsS71.drewN|apply IsS71.drew|apply IsS71.set_1|refine IsS71.far ?_ NB442_447.out _)|exact HI442.out)) (by (with_reducible repeat (first|apply Kd.R_alloc|apply Kd.R_drewN|apply Kd.R_drew));exact HO445.out) (by decide)) hk (fun _ h=>h.2)) (fun _ h=>h.1));have n1_:=Aside0.mk (KeepBut.blk hk (g':=gb447) (o:=.cells #[.slice Ao17 t443.length co17] 27 (0,0)) (by (with_reducible repeat (first|refine kN ?_ _|refine kD ?_|refine kA ?_ _));exact BK447.out) NB447_442.out (by simp));have n2_:=Aside0.mk (hb);have n3_:=Aside0.mk (hi);clear HO445;clear BK447;clear HB;clear HI442;have HO445:=n0_;have BK447:=n1_;have HB:=n2_;have HI442:=n3_;clear n0_ n1_ n2_ n3_;(try clear hb);(try clear hb2);(try clear hk);(try clear hi);have hcz22_0:w21.cell? ⟨gb447,0,none⟩=some (.slice Ao17 t443.length co17):=(kC BK447.out 0).trans rfl;have hfz22_0:=kF BK447.out 0)|((with_reducible refine gate_callee (f:=23) rfl ?_);refine goesL_ (some 26) rfl rfl Try.func23 (by kernel_rfl) rfl #[.agg #[.slice Ao17 t443.length co17],.int .i64 t448] rfl (by (try simp only [List.map_toArray,List.map_cons,List.map_nil]);first|done|rfl|(simp only [List.length_drop,List.length_take];rfl)) ?_;(with_reducible refine (blocking_Cascade.calls k _ _ t443 t448 t452 t455 _ ?side1 ?side2 A6.out).mono ?_);(case side1=>repeat (first|exact (Kd.R_reads' HO445.out).2.2|(with_reducible refine Kd.C_alloc ?_ _)|(with_reducible refine Kd.C_drewN ?_ _)|(with_reducible refine Kd.C_drew ?_)));(case side2=>exact (Kd.R_reads' HO445.out).2.1);rintro e w23 ⟨v453,rfl,ho0,hb⟩;refine ⟨_,rfl,?_⟩;have n0_:=Aside0.mk (Kd.R_elder' (by (with_reducible repeat (first|apply Kd.R_alloc|apply Kd.R_drewN|apply Kd.R_drew));exact HO445.out) (Kd.R_base ho0) hb);have n1_:=Aside0.mk (Kd.R_lower ho0 (below_size (by repeat (first|(with_reducible first|exact HB.out|apply wA|apply wN|apply wD|refine wS ?_ (IsS71.ge HI442.out)|refine wS ?_ GE447.out)|exact HB.out))));have n2_:=Aside0.mk (IsS71.below (by repeat (first|(with_reducible first|exact HI442.out|apply IsS71.alloc|apply IsS71.drewN|apply IsS71.drew|apply IsS71.set_1|refine IsS71.far ?_ NB442_447.out _)|exact HI442.out)) hb);have n3_:=Aside0.mk (blk_below (g:=gb447) (o:=.cells #[.slice Ao17 t443.length co17] 27 (0,0)) (by (with_reducible repeat (first|refine kN ?_ _|refine kD ?_|refine kA ?_ _));exact BK447.out) hb);have n4_:=Aside0.mk (below_step (by repeat (first|(with_reducible first|exact HB.out|apply wA|apply wN|apply wD|refine wS ?_ (IsS71.ge HI442.out)|refine wS ?_ GE447.out)|exact HB.out)) hb);clear HO445;clear HI442;clear BK447;clear HB;have HO445:=n0_;have HO454:=n1_;have HI442:=n2_;have BK447:=n3_;have HB:=n4_;clear n0_ n1_ n2_ n3_ n4_;(try clear hb);(try clear hb2);(try clear hk);(try clear hi);(try clear ho0);have hcz24_0:w23.cell? ⟨gb447,0,none⟩=some (.slice Ao17 t443.length co17):=(kC BK447.out 0).trans rfl;have hfz24_0:=kF BK447.out 0)|((with_reducible refine gate_callee (f:=23) rfl ?_);refine goesL_ (some 32) rfl rfl Try.func23 (by kernel_rfl) rfl #[.agg #[.slice Ao17 t443.length co17],.int .i64 (Go.bits .or .i64 t448 t450)] rfl (by (try simp only [List.map_toArray,List.map_cons,List.map_nil]);first|done|rfl|(simp only [List.length_drop,List.length_take];rfl)) ?_;(with_reducible refine (blocking_Cascade.calls k _ _ t443 (Go.bits .or .i64 t448 t450) t456 t459 _ ?side1 ?side2 A7.out).mono ?_);(case side1=>repeat (first|exact (Kd.R_reads' HO445.out).2.2|(with_reducible refine Kd.C_alloc ?_ _)|(with_reducible refine Kd.C_drewN ?_ _)|(with_reducible refine Kd.C_drew ?_)));(case side2=>exact (Kd.R_reads' HO445.out).2.1);rintro e w25 ⟨v457,rfl,ho0,hb⟩;refine ⟨_,rfl,?_⟩;have n0_:=Aside0.mk (Kd.R_elder' (by (with_reducible repeat (first|apply Kd.R_alloc|apply Kd.R_drewN|apply Kd.R_drew));exact HO445.out) (Kd.R_base ho0) hb);have n1_:=Aside0.mk (Kd.R_elder' (by (with_reducible repeat (first|apply Kd.R_alloc|apply Kd.R_drewN|apply Kd.R_drew));exact HO454.out) (Kd.R_base ho0) hb);have n2_:=Aside0.mk (Kd.R_lower (Kd.R_new' ho0 (Kd.R_lt (by (with_reducible repeat (first|apply Kd.R_alloc|apply Kd.R_drewN|apply Kd.R_drew));exact HO454.out))) (below_size (by repeat (first|(with_reducible first|exact HB.out|apply wA|apply wN|apply wD|refine wS ?_ (IsS71.ge HI442.out)|refine wS ?_ GE447.out)|exact HB.out))));have n3_:=Aside0.mk (IsS71.below (by repeat (first|(with_reducible first|exact HI442.out|apply IsS71.alloc|apply IsS71.drewN|apply IsS71.drew|apply IsS71.set_1|refine IsS71.far ?_ NB442_447.out _)|exact HI442.out)) hb);have n4_:=Aside0.mk (blk_below (g:=gb447) (o:=.cells #[.slice Ao17 t443.length co17] 27 (0,0)) (by (with_reducible repeat (first|refine kN ?_ _|refine kD ?_|refine kA ?_ _));exact BK447.out) hb);have n5_:=Aside0.mk (below_step (by repeat (first|(with_reducible first|exact HB.out|apply wA|apply wN|apply wD|refine wS ?_ (IsS71.ge HI442.out)|refine wS ?_ GE447.out)|exact HB.out)) hb);clear HO445;clear HO454;clear HI442;clear BK447;clear HB;have HO445:=n0_;have HO454:=n1_;have HO458:=n2_;have HI442:=n3_;have BK447:=n4_;have HB:=n5_;clear n0_ n1_ n2_ n3_ n4_ n5_;(try clear hb);(try clear hb2);(try clear hk);(try clear hi);(try clear ho0);have hcz26_0:w25.cell? ⟨gb447,0,none⟩=some (.slice Ao17 t443.length co17):=(kC BK447.out 0).trans rfl;have hfz26_0:=kF BK447.out 0)|((with_reducible refine gate_callee (f:=23) rfl ?_);refine goesL_ (some 38) rfl rfl Try.func23 (by kernel_rfl) rfl #[.agg #[.slice Ao17 t443.length co17],.int .i64 t455] rfl (by (try simp only [List.map_toArray,List.map_cons,List.map_nil]);first|done|rfl|(simp only [List.length_drop,List.length_take];rfl)) ?_;(with_reducible refine (blocking_Cascade.calls k _ _ t443 t455 t460 t463 _ ?side1 ?side2 A8.out).mono ?_);(case side1=>repeat (first|exact (Kd.R_reads' HO445.out).2.2|(with_reducible refine Kd.C_alloc ?_ _)|(with_reducible refine Kd.C_drewN ?_ _)|(with_reducible refine Kd.C_drew ?_)));(case side2=>exact (Kd.R_reads' HO445.out).2.1);rintro e w27 ⟨v461,rfl,ho0,hb⟩;refine ⟨_,rfl,?_⟩;have n0_:=Aside0.mk (Kd.R_elder' (by (with_reducible repeat (first|apply Kd.R_alloc|apply Kd.R_drewN|apply Kd.R_drew));exact HO445.out) (Kd.R_base ho0) hb);have n1_:=Aside0.mk (Kd.R_elder' (by (with_reducible repeat (first|apply Kd.R_alloc|apply Kd.R_drewN|apply Kd.R_drew));exact HO454.out) (Kd.R_base ho0) hb);have n2_:=Aside0.mk (Kd.R_elder' (by (with_reducible repeat (first|apply Kd.R_alloc|apply Kd.R_drewN|apply Kd.R_drew));exact HO458.out) (Kd.R_base ho0) hb);have n3_:=Aside0.mk (Kd.R_lower (Kd.R_new' (Kd.R_new' ho0 (Kd.R_lt (by (with_reducible repeat (first|apply Kd.R_alloc|apply Kd.R_drewN|apply Kd.R_drew));exact HO454.out))) (Kd.R_lt (by (with_reducible repeat (first|apply Kd.R_alloc|apply Kd.R_drewN|apply Kd.R_drew));exact HO458.out))) (below_size (by repeat (first|(with_reducible first|exact HB.out|apply wA|apply wN|apply wD|refine wS ?_ (IsS71.ge HI442.out)|refine wS ?_ GE447.out)|exact HB.out))));have n4_:=Aside0.mk (IsS71.below (by repeat (first|(with_reducible first|exact HI442.out|apply IsS71.alloc|apply IsS71.drewN|apply IsS71.drew|apply IsS71.set_1|refine IsS71.far ?_ NB442_447.out _)|exact HI442.out)) hb);have n5_:=Aside0.mk (blk_below (g:=gb447) (o:=.cells #[.slice Ao17 t443.length co17] 27 (0,0)) (by (with_reducible repeat (first|refine kN ?_ _|refine kD ?_|refine kA ?_ _));exact BK447.out) hb);have n6_:=Aside0.mk (below_step (by repeat (first|(with_reducible first|exact HB.out|apply wA|apply wN|apply wD|refine wS ?_ (IsS71.ge HI442.out)|refine wS ?_ GE447.out)|exact HB.out)) hb);clear HO445;clear HO454;clear HO458;clear HI442;clear BK447;clear HB;have HO445:=n0_;have HO454:=n1_;have HO458:=n2_;have HO462:=n3_;have HI442:=n4_;have BK447:=n5_;have HB:=n6_;clear n0_ n1_ n2_ n3_ n4_ n5_ n6_;(try clear hb);(try clear hb2);(try clear hk);(try clear hi);(try clear ho0);obtain ⟨Ao28,co28,eo28⟩:=Kd.R_slice HO462.out;subst eo28)|(go_at_call 17;(with_reducible refine (trustquorumlaw11_awake.calls k   _ A13.out).mono ?_);rintro e w29 ⟨rfl,hb⟩;have n0_:=Aside0.mk (Kd.R_below (by (with_reducible repeat (first|apply Kd.R_alloc|apply Kd.R_drewN|apply Kd.R_drew));exact HO445.out) hb);have n1_:=Aside0.mk (Kd.R_below (by (with_reducible repeat (first|apply Kd.R_alloc|apply Kd.R_drewN|apply Kd.R_drew));exact HO454.out) hb);have n2_:=Aside0.mk (Kd.R_below (by (with_reducible repeat (first|apply Kd.R_alloc|apply Kd.R_drewN|apply Kd.R_drew));exact HO458.out) hb);have n3_:=Aside0.mk (Kd.R_below (by (with_reducible repeat (first|apply Kd.R_alloc|apply Kd.R_drewN|apply Kd.R_drew));exact HO462.out) hb);have n4_:=Aside0.mk (IsS71.below (by repeat (first|(with_reducible first|exact HI442.out|apply IsS71.alloc|apply IsS71.drewN|apply IsS71.drew|apply IsS71.set_1|refine IsS71.far ?_ NB442_447.out _)|exact HI442.out)) hb);have n5_:=Aside0.mk (blk_below (g:=gb447) (o:=.cells #[.slice Ao17 t443.length co17] 27 (0,0)) (by (with_reducible repeat (first|refine kN ?_ _|refine kD ?_|refine kA ?_ _));exact BK447.out) hb);have n6_:=Aside0.mk (below_step (by repeat (first|(with_reducible first|exact HB.out|apply wA|apply wN|apply wD|refine wS ?_ (IsS71.ge HI442.out)|refine wS ?_ GE447.out)|exact HB.out)) hb);clear HO445;clear HO454;clear HO458;clear HO462;clear HI442;clear BK447;clear HB;have HO445:=n0_;have HO454:=n1_;have HO458:=n2_;have HO462:=n3_;have HI442:=n4_;have BK447:=n5_;have HB:=n6_;clear n0_ n1_ n2_ n3_ n4_ n5_ n6_;(try clear hb);(try clear hb2);(try clear hk);(try clear hi)))
     go_ret
     exact ⟨by first|rfl|exact congrArg (fun b_:Bool=>Ending.returned (Value.bool b_)) HT.out|(simp [errW_none,errW_some] <;> rfl)|(simp [*,errW_none,errW_some] <;> rfl),by repeat (first|(with_reducible first|exact HB.out|apply wA|apply wN|apply wD|refine wS ?_ (IsS71.ge HI442.out)|refine wS ?_ GE447.out)|exact HB.out)⟩
    ·rw [if_neg c12] at H
     have c12b0:((t460.length:Int) == 0)=false:=beq_eq_false_iff_ne.mpr c12
     have c12b1:((t460.length:Int) != 0)=true:=bne_iff_ne.mpr c12
     have c12b2:¬ (t460=[]):=fun h_=>c12 (by rw [h_];rfl)
     exact absurd H (by simp)
   ·rw [if_neg c11] at H
    have c11b0:(t463 == t455)=false:=beq_eq_false_iff_ne.mpr c11
    have c11b1:(t463 != t455)=true:=bne_iff_ne.mpr c11
    exact absurd H (by simp)
  ·rw [if_neg c10] at H
   have c10b0:((Go.bits .and .i64 t455 t459) == t455)=false:=beq_eq_false_iff_ne.mpr c10
   have c10b1:((Go.bits .and .i64 t455 t459) != t455)=true:=bne_iff_ne.mpr c10
   exact absurd H (by simp)
 ·rw [if_neg c9] at H
  have c9b0:((Go.bits .and .i64 t455 t448) == t448)=false:=beq_eq_false_iff_ne.mpr c9
  have c9b1:((Go.bits .and .i64 t455 t448) != t448)=true:=bne_iff_ne.mpr c9
  exact absurd H (by simp)
def trustquorumlaw11_BlockingGrows.Pure:Prop:=∀ (l0:List Int),l0.length≤maxLen→l0.length * 8≤140737488351232→(∀ x∈l0,(Lit.int .i64 x).wf=true)→∃ k,trustquorumlaw11_BlockingGrows.f k l0=some true
theorem trustquorumlaw11_BlockingGrows.walk (P:trustquorumlaw11_BlockingGrows.Pure) (a0:Option Addr) (len0 cap0:Nat) (z0:List Int) (w:World) (w0:(a0=none∧len0=0∧cap0=0∧z0=[]) ∨ ∃ x,a0=some x∧len0≤cap0∧cap0≤maxLen∧z0.length=cap0∧(∀ i,i < z0.length→w.cell? (x.add i)=some (.int .i64 (z0.getD i 0)))∧∀ n∈z0,(Lit.int .i64 n).wf=true) (y0:len0 * 8≤140737488351232) :
  Calls Try.prog 4 #[.slice a0 len0 cap0] w fun e w'=>e=.returned (.bool true)∧Below w.heap.size w w':=by
 obtain ⟨l0,rfl,hr0,hm0,hw0,hc0⟩:=ReadsInt.ofRowC w0
 obtain ⟨k,h⟩:=P l0 hm0 y0 hw0
 refine (trustquorumlaw11_BlockingGrows.calls k _ _ l0 w (Kd.C_of_reads (d:=(0:Int)) (h1:=fun _=>rfl) hr0) hc0 h).mono ?_
 rintro e w' ⟨rfl,hd⟩
 exact ⟨rfl,hd⟩
end Go.Proofs.Ytkjlcbfjllpcnaa.X
namespace Go.Proofs.Ytkjlcbfjllpcnaa.X
open Go.RowKit Go.Proofs.YtkjlcbfjllpcnaaW.PrintWords Go.Proofs.YtkjlcbfjllpcnaaW.PrintLast Go.Proofs.YtkjlcbfjllpcnaaW.PrintMore
set_option linter.unusedVariables false
mutual
def depL : List S32 → Nat
  | [] => 0
  | t :: ts => max (dep t) (depL ts)
def dep : S32 → Nat
  | ⟨_, _, ts⟩ => depL ts + 1
end
mutual
def sizL : List S32 → Nat
  | [] => 0
  | t :: ts => siz t + sizL ts
def siz : S32 → Nat
  | ⟨_, l, ts⟩ => l.length + ts.length + sizL ts
end
mutual
def useL : List S32 → Nat
  | [] => 0
  | t :: ts => uses t ||| useL ts
def uses : S32 → Nat
  | ⟨_, l, ts⟩ => l.foldl (fun a x => if noNode x = true then a else a ||| 2 ^ x.toNat) 0 ||| useL ts
end
def ofS (a : Nat) : List Int → Nat × Int
  | [] => (a, 0)
  | x :: xs => if noNode x = true then (0, 5) else if inS a x = true then (0, 6) else ofS (a ||| 2 ^ x.toNat) xs
mutual
def chkL : List S32 → Int
  | [] => 0
  | t :: ts => if chk t = 0 then chkL ts else chk t
def chk : S32 → Int
  | ⟨n, l, ts⟩ => if n < 1 ∨ n > ((l.length + ts.length : Nat) : Int) then 4 else if (l.any noNode) = true then 5 else if (ofS 0 l).2 = 0 then chkL ts else (ofS 0 l).2
end
def validT (t : S32) : Int := if dep t > 4 then 3 else if siz t > 200 then 3 else chk t
theorem dep_eq (t : S32) : dep t = depL t.f2 + 1 := by cases t; rw [dep]
theorem siz_eq (t : S32) : siz t = t.f1.length + t.f2.length + sizL t.f2 := by cases t; rw [siz]
theorem chk_eq (t : S32) : chk t = if t.f0 < 1 ∨ t.f0 > ((t.f1.length + t.f2.length : Nat) : Int) then 4 else if (t.f1.any noNode) = true then 5 else if (ofS 0 t.f1).2 = 0 then chkL t.f2 else (ofS 0 t.f1).2 := by cases t; rw [chk]
theorem uses_eq (t : S32) : uses t = t.f1.foldl (fun a x => if noNode x = true then a else a ||| 2 ^ x.toNat) 0 ||| useL t.f2 := by cases t; rw [uses]
mutual
theorem dep_le : ∀ t : S32, dep t ≤ wt t
  | ⟨_, l, ts⟩ => by rw [dep, wt]; have := depL_le ts; omega
theorem depL_le : ∀ l : List S32, depL l ≤ wtL l
  | [] => Nat.le_refl _
  | t :: ts => by rw [depL, wtL]; have := dep_le t; have := depL_le ts; omega
end
mutual
theorem siz_le : ∀ t : S32, siz t ≤ 2 * wt t
  | ⟨_, l, ts⟩ => by rw [siz, wt]; have := sizL_le ts; omega
theorem sizL_le : ∀ l : List S32, l.length + sizL l ≤ 2 * wtL l
  | [] => Nat.le_refl _
  | t :: ts => by rw [sizL, wtL, List.length_cons]; have := siz_le t; have := sizL_le ts; have := wt_pos t; have : 1 + siz t ≤ 2 * wt t := by
                    cases t with | mk n l xs => rw [siz, wt]; have := sizL_le xs; omega
                  omega
end
theorem or_lt {a b n : Nat} (ha : a < 2 ^ n) (hb : b < 2 ^ n) : a ||| b < 2 ^ n := Nat.or_lt_two_pow ha hb
theorem or_lt10 {a b : Nat} (ha : a < 1024) (hb : b < 1024) : a ||| b < 1024 := or_lt (n := 10) ha hb
theorem two_lt10 {k : Nat} (h : k < 10) : 2 ^ k < 1024 := Nat.pow_lt_pow_right (a := 2) (by decide) h
theorem noNode_not {x : Int} (h : noNode x = false) : 0 ≤ x ∧ x < 10 := by simp [noNode] at h; omega
theorem foldUse_lt (l : List Int) : ∀ a, a < 1024 → l.foldl (fun a x => if noNode x = true then a else a ||| 2 ^ x.toNat) a < 1024 := by
  induction l with
  | nil => intro a h; exact h
  | cons x xs ih =>
    intro a h
    rw [List.foldl_cons]
    refine ih _ ?_
    cases hx : noNode x
    · have := noNode_not hx
      exact or_lt10 h (two_lt10 (by omega))
    · exact h
mutual
theorem uses_lt : ∀ t : S32, uses t < 1024
  | ⟨_, l, ts⟩ => by rw [uses]; exact or_lt10 (foldUse_lt l 0 (by decide)) (useL_lt ts)
theorem useL_lt : ∀ l : List S32, useL l < 1024
  | [] => by rw [useL]; decide
  | t :: ts => by rw [useL]; exact or_lt10 (uses_lt t) (useL_lt ts)
end
theorem mx_nat (a b : Nat) : mx (a : Int) (b : Int) = ((max a b : Nat) : Int) := by unfold mx; split <;> omega
theorem Depth_ev : ∀ (n : Nat) (t : S32), wt t < n → n < 1152921504606846976 → Ev (fun k => threshold_Depth.f k t.f0 t.f1 t.f2) (dep t : Int)
  | 0, t, h, _ => absurd h (by omega)
  | n + 1, t, h, hn => by
    rw [wt_eq] at h
    have hl := len_wtL t.f2
    have hd := depL_le t.f2
    rw [dep_eq]
    (refine Ev.shift ?_; simp only [threshold_Depth.f, Option.bind_some, ↓reduceIte, Bool.false_eq_true, reduceCtorEq, decide_eq_true_eq, Go.Proofs.YtkjlcbfjllpcnaaW.PrintWords.rd, rd_T32, rd_T34])
    refine Ev.fold (xs := t.f2) (L := fun (c : Nat) i k => threshold_Depth.l0 k (c : Int) t.f2 (t.f2.length : Int) i) (by omega) (fun pre ys c => max c (depL ys) = depL t.f2) ?_ ?_ 0 (by omega)
    · intro c i hI hi
      rw [depL] at hI
      (refine Ev.shift ?_; simp only [threshold_Depth.l0, hi, Option.bind_some, ↓reduceIte, Bool.false_eq_true, reduceCtorEq, decide_eq_true_eq, Go.Proofs.YtkjlcbfjllpcnaaW.PrintWords.rd, rd_T32, rd_T34])
      rw [show wrap64 ((c : Int) + 1) = ((depL t.f2 + 1 : Nat) : Int) by rw [w64 (by omega) (by omega)]; omega]
      exact Ev.now _
    · intro pre y ys c i e hI hi h0 hlt hw hrd
      rw [depL] at hI
      refine Or.inl ⟨max c (dep y), by omega, fun k => ?_⟩
      (refine Ev.shift ?_; simp only [threshold_Depth.l0, h0, hlt, hw, hrd, Option.bind_some, ↓reduceIte, Bool.false_eq_true, reduceCtorEq, decide_eq_true_eq, Go.Proofs.YtkjlcbfjllpcnaaW.PrintWords.rd, rd_T32, rd_T34])
      refine Ev.bind1 (Depth_ev n y (by have := wt_mem (show y ∈ t.f2 by rw [e]; simp); omega) (by omega)) ?_
      rw [mx_nat]
      exact k
theorem Size_ev : ∀ (n : Nat) (t : S32), wt t < n → n < 1152921504606846976 → Ev (fun k => threshold_Size.f k t.f0 t.f1 t.f2) (siz t : Int)
  | 0, t, h, _ => absurd h (by omega)
  | n + 1, t, h, hn => by
    have hs := siz_le t
    have hw := h
    rw [wt_eq] at h
    have hl := len_wtL t.f2
    rw [siz_eq] at hs ⊢
    (refine Ev.shift ?_; simp only [threshold_Size.f, Option.bind_some, ↓reduceIte, Bool.false_eq_true, reduceCtorEq, decide_eq_true_eq, Go.Proofs.YtkjlcbfjllpcnaaW.PrintWords.rd, rd_T32, rd_T34])
    rw [show wrap64 ((t.f1.length : Int) + (t.f2.length : Int)) = ((t.f1.length + t.f2.length : Nat) : Int) by rw [w64 (by omega) (by omega)]; omega]
    refine Ev.fold (L := fun (c : Nat) i k => threshold_Size.l0 k (c : Int) t.f2 (t.f2.length : Int) i) (by omega) (fun pre ys c => c + sizL ys = t.f1.length + t.f2.length + sizL t.f2) ?_ ?_ (t.f1.length + t.f2.length) rfl
    · intro c i hI hi
      rw [sizL] at hI
      (refine Ev.shift ?_; simp only [threshold_Size.l0, hi, Option.bind_some, ↓reduceIte, Bool.false_eq_true, reduceCtorEq, decide_eq_true_eq, Go.Proofs.YtkjlcbfjllpcnaaW.PrintWords.rd, rd_T32, rd_T34])
      rw [← hI]
      exact Ev.now _
    · intro pre y ys c i e hI hi h0 hlt hw hrd
      rw [sizL] at hI
      refine Or.inl ⟨c + siz y, by omega, fun k => ?_⟩
      (refine Ev.shift ?_; simp only [threshold_Size.l0, h0, hlt, hw, hrd, Option.bind_some, ↓reduceIte, Bool.false_eq_true, reduceCtorEq, decide_eq_true_eq, Go.Proofs.YtkjlcbfjllpcnaaW.PrintWords.rd, rd_T32, rd_T34])
      refine Ev.bind1 (Size_ev n y (by have := wt_mem (show y ∈ t.f2 by rw [e]; simp); omega) (by omega)) ?_
      rw [show wrap64 ((c : Int) + (siz y : Int)) = ((c + siz y : Nat) : Int) by rw [w64 (by omega) (by omega)]; omega]
      exact k
theorem Of_ev (l : List Int) (hl : l.length < 1152921504606846976) : Ev (fun k => nodeset_Of.f k l) (((ofS 0 l).1 : Int), (ofS 0 l).2) := by
  refine Ev.congr (f := fun k => nodeset_Of.l0 k ((0 : Nat) : Int) l (l.length : Int) 0) (fun k => rfl) ?_
  refine Ev.fold (L := fun (c : Nat) i k => nodeset_Of.l0 k (c : Int) l (l.length : Int) i) (by omega) (fun pre ys c => ofS c ys = ofS 0 l ∧ c < 1024) ?_ ?_ 0 ⟨rfl, by decide⟩
  · rintro c i ⟨hI, hc⟩ hi
    (refine Ev.shift ?_; simp only [nodeset_Of.l0, hi, Option.bind_some, ↓reduceIte, Bool.false_eq_true, reduceCtorEq, decide_eq_true_eq, Go.Proofs.YtkjlcbfjllpcnaaW.PrintWords.rd, rd_T32, rd_T34])
    rw [← hI]
    exact Ev.now _
  · rintro pre y ys c i e ⟨hI, hc⟩ hi h0 hlt hw hrd
    rw [ofS] at hI
    cases hn : noNode y
    · have hb := noNode_not hn
      simp only [hn, Bool.false_eq_true, if_false] at hI
      cases hs : inS c y
      · refine Or.inl ⟨c ||| 2 ^ y.toNat, ⟨by simpa [hs] using hI, or_lt10 hc (two_lt10 (by omega))⟩, fun k => ?_⟩
        have h2 := two_lt10 (show y.toNat < 10 by omega)
        have e2 : Go.bits .or .i64 (c : Int) (shl .i64 1 y) = ((c ||| 2 ^ y.toNat : Nat) : Int) := by
          rw [show y = (y.toNat : Int) by omega, shl_nat (by omega), Int.toNat_natCast, or_nat (by omega) (by omega)]
        have h1 : ¬ y < 0 := by omega
        have h3 : decide (y ≥ 10) = false := by simp; omega
        (refine Ev.shift ?_; simp only [nodeset_Of.l0, h0, hlt, hw, hrd, h1, h3, Option.bind_some, ↓reduceIte, Bool.false_eq_true, reduceCtorEq, decide_eq_true_eq, Go.Proofs.YtkjlcbfjllpcnaaW.PrintWords.rd, rd_T32, rd_T34])
        (refine Ev.shift ?_; simp only [nodeset_Of.j1, Has_eq hc, hs, hb.1, hw, Option.bind_some, ↓reduceIte, Bool.false_eq_true, reduceCtorEq, decide_eq_true_eq, Go.Proofs.YtkjlcbfjllpcnaaW.PrintWords.rd, rd_T32, rd_T34])
        rw [e2]
        exact k
      · refine Or.inr ?_
        simp only [hs, if_true] at hI
        have h1 : ¬ y < 0 := by omega
        have h3 : decide (y ≥ 10) = false := by simp; omega
        (refine Ev.shift ?_; simp only [nodeset_Of.l0, h0, hlt, hw, hrd, h1, h3, Option.bind_some, ↓reduceIte, Bool.false_eq_true, reduceCtorEq, decide_eq_true_eq, Go.Proofs.YtkjlcbfjllpcnaaW.PrintWords.rd, rd_T32, rd_T34])
        (refine Ev.shift ?_; simp only [nodeset_Of.j1, Has_eq hc, hs, Option.bind_some, ↓reduceIte, Bool.false_eq_true, reduceCtorEq, decide_eq_true_eq, Go.Proofs.YtkjlcbfjllpcnaaW.PrintWords.rd, rd_T32, rd_T34])
        rw [← hI]
        exact Ev.now _
    · refine Or.inr ?_
      simp only [hn, if_true] at hI
      rw [← hI]
      by_cases h1 : y < 0
      · (refine Ev.shift ?_; simp only [nodeset_Of.l0, h0, hlt, hw, hrd, h1, Option.bind_some, ↓reduceIte, Bool.false_eq_true, reduceCtorEq, decide_eq_true_eq, Go.Proofs.YtkjlcbfjllpcnaaW.PrintWords.rd, rd_T32, rd_T34])
        (refine Ev.shift ?_; simp only [nodeset_Of.j1, Option.bind_some, ↓reduceIte, Bool.false_eq_true, reduceCtorEq, decide_eq_true_eq, Go.Proofs.YtkjlcbfjllpcnaaW.PrintWords.rd, rd_T32, rd_T34])
        exact Ev.now _
      · have h3 : decide (y ≥ 10) = true := by simp [noNode] at hn ⊢; omega
        (refine Ev.shift ?_; simp only [nodeset_Of.l0, h0, hlt, hw, hrd, h1, h3, Option.bind_some, ↓reduceIte, Bool.false_eq_true, reduceCtorEq, decide_eq_true_eq, Go.Proofs.YtkjlcbfjllpcnaaW.PrintWords.rd, rd_T32, rd_T34])
        (refine Ev.shift ?_; simp only [nodeset_Of.j1, Option.bind_some, ↓reduceIte, Bool.false_eq_true, reduceCtorEq, decide_eq_true_eq, Go.Proofs.YtkjlcbfjllpcnaaW.PrintWords.rd, rd_T32, rd_T34])
        exact Ev.now _
theorem Uses_ev : ∀ (n : Nat) (t : S32), wt t < n → n < 1152921504606846976 → Ev (fun k => threshold_Uses.f k t.f0 t.f1 t.f2) (uses t : Int)
  | 0, t, h, _ => absurd h (by omega)
  | n + 1, t, h, hn => by
    rw [wt_eq] at h
    have hl := len_wtL t.f2
    have hU := uses_lt t
    rw [uses_eq] at hU ⊢
    generalize hT : (t.f1.foldl (fun a x => if noNode x = true then a else a ||| 2 ^ x.toNat) 0 ||| useL t.f2) = T at hU
    have l1 : ∀ c, c < 1024 → c ||| useL t.f2 = T → Ev (fun k => threshold_Uses.l1 k (c : Int) t.f2 (t.f2.length : Int) 0) (T : Int) := by
      intro c hc hcT
      refine Ev.fold (L := fun (c : Nat) i k => threshold_Uses.l1 k (c : Int) t.f2 (t.f2.length : Int) i) (by omega) (fun pre ys c => c ||| useL ys = T ∧ c < 1024) ?_ ?_ c ⟨hcT, hc⟩
      · rintro c i ⟨hI, hc⟩ hi
        rw [useL, Nat.or_zero] at hI
        (refine Ev.shift ?_; simp only [threshold_Uses.l1, hi, Option.bind_some, ↓reduceIte, Bool.false_eq_true, reduceCtorEq, decide_eq_true_eq, Go.Proofs.YtkjlcbfjllpcnaaW.PrintWords.rd, rd_T32, rd_T34])
        rw [← hI]
        exact Ev.now _
      · rintro pre y ys c i e ⟨hI, hc⟩ hi h0 hlt hw hrd
        rw [useL] at hI
        refine Or.inl ⟨c ||| uses y, ⟨by rw [Nat.or_assoc]; exact hI, or_lt10 hc (uses_lt y)⟩, fun k => ?_⟩
        (refine Ev.shift ?_; simp only [threshold_Uses.l1, h0, hlt, hw, hrd, Option.bind_some, ↓reduceIte, Bool.false_eq_true, reduceCtorEq, decide_eq_true_eq, Go.Proofs.YtkjlcbfjllpcnaaW.PrintWords.rd, rd_T32, rd_T34])
        refine Ev.bind1 (Uses_ev n y (by have := wt_mem (show y ∈ t.f2 by rw [e]; simp); omega) (by omega)) ?_
        have := uses_lt y
        rw [or_nat (by omega) (by omega)]
        exact k
    (refine Ev.shift ?_; simp only [threshold_Uses.f, Option.bind_some, ↓reduceIte, Bool.false_eq_true, reduceCtorEq, decide_eq_true_eq, Go.Proofs.YtkjlcbfjllpcnaaW.PrintWords.rd, rd_T32, rd_T34])
    refine Ev.fold (L := fun (c : Nat) i k => threshold_Uses.l0 k (c : Int) t.f1 (t.f1.length : Int) i t.f0 t.f1 t.f2) (by omega) (fun pre ys c => (ys.foldl (fun a x => if noNode x = true then a else a ||| 2 ^ x.toNat) c) ||| useL t.f2 = T ∧ c < 1024) ?_ ?_ 0 ⟨hT, by decide⟩
    · rintro c i ⟨hI, hc⟩ hi
      (refine Ev.shift ?_; simp only [threshold_Uses.l0, hi, Option.bind_some, ↓reduceIte, Bool.false_eq_true, reduceCtorEq, decide_eq_true_eq, Go.Proofs.YtkjlcbfjllpcnaaW.PrintWords.rd, rd_T32, rd_T34])
      exact l1 c hc hI
    · rintro pre y ys c i e ⟨hI, hc⟩ hi h0 hlt hw hrd
      rw [List.foldl_cons] at hI
      cases hn : noNode y
      · have hb := noNode_not hn
        have h2 := two_lt10 (show y.toNat < 10 by omega)
        refine Or.inl ⟨c ||| 2 ^ y.toNat, ⟨by simpa [hn] using hI, or_lt10 hc h2⟩, fun k => ?_⟩
        have e2 : Go.bits .or .i64 (c : Int) (shl .i64 1 y) = ((c ||| 2 ^ y.toNat : Nat) : Int) := by
          rw [show y = (y.toNat : Int) by omega, shl_nat (by omega), Int.toNat_natCast, or_nat (by omega) (by omega)]
        have h3 : y ≥ 0 := by omega
        have h4 : y < 10 := by omega
        (refine Ev.shift ?_; simp only [threshold_Uses.l0, threshold_node.f, h0, hlt, hw, hrd, h3, h4, decide_true, hb.1, Option.bind_some, ↓reduceIte, Bool.false_eq_true, reduceCtorEq, decide_eq_true_eq, Go.Proofs.YtkjlcbfjllpcnaaW.PrintWords.rd, rd_T32, rd_T34])
        rw [e2]
        exact k
      · refine Or.inl ⟨c, ⟨by simpa [hn] using hI, hc⟩, fun k => ?_⟩
        by_cases h3 : y ≥ 0
        · have h4 : ¬ y < 10 := by simp [noNode] at hn; omega
          (refine Ev.shift ?_; simp only [threshold_Uses.l0, threshold_node.f, h0, hlt, hw, hrd, h3, h4, decide_false, Option.bind_some, ↓reduceIte, Bool.false_eq_true, reduceCtorEq, decide_eq_true_eq, Go.Proofs.YtkjlcbfjllpcnaaW.PrintWords.rd, rd_T32, rd_T34])
          exact k
        · (refine Ev.shift ?_; simp only [threshold_Uses.l0, threshold_node.f, h0, hlt, hw, hrd, h3, Option.bind_some, ↓reduceIte, Bool.false_eq_true, reduceCtorEq, decide_eq_true_eq, Go.Proofs.YtkjlcbfjllpcnaaW.PrintWords.rd, rd_T32, rd_T34])
          exact k
theorem level_ev : ∀ (n : Nat) (t : S32), wt t < n → n < 1152921504606846976 → Ev (fun k => threshold_level.f k t.f0 t.f1 t.f2) (chk t)
  | 0, t, h, _ => absurd h (by omega)
  | n + 1, t, h, hn => by
    rw [wt_eq] at h
    have hl := len_wtL t.f2
    rw [chk_eq]
    have el : wrap64 ((t.f1.length : Int) + (t.f2.length : Int)) = ((t.f1.length + t.f2.length : Nat) : Int) := by rw [w64 (by omega) (by omega)]; omega
    by_cases h1 : t.f0 < 1
    · (refine Ev.shift ?_; simp only [threshold_level.f, h1, true_or, Option.bind_some, ↓reduceIte, Bool.false_eq_true, reduceCtorEq, decide_eq_true_eq, Go.Proofs.YtkjlcbfjllpcnaaW.PrintWords.rd, rd_T32, rd_T34])
      (refine Ev.shift ?_; simp only [threshold_level.j0, Option.bind_some, ↓reduceIte, Bool.false_eq_true, reduceCtorEq, decide_eq_true_eq, Go.Proofs.YtkjlcbfjllpcnaaW.PrintWords.rd, rd_T32, rd_T34])
      exact Ev.now _
    by_cases h2 : t.f0 > ((t.f1.length + t.f2.length : Nat) : Int)
    · (refine Ev.shift ?_; simp only [threshold_level.f, h1, h2, el, or_true, decide_true, Option.bind_some, ↓reduceIte, Bool.false_eq_true, reduceCtorEq, decide_eq_true_eq, Go.Proofs.YtkjlcbfjllpcnaaW.PrintWords.rd, rd_T32, rd_T34])
      (refine Ev.shift ?_; simp only [threshold_level.j0, Option.bind_some, ↓reduceIte, Bool.false_eq_true, reduceCtorEq, decide_eq_true_eq, Go.Proofs.YtkjlcbfjllpcnaaW.PrintWords.rd, rd_T32, rd_T34])
      exact Ev.now _
    (refine Ev.shift ?_; simp only [threshold_level.f, h1, h2, el, or_false, decide_false, Option.bind_some, ↓reduceIte, Bool.false_eq_true, reduceCtorEq, decide_eq_true_eq, Go.Proofs.YtkjlcbfjllpcnaaW.PrintWords.rd, rd_T32, rd_T34])
    (refine Ev.shift ?_; simp only [threshold_level.j0, containsFunc_level.f, Option.bind_some, ↓reduceIte, Bool.false_eq_true, reduceCtorEq, decide_eq_true_eq, Go.Proofs.YtkjlcbfjllpcnaaW.PrintWords.rd, rd_T32, rd_T34])
    cases hn : t.f1.any noNode
    · simp only [Bool.false_eq_true, if_false]
      refine Ev.bind1 (Of_ev t.f1 (by omega)) ?_
      by_cases h3 : (ofS 0 t.f1).2 = 0
      · simp only [h3, if_true]
        refine Ev.fold (L := fun (c : Unit) i k => threshold_level.l0 k t.f2 (t.f2.length : Int) i) (by omega) (fun pre ys c => chkL ys = chkL t.f2) ?_ ?_ () rfl
        · intro c i hI hi
          rw [chkL] at hI
          (refine Ev.shift ?_; simp only [threshold_level.l0, hi, Option.bind_some, ↓reduceIte, Bool.false_eq_true, reduceCtorEq, decide_eq_true_eq, Go.Proofs.YtkjlcbfjllpcnaaW.PrintWords.rd, rd_T32, rd_T34])
          rw [← hI]
          exact Ev.now _
        · intro pre y ys c i e hI hi h0 hlt hw hrd
          rw [chkL] at hI
          have hy := level_ev n y (by have := wt_mem (show y ∈ t.f2 by rw [e]; simp); omega) (by omega)
          by_cases h4 : chk y = 0
          · refine Or.inl ⟨(), by rw [← hI, if_pos h4], fun k => ?_⟩
            (refine Ev.shift ?_; simp only [threshold_level.l0, h0, hlt, hw, hrd, Option.bind_some, ↓reduceIte, Bool.false_eq_true, reduceCtorEq, decide_eq_true_eq, Go.Proofs.YtkjlcbfjllpcnaaW.PrintWords.rd, rd_T32, rd_T34])
            refine Ev.bind1 hy ?_
            simp only [h4, if_true]
            exact k
          · refine Or.inr ?_
            rw [← hI, if_neg h4]
            (refine Ev.shift ?_; simp only [threshold_level.l0, h0, hlt, hw, hrd, Option.bind_some, ↓reduceIte, Bool.false_eq_true, reduceCtorEq, decide_eq_true_eq, Go.Proofs.YtkjlcbfjllpcnaaW.PrintWords.rd, rd_T32, rd_T34])
            refine Ev.bind1 hy ?_
            simp only [h4, if_false]
            exact Ev.now _
      · simp only [h3, if_false]
        exact Ev.now _
    · simp only [if_true]
      exact Ev.now _
theorem Valid_ev (t : S32) (h : wt t < 1000000) : Ev (fun k => threshold_Valid.f k t.f0 t.f1 t.f2) (validT t) := by
  simp only [threshold_Valid.f, validT, Option.bind_some, ↓reduceIte, Bool.false_eq_true, reduceCtorEq, decide_eq_true_eq, Go.Proofs.YtkjlcbfjllpcnaaW.PrintWords.rd, rd_T32, rd_T34]
  refine Ev.bind1 (Depth_ev 1000000 t h (by decide)) ?_
  by_cases h1 : dep t > 4
  · have : (dep t : Int) > 4 := by omega
    simp only [h1, this, Option.bind_some, ↓reduceIte, Bool.false_eq_true, reduceCtorEq, decide_eq_true_eq, Go.Proofs.YtkjlcbfjllpcnaaW.PrintWords.rd, rd_T32, rd_T34]
    exact Ev.now _
  have h2 : ¬ (dep t : Int) > 4 := by omega
  simp only [h1, h2, Option.bind_some, ↓reduceIte, Bool.false_eq_true, reduceCtorEq, decide_eq_true_eq, Go.Proofs.YtkjlcbfjllpcnaaW.PrintWords.rd, rd_T32, rd_T34]
  refine Ev.bind1 (Size_ev 1000000 t h (by decide)) ?_
  by_cases h3 : siz t > 200
  · have : (siz t : Int) > 200 := by omega
    simp only [h3, this, Option.bind_some, ↓reduceIte, Bool.false_eq_true, reduceCtorEq, decide_eq_true_eq, Go.Proofs.YtkjlcbfjllpcnaaW.PrintWords.rd, rd_T32, rd_T34]
    exact Ev.now _
  have h4 : ¬ (siz t : Int) > 200 := by omega
  simp only [h3, h4, Option.bind_some, ↓reduceIte, Bool.false_eq_true, reduceCtorEq, decide_eq_true_eq, Go.Proofs.YtkjlcbfjllpcnaaW.PrintWords.rd, rd_T32, rd_T34]
  refine Ev.bind1 (level_ev 1000000 t h (by decide)) ?_
  exact Ev.now _
theorem ref_Depth_ev : ∀ (n : Nat) (t : S32), wt t < n → n < 1152921504606846976 → Ev (fun k => trustquorumref02_Depth.f k t.f0 t.f1 t.f2) (dep t : Int)
  | 0, t, h, _ => absurd h (by omega)
  | n + 1, t, h, hn => by
    rw [wt_eq] at h
    have hl := len_wtL t.f2
    have hd := depL_le t.f2
    rw [dep_eq]
    (refine Ev.shift ?_; simp only [trustquorumref02_Depth.f, Option.bind_some, ↓reduceIte, Bool.false_eq_true, reduceCtorEq, decide_eq_true_eq, Go.Proofs.YtkjlcbfjllpcnaaW.PrintWords.rd, rd_T32, rd_T34])
    refine Ev.fold (xs := t.f2) (L := fun (c : Nat) i k => trustquorumref02_Depth.l0 k (c : Int) t.f2 (t.f2.length : Int) i) (by omega) (fun pre ys c => max c (depL ys) = depL t.f2) ?_ ?_ 0 (by omega)
    · intro c i hI hi
      rw [depL] at hI
      (refine Ev.shift ?_; simp only [trustquorumref02_Depth.l0, hi, Option.bind_some, ↓reduceIte, Bool.false_eq_true, reduceCtorEq, decide_eq_true_eq, Go.Proofs.YtkjlcbfjllpcnaaW.PrintWords.rd, rd_T32, rd_T34])
      rw [show wrap64 ((c : Int) + 1) = ((depL t.f2 + 1 : Nat) : Int) by rw [w64 (by omega) (by omega)]; omega]
      exact Ev.now _
    · intro pre y ys c i e hI hi h0 hlt hw hrd
      rw [depL] at hI
      refine Or.inl ⟨max c (dep y), by omega, fun k => ?_⟩
      (refine Ev.shift ?_; simp only [trustquorumref02_Depth.l0, h0, hlt, hw, hrd, Option.bind_some, ↓reduceIte, Bool.false_eq_true, reduceCtorEq, decide_eq_true_eq, Go.Proofs.YtkjlcbfjllpcnaaW.PrintWords.rd, rd_T32, rd_T34])
      refine Ev.bind1 (ref_Depth_ev n y (by have := wt_mem (show y ∈ t.f2 by rw [e]; simp); omega) (by omega)) ?_
      rw [mx_nat]
      exact k
theorem ref_Size_ev : ∀ (n : Nat) (t : S32), wt t < n → n < 1152921504606846976 → Ev (fun k => trustquorumref02_Size.f k t.f0 t.f1 t.f2) (siz t : Int)
  | 0, t, h, _ => absurd h (by omega)
  | n + 1, t, h, hn => by
    have hs := siz_le t
    have hw := h
    rw [wt_eq] at h
    have hl := len_wtL t.f2
    rw [siz_eq] at hs ⊢
    (refine Ev.shift ?_; simp only [trustquorumref02_Size.f, Option.bind_some, ↓reduceIte, Bool.false_eq_true, reduceCtorEq, decide_eq_true_eq, Go.Proofs.YtkjlcbfjllpcnaaW.PrintWords.rd, rd_T32, rd_T34])
    rw [show wrap64 ((t.f1.length : Int) + (t.f2.length : Int)) = ((t.f1.length + t.f2.length : Nat) : Int) by rw [w64 (by omega) (by omega)]; omega]
    refine Ev.fold (L := fun (c : Nat) i k => trustquorumref02_Size.l0 k (c : Int) t.f2 (t.f2.length : Int) i) (by omega) (fun pre ys c => c + sizL ys = t.f1.length + t.f2.length + sizL t.f2) ?_ ?_ (t.f1.length + t.f2.length) rfl
    · intro c i hI hi
      rw [sizL] at hI
      (refine Ev.shift ?_; simp only [trustquorumref02_Size.l0, hi, Option.bind_some, ↓reduceIte, Bool.false_eq_true, reduceCtorEq, decide_eq_true_eq, Go.Proofs.YtkjlcbfjllpcnaaW.PrintWords.rd, rd_T32, rd_T34])
      rw [← hI]
      exact Ev.now _
    · intro pre y ys c i e hI hi h0 hlt hw hrd
      rw [sizL] at hI
      refine Or.inl ⟨c + siz y, by omega, fun k => ?_⟩
      (refine Ev.shift ?_; simp only [trustquorumref02_Size.l0, h0, hlt, hw, hrd, Option.bind_some, ↓reduceIte, Bool.false_eq_true, reduceCtorEq, decide_eq_true_eq, Go.Proofs.YtkjlcbfjllpcnaaW.PrintWords.rd, rd_T32, rd_T34])
      refine Ev.bind1 (ref_Size_ev n y (by have := wt_mem (show y ∈ t.f2 by rw [e]; simp); omega) (by omega)) ?_
      rw [show wrap64 ((c : Int) + (siz y : Int)) = ((c + siz y : Nat) : Int) by rw [w64 (by omega) (by omega)]; omega]
      exact k
theorem ref_Of_ev (l : List Int) (hl : l.length < 1152921504606846976) : Ev (fun k => trustquorumref01_Of.f k l) (((ofS 0 l).1 : Int), (ofS 0 l).2) := by
  refine Ev.congr (f := fun k => trustquorumref01_Of.l0 k ((0 : Nat) : Int) l (l.length : Int) 0) (fun k => rfl) ?_
  refine Ev.fold (L := fun (c : Nat) i k => trustquorumref01_Of.l0 k (c : Int) l (l.length : Int) i) (by omega) (fun pre ys c => ofS c ys = ofS 0 l ∧ c < 1024) ?_ ?_ 0 ⟨rfl, by decide⟩
  · rintro c i ⟨hI, hc⟩ hi
    (refine Ev.shift ?_; simp only [trustquorumref01_Of.l0, hi, Option.bind_some, ↓reduceIte, Bool.false_eq_true, reduceCtorEq, decide_eq_true_eq, Go.Proofs.YtkjlcbfjllpcnaaW.PrintWords.rd, rd_T32, rd_T34])
    rw [← hI]
    exact Ev.now _
  · rintro pre y ys c i e ⟨hI, hc⟩ hi h0 hlt hw hrd
    rw [ofS] at hI
    cases hn : noNode y
    · have hb := noNode_not hn
      simp only [hn, Bool.false_eq_true, if_false] at hI
      cases hs : inS c y
      · refine Or.inl ⟨c ||| 2 ^ y.toNat, ⟨by simpa [hs] using hI, or_lt10 hc (two_lt10 (by omega))⟩, fun k => ?_⟩
        have h2 := two_lt10 (show y.toNat < 10 by omega)
        have e2 : Go.bits .or .i64 (c : Int) (shl .i64 1 y) = ((c ||| 2 ^ y.toNat : Nat) : Int) := by
          rw [show y = (y.toNat : Int) by omega, shl_nat (by omega), Int.toNat_natCast, or_nat (by omega) (by omega)]
        have h1 : ¬ y < 0 := by omega
        have h3 : decide (y ≥ 10) = false := by simp; omega
        (refine Ev.shift ?_; simp only [trustquorumref01_Of.l0, h0, hlt, hw, hrd, h1, h3, Option.bind_some, ↓reduceIte, Bool.false_eq_true, reduceCtorEq, decide_eq_true_eq, Go.Proofs.YtkjlcbfjllpcnaaW.PrintWords.rd, rd_T32, rd_T34])
        (refine Ev.shift ?_; simp only [trustquorumref01_Of.j1, ref01_Has_eq hc, hs, hb.1, hw, Option.bind_some, ↓reduceIte, Bool.false_eq_true, reduceCtorEq, decide_eq_true_eq, Go.Proofs.YtkjlcbfjllpcnaaW.PrintWords.rd, rd_T32, rd_T34])
        rw [e2]
        exact k
      · refine Or.inr ?_
        simp only [hs, if_true] at hI
        have h1 : ¬ y < 0 := by omega
        have h3 : decide (y ≥ 10) = false := by simp; omega
        (refine Ev.shift ?_; simp only [trustquorumref01_Of.l0, h0, hlt, hw, hrd, h1, h3, Option.bind_some, ↓reduceIte, Bool.false_eq_true, reduceCtorEq, decide_eq_true_eq, Go.Proofs.YtkjlcbfjllpcnaaW.PrintWords.rd, rd_T32, rd_T34])
        (refine Ev.shift ?_; simp only [trustquorumref01_Of.j1, ref01_Has_eq hc, hs, Option.bind_some, ↓reduceIte, Bool.false_eq_true, reduceCtorEq, decide_eq_true_eq, Go.Proofs.YtkjlcbfjllpcnaaW.PrintWords.rd, rd_T32, rd_T34])
        rw [← hI]
        exact Ev.now _
    · refine Or.inr ?_
      simp only [hn, if_true] at hI
      rw [← hI]
      by_cases h1 : y < 0
      · (refine Ev.shift ?_; simp only [trustquorumref01_Of.l0, h0, hlt, hw, hrd, h1, Option.bind_some, ↓reduceIte, Bool.false_eq_true, reduceCtorEq, decide_eq_true_eq, Go.Proofs.YtkjlcbfjllpcnaaW.PrintWords.rd, rd_T32, rd_T34])
        (refine Ev.shift ?_; simp only [trustquorumref01_Of.j1, Option.bind_some, ↓reduceIte, Bool.false_eq_true, reduceCtorEq, decide_eq_true_eq, Go.Proofs.YtkjlcbfjllpcnaaW.PrintWords.rd, rd_T32, rd_T34])
        exact Ev.now _
      · have h3 : decide (y ≥ 10) = true := by simp [noNode] at hn ⊢; omega
        (refine Ev.shift ?_; simp only [trustquorumref01_Of.l0, h0, hlt, hw, hrd, h1, h3, Option.bind_some, ↓reduceIte, Bool.false_eq_true, reduceCtorEq, decide_eq_true_eq, Go.Proofs.YtkjlcbfjllpcnaaW.PrintWords.rd, rd_T32, rd_T34])
        (refine Ev.shift ?_; simp only [trustquorumref01_Of.j1, Option.bind_some, ↓reduceIte, Bool.false_eq_true, reduceCtorEq, decide_eq_true_eq, Go.Proofs.YtkjlcbfjllpcnaaW.PrintWords.rd, rd_T32, rd_T34])
        exact Ev.now _
theorem ref_level_ev : ∀ (n : Nat) (t : S32), wt t < n → n < 1152921504606846976 → Ev (fun k => trustquorumref02_check.f k t.f0 t.f1 t.f2) (chk t)
  | 0, t, h, _ => absurd h (by omega)
  | n + 1, t, h, hn => by
    rw [wt_eq] at h
    have hl := len_wtL t.f2
    rw [chk_eq]
    have el : wrap64 ((t.f1.length : Int) + (t.f2.length : Int)) = ((t.f1.length + t.f2.length : Nat) : Int) := by rw [w64 (by omega) (by omega)]; omega
    by_cases h1 : t.f0 < 1
    · (refine Ev.shift ?_; simp only [trustquorumref02_check.f, h1, true_or, Option.bind_some, ↓reduceIte, Bool.false_eq_true, reduceCtorEq, decide_eq_true_eq, Go.Proofs.YtkjlcbfjllpcnaaW.PrintWords.rd, rd_T32, rd_T34])
      (refine Ev.shift ?_; simp only [trustquorumref02_check.j0, Option.bind_some, ↓reduceIte, Bool.false_eq_true, reduceCtorEq, decide_eq_true_eq, Go.Proofs.YtkjlcbfjllpcnaaW.PrintWords.rd, rd_T32, rd_T34])
      exact Ev.now _
    by_cases h2 : t.f0 > ((t.f1.length + t.f2.length : Nat) : Int)
    · (refine Ev.shift ?_; simp only [trustquorumref02_check.f, h1, h2, el, or_true, decide_true, Option.bind_some, ↓reduceIte, Bool.false_eq_true, reduceCtorEq, decide_eq_true_eq, Go.Proofs.YtkjlcbfjllpcnaaW.PrintWords.rd, rd_T32, rd_T34])
      (refine Ev.shift ?_; simp only [trustquorumref02_check.j0, Option.bind_some, ↓reduceIte, Bool.false_eq_true, reduceCtorEq, decide_eq_true_eq, Go.Proofs.YtkjlcbfjllpcnaaW.PrintWords.rd, rd_T32, rd_T34])
      exact Ev.now _
    (refine Ev.shift ?_; simp only [trustquorumref02_check.f, h1, h2, el, or_false, decide_false, Option.bind_some, ↓reduceIte, Bool.false_eq_true, reduceCtorEq, decide_eq_true_eq, Go.Proofs.YtkjlcbfjllpcnaaW.PrintWords.rd, rd_T32, rd_T34])
    (refine Ev.shift ?_; simp only [trustquorumref02_check.j0, Option.bind_some, ↓reduceIte, Bool.false_eq_true, reduceCtorEq, decide_eq_true_eq, Go.Proofs.YtkjlcbfjllpcnaaW.PrintWords.rd, rd_T32, rd_T34])
    have l1 : Ev (fun k => trustquorumref02_check.l1 k t.f2 (t.f2.length : Int) 0) (chkL t.f2) := by
        refine Ev.fold (L := fun (c : Unit) i k => trustquorumref02_check.l1 k t.f2 (t.f2.length : Int) i) (by omega) (fun pre ys c => chkL ys = chkL t.f2) ?_ ?_ () rfl
        · intro c i hI hi
          rw [chkL] at hI
          (refine Ev.shift ?_; simp only [trustquorumref02_check.l1, hi, Option.bind_some, ↓reduceIte, Bool.false_eq_true, reduceCtorEq, decide_eq_true_eq, Go.Proofs.YtkjlcbfjllpcnaaW.PrintWords.rd, rd_T32, rd_T34])
          rw [← hI]
          exact Ev.now _
        · intro pre y ys c i e hI hi h0 hlt hw hrd
          rw [chkL] at hI
          have hy := ref_level_ev n y (by have := wt_mem (show y ∈ t.f2 by rw [e]; simp); omega) (by omega)
          by_cases h4 : chk y = 0
          · refine Or.inl ⟨(), by rw [← hI, if_pos h4], fun k => ?_⟩
            (refine Ev.shift ?_; simp only [trustquorumref02_check.l1, h0, hlt, hw, hrd, Option.bind_some, ↓reduceIte, Bool.false_eq_true, reduceCtorEq, decide_eq_true_eq, Go.Proofs.YtkjlcbfjllpcnaaW.PrintWords.rd, rd_T32, rd_T34])
            refine Ev.bind1 hy ?_
            simp only [h4, if_true]
            exact k
          · refine Or.inr ?_
            rw [← hI, if_neg h4]
            (refine Ev.shift ?_; simp only [trustquorumref02_check.l1, h0, hlt, hw, hrd, Option.bind_some, ↓reduceIte, Bool.false_eq_true, reduceCtorEq, decide_eq_true_eq, Go.Proofs.YtkjlcbfjllpcnaaW.PrintWords.rd, rd_T32, rd_T34])
            refine Ev.bind1 hy ?_
            simp only [h4, if_false]
            exact Ev.now _
    generalize hT : (if (t.f1.any noNode) = true then 5 else if (ofS 0 t.f1).2 = 0 then chkL t.f2 else (ofS 0 t.f1).2) = T
    refine Ev.fold (L := fun (c : Unit) i k => trustquorumref02_check.l0 k t.f1 (t.f1.length : Int) i t.f0 t.f1 t.f2) (by omega) (fun pre ys c => (if (ys.any noNode) = true then 5 else if (ofS 0 t.f1).2 = 0 then chkL t.f2 else (ofS 0 t.f1).2) = T) ?_ ?_ () hT
    · intro c i hI hi
      simp only [List.any_nil, Bool.false_eq_true, if_false] at hI
      (refine Ev.shift ?_; simp only [trustquorumref02_check.l0, hi, Option.bind_some, ↓reduceIte, Bool.false_eq_true, reduceCtorEq, decide_eq_true_eq, Go.Proofs.YtkjlcbfjllpcnaaW.PrintWords.rd, rd_T32, rd_T34])
      refine Ev.bind1 (ref_Of_ev t.f1 (by omega)) ?_
      rw [← hI]
      by_cases h3 : (ofS 0 t.f1).2 = 0
      · simp only [h3, if_true]
        exact l1
      · simp only [h3, if_false]
        exact Ev.now _
    · intro pre y ys c i e hI hi h0 hlt hw hrd
      rw [List.any_cons] at hI
      cases hn : noNode y
      · have hb := noNode_not hn
        have h3 : ¬ y < 0 := by omega
        have h4 : ¬ y ≥ 10 := by omega
        refine Or.inl ⟨(), by simpa [hn] using hI, fun k => ?_⟩
        (refine Ev.shift ?_; simp only [trustquorumref02_check.l0, h0, hlt, hw, hrd, h3, h4, Option.bind_some, ↓reduceIte, Bool.false_eq_true, reduceCtorEq, decide_eq_true_eq, Go.Proofs.YtkjlcbfjllpcnaaW.PrintWords.rd, rd_T32, rd_T34])
        exact k
      · refine Or.inr ?_
        simp only [hn, Bool.true_or, if_true] at hI
        rw [← hI]
        by_cases h3 : y < 0
        · (refine Ev.shift ?_; simp only [trustquorumref02_check.l0, h0, hlt, hw, hrd, h3, Option.bind_some, ↓reduceIte, Bool.false_eq_true, reduceCtorEq, decide_eq_true_eq, Go.Proofs.YtkjlcbfjllpcnaaW.PrintWords.rd, rd_T32, rd_T34])
          exact Ev.now _
        · have h4 : y ≥ 10 := by simp [noNode] at hn; omega
          (refine Ev.shift ?_; simp only [trustquorumref02_check.l0, h0, hlt, hw, hrd, h3, h4, Option.bind_some, ↓reduceIte, Bool.false_eq_true, reduceCtorEq, decide_eq_true_eq, Go.Proofs.YtkjlcbfjllpcnaaW.PrintWords.rd, rd_T32, rd_T34])
          exact Ev.now _
theorem ref_Valid_ev (t : S32) (h : wt t < 1000000) : Ev (fun k => trustquorumref02_Valid.f k t.f0 t.f1 t.f2) (validT t) := by
  simp only [trustquorumref02_Valid.f, validT, Option.bind_some, ↓reduceIte, Bool.false_eq_true, reduceCtorEq, decide_eq_true_eq, Go.Proofs.YtkjlcbfjllpcnaaW.PrintWords.rd, rd_T32, rd_T34]
  refine Ev.bind1 (ref_Depth_ev 1000000 t h (by decide)) ?_
  by_cases h1 : dep t > 4
  · have : (dep t : Int) > 4 := by omega
    simp only [h1, this, Option.bind_some, ↓reduceIte, Bool.false_eq_true, reduceCtorEq, decide_eq_true_eq, Go.Proofs.YtkjlcbfjllpcnaaW.PrintWords.rd, rd_T32, rd_T34]
    exact Ev.now _
  have h2 : ¬ (dep t : Int) > 4 := by omega
  simp only [h1, h2, Option.bind_some, ↓reduceIte, Bool.false_eq_true, reduceCtorEq, decide_eq_true_eq, Go.Proofs.YtkjlcbfjllpcnaaW.PrintWords.rd, rd_T32, rd_T34]
  refine Ev.bind1 (ref_Size_ev 1000000 t h (by decide)) ?_
  by_cases h3 : siz t > 200
  · have : (siz t : Int) > 200 := by omega
    simp only [h3, this, Option.bind_some, ↓reduceIte, Bool.false_eq_true, reduceCtorEq, decide_eq_true_eq, Go.Proofs.YtkjlcbfjllpcnaaW.PrintWords.rd, rd_T32, rd_T34]
    exact Ev.now _
  have h4 : ¬ (siz t : Int) > 200 := by omega
  simp only [h3, h4, Option.bind_some, ↓reduceIte, Bool.false_eq_true, reduceCtorEq, decide_eq_true_eq, Go.Proofs.YtkjlcbfjllpcnaaW.PrintWords.rd, rd_T32, rd_T34]
  refine Ev.bind1 (ref_level_ev 1000000 t h (by decide)) ?_
  exact Ev.now _
def EvP {α : Type} (g : Nat → Option α) (P : α → Prop) : Prop := ∃ r, P r ∧ Ev g r
theorem EvP.now {α : Type} {P : α → Prop} {r : α} (h : P r) : EvP (fun _ => some r) P := ⟨r, h, Ev.now r⟩
theorem EvP.shift {α : Type} {g : Nat → Option α} {P : α → Prop} (h : EvP (fun k => g (k + 1)) P) : EvP g P := by
  obtain ⟨r, h1, h2⟩ := h
  exact ⟨r, h1, Ev.shift h2⟩
theorem EvP.bind {α β : Type} {g : Nat → Option α} {f : Nat → α → Option β} {P : α → Prop} {Q : β → Prop} (h : EvP g P) (k : ∀ a, P a → EvP (fun n => f n a) Q) : EvP (fun n => (g n).bind (f n)) Q := by
  obtain ⟨a, h1, h2⟩ := h
  obtain ⟨r, k1, k2⟩ := k a h1
  exact ⟨r, k1, Ev.bind h2 k2⟩
theorem EvP.imp {α : Type} {g : Nat → Option α} {P Q : α → Prop} (h : EvP g P) (k : ∀ a, P a → Q a) : EvP g Q := by
  obtain ⟨r, h1, h2⟩ := h
  exact ⟨r, k r h1, h2⟩
theorem EvP.ofEv {α : Type} {g : Nat → Option α} {r : α} (h : Ev g r) : EvP g (fun x => x = r) := ⟨r, rfl, h⟩
theorem EvP.loop {σ ρ : Type} {L : σ → Nat → Option ρ} {Q : ρ → Prop} (I : σ → Prop) (m : σ → Nat)
    (hstep : ∀ c, I c → (∀ c', I c' → m c' < m c → EvP (L c') Q) → EvP (L c) Q) (c0 : σ) (h0 : I c0) : EvP (L c0) Q := by
  have key : ∀ n c, m c < n → I c → EvP (L c) Q := by
    intro n
    induction n with
    | zero => intro c h; exact absurd h (by omega)
    | succ n ih => intro c h hc; exact hstep c hc fun c' h' hm => ih c' (by omega) h'
  exact key (m c0 + 1) c0 (by omega) h0
theorem tN {s : List Int} (hs : s.length < 4611686018427387904) {s1 a : Int} (h1 : 0 ≤ s1) (ha : 0 < a) (ha2 : a < 4611686018427387904) :
    EvP (fun _ => trustquorummake_Tape_N.f s s1 a) (fun r => (0 ≤ r.1 ∧ r.1 < a) ∧ 0 ≤ r.2) := by
  unfold trustquorummake_Tape_N.f
  by_cases h : s1 ≥ (s.length : Int)
  · simp only [h, if_true]
    exact EvP.now ⟨⟨by simp, by simpa using ha⟩, h1⟩
  have h2 : s1 < (s.length : Int) := by omega
  have h3 : ¬ a = 0 := by omega
  have hb1 := Int.tmod_lt_of_pos (rd s s1) ha
  have hb2 : - a < Int.tmod (rd s s1) a := by
    have := Int.lt_tmod_of_pos (rd s s1) ha
    omega
  simp only [h, if_false, h1, if_true, h2, h3]
  by_cases h4 : Int.tmod (rd s s1) a < 0
  · simp only [h4, if_true]
    refine EvP.now ?_
    show (0 ≤ wrap64 _ ∧ wrap64 _ < a) ∧ 0 ≤ wrap64 _
    rw [w64 (by omega) (by omega), w64 (by omega) (by omega)]
    omega
  · simp only [h4, if_false]
    refine EvP.now ?_
    show (0 ≤ Int.tmod (rd s s1) a ∧ Int.tmod (rd s s1) a < a) ∧ 0 ≤ wrap64 _
    rw [w64 (by omega) (by omega)]
    omega
theorem tRange {s : List Int} (hs : s.length < 4611686018427387904) {s1 a b : Int} (h1 : 0 ≤ s1) (ha : 0 ≤ a) (hb : a ≤ b) (hb2 : b < 4611686018427387) :
    EvP (fun _ => trustquorummake_Tape_Range.f s s1 a b) (fun r => (a ≤ r.1 ∧ r.1 ≤ b) ∧ 0 ≤ r.2) := by
  unfold trustquorummake_Tape_Range.f
  rw [w64 (n := b - a) (by omega) (by omega), w64 (by omega) (by omega)]
  refine EvP.bind (tN hs h1 (by omega) (by omega)) ?_
  rintro ⟨v, s'⟩ ⟨⟨h2, h3⟩, h4⟩
  refine EvP.now ?_
  show (a ≤ wrap64 _ ∧ wrap64 _ ≤ b) ∧ 0 ≤ s'
  simp only at h2 h3 h4 ⊢
  rw [w64 (by omega) (by omega)]
  omega
theorem tPick {s : List Int} (hs : s.length < 4611686018427387904) {s1 : Int} {l : List Int} (h1 : 0 ≤ s1) (ha : 0 < l.length) (hl : l.length < 4611686018427387904) :
    EvP (fun _ => trustquorummake_Tape_Pick.f s s1 l) (fun r => r.1 ∈ l ∧ 0 ≤ r.2) := by
  unfold trustquorummake_Tape_Pick.f
  refine EvP.bind (tN hs h1 (by omega) (by omega)) ?_
  rintro ⟨v, s'⟩ ⟨⟨h2, h3⟩, h4⟩
  simp only at h2 h3 h4 ⊢
  simp only [h2, h3, if_true]
  refine EvP.now ⟨?_, h4⟩
  simp only [rd]
  have h5 : v.toNat < l.length := by omega
  rw [List.getD_eq_getElem?_getD, List.getElem?_eq_getElem h5]
  exact List.getElem_mem h5
theorem tOrder {s : List Int} (hs : s.length < 4611686018427387904) {s1 : Int} {n : Nat} (h1 : 0 ≤ s1) (hn : n ≤ 1000) :
    EvP (fun k => trustquorummake_Tape_Order.f k s s1 (n : Int)) (fun r => (r.1.length = n ∧ ∀ x ∈ r.1, 0 ≤ x ∧ x < (n : Int)) ∧ 0 ≤ r.2) := by
  simp only [trustquorummake_Tape_Order.f]
  have l1 : ∀ (l : List Int) (i : Int) (s1 : Int), 0 ≤ s1 → l.length = n → (∀ x ∈ l, 0 ≤ x ∧ x < (n : Int)) → i < n →
      EvP (fun k => trustquorummake_Tape_Order.l1 k l i s s1) (fun r => (r.1.length = n ∧ ∀ x ∈ r.1, 0 ≤ x ∧ x < (n : Int)) ∧ 0 ≤ r.2) := by
    intro l i s1 h1 hl hx hi
    refine EvP.loop (L := fun (c : List Int × Int × Int) k => trustquorummake_Tape_Order.l1 k c.1 c.2.1 s c.2.2) (fun c => 0 ≤ c.2.2 ∧ c.1.length = n ∧ (∀ x ∈ c.1, 0 ≤ x ∧ x < (n : Int)) ∧ c.2.1 < n) (fun c => c.2.1.toNat) ?_ (l, i, s1) ⟨h1, hl, hx, hi⟩
    rintro ⟨l, i, s1⟩ ⟨h1, hl, hx, hi⟩ ih
    simp only at h1 hl hx hi ih ⊢
    by_cases h0 : i > 0
    · have e1 : wrap64 (i + 1) = i + 1 := w64 (by omega) (by omega)
      have e2 : wrap64 (i - 1) = i - 1 := w64 (by omega) (by omega)
      have h3 : 0 ≤ i := by omega
      have h4 : i < (l.length : Int) := by omega
      (refine EvP.shift ?_; simp only [trustquorummake_Tape_Order.l1, h0, e1, e2, h3, h4, Option.bind_some, ↓reduceIte, Bool.false_eq_true, reduceCtorEq, decide_eq_true_eq, Go.Proofs.YtkjlcbfjllpcnaaW.PrintWords.rd, rd_T32, rd_T34])
      refine EvP.bind (tN hs h1 (by omega) (by omega)) ?_
      rintro ⟨v, s'⟩ ⟨⟨h5, h6⟩, h7⟩
      simp only at h5 h6 h7 ⊢
      have h8 : v < (l.length : Int) := by omega
      simp only [h5, h8, if_true]
      have hm : ∀ j : Nat, j < l.length → l.getD j 0 ∈ l := fun j hj => by
        rw [List.getD_eq_getElem?_getD, List.getElem?_eq_getElem hj]; exact List.getElem_mem hj
      refine ih (_, i - 1, s') ⟨h7, by simpa using hl, ?_, by show i - 1 < n; omega⟩ (by show (i - 1).toNat < i.toNat; omega)
      intro x hx'
      rcases List.mem_or_eq_of_mem_set hx' with h | h
      · rcases List.mem_or_eq_of_mem_set h with h | h
        · exact hx x h
        · rw [h]; exact hx _ (hm _ (by omega))
      · rw [h]; exact hx _ (hm _ (by omega))
    · (refine EvP.shift ?_; simp only [trustquorummake_Tape_Order.l1, h0, Option.bind_some, ↓reduceIte, Bool.false_eq_true, reduceCtorEq, decide_eq_true_eq, Go.Proofs.YtkjlcbfjllpcnaaW.PrintWords.rd, rd_T32, rd_T34])
      exact EvP.now ⟨⟨hl, hx⟩, h1⟩
  refine EvP.loop (L := fun (c : List Int × Int) k => trustquorummake_Tape_Order.l0 k (n : Int) c.1 c.2 s s1) (fun c => c.2 = (c.1.length : Int) ∧ c.2 ≤ n ∧ (∀ x ∈ c.1, 0 ≤ x ∧ x < (n : Int))) (fun c => n - c.1.length) ?_ ([], 0) ⟨rfl, by show (0 : Int) ≤ n; omega, by simp⟩
  rintro ⟨l, i⟩ ⟨h2, h3, hx⟩ ih
  simp only at h2 h3 hx ih ⊢
  by_cases h0 : i < (n : Int)
  · have e1 : wrap64 (i + 1) = i + 1 := w64 (by omega) (by omega)
    have h4 : l.length < 17592186044416 := by omega
    (refine EvP.shift ?_; simp only [trustquorummake_Tape_Order.l0, h0, e1, h4, Option.bind_some, ↓reduceIte, Bool.false_eq_true, reduceCtorEq, decide_eq_true_eq, Go.Proofs.YtkjlcbfjllpcnaaW.PrintWords.rd, rd_T32, rd_T34])
    refine ih (l ++ [i], i + 1) ⟨by simp; omega, by show i + 1 ≤ n; omega, ?_⟩ (by simp; omega)
    intro x hx'
    rcases List.mem_append.1 hx' with h | h
    · exact hx x h
    · rw [List.mem_singleton.1 h]; omega
  · (refine EvP.shift ?_; simp only [trustquorummake_Tape_Order.l0, h0, Option.bind_some, ↓reduceIte, Bool.false_eq_true, reduceCtorEq, decide_eq_true_eq, Go.Proofs.YtkjlcbfjllpcnaaW.PrintWords.rd, rd_T32, rd_T34])
    exact l1 l _ s1 h1 (by omega) hx (by rw [w64 (by omega) (by omega)]; omega)
def foldU (l : List Int) (a : Nat) : Nat := l.foldl (fun a x => if noNode x = true then a else a ||| 2 ^ x.toNat) a
theorem foldU_lt {n : Nat} (hn : n ≤ 10) : ∀ (l : List Int) (a : Nat), a < 2 ^ n → (∀ x ∈ l, 0 ≤ x ∧ x < (n : Int)) → foldU l a < 2 ^ n := by
  intro l
  induction l with
  | nil => intro a h _; exact h
  | cons x xs ih =>
    intro a h hx
    have h1 := hx x (by simp)
    show foldU xs (if noNode x = true then a else a ||| 2 ^ x.toNat) < 2 ^ n
    refine ih _ ?_ fun y hy => hx y (by simp [hy])
    split
    · exact h
    · exact or_lt h (Nat.pow_lt_pow_right (by decide) (by omega))
theorem useL_lt2 {n : Nat} : ∀ (l : List S32), (∀ t ∈ l, uses t < 2 ^ n) → useL l < 2 ^ n
  | [], _ => by rw [useL]; exact Nat.two_pow_pos n
  | t :: ts, h => by rw [useL]; exact or_lt (h t (by simp)) (useL_lt2 ts fun y hy => h y (by simp [hy]))
theorem wtL_le {b : Nat} : ∀ (l : List S32), (∀ t ∈ l, wt t ≤ b) → wtL l ≤ l.length * b
  | [], _ => by rw [wtL]; omega
  | t :: ts, h => by
    rw [wtL, List.length_cons, Nat.add_mul]
    have := h t (by simp)
    have := wtL_le ts fun y hy => h y (by simp [hy])
    omega
def In (n b : Nat) (t : S32) : Prop := wt t ≤ b ∧ uses t < 2 ^ n
theorem In_mk {n b : Nat} (hn : n ≤ 10) {v : Int} {l : List Int} {ts : List S32} (h2 : ∀ x ∈ l, 0 ≤ x ∧ x < (n : Int)) (h4 : ∀ t ∈ ts, In n b t) (B : Nat) (hB : 1 + l.length + ts.length * b ≤ B) : In n B ⟨v, l, ts⟩ := by
  constructor
  · rw [wt_eq]
    have := wtL_le ts fun t ht => (h4 t ht).1
    simp only
    omega
  · rw [uses_eq]
    exact or_lt (foldU_lt hn l 0 (Nat.two_pow_pos n) h2) (useL_lt2 ts fun t ht => (h4 t ht).2)
abbrev toT (r : Int × List Int × List S32 × Int) : S32 := ⟨r.1, r.2.1, r.2.2.1⟩
theorem trust_row {s : List Int} (hs : s.length < 4611686018427387904) {n b : Nat} (hn : n ≤ 10) (hn1 : 1 ≤ n) (hb : b ≤ 100) (a2 : Int) (h2 : a2 ≤ 10)
    (hrec : a2 > 1 → ∀ s1, 0 ≤ s1 → EvP (fun k => trustquorummake_trust.f k s s1 (n : Int) (wrap64 (a2 - 1))) (fun r => In n b (toT r) ∧ 0 ≤ r.2.2.2)) {s1 : Int} (h1 : 0 ≤ s1) :
    EvP (fun k => trustquorummake_trust.f k s s1 (n : Int) a2) (fun r => In n (6 + 3 * b) (toT r) ∧ 0 ≤ r.2.2.2) := by
  have fin : ∀ (v : Int) (l : List Int) (ts : List S32), l.length ≤ 5 → (∀ x ∈ l, 0 ≤ x ∧ x < (n : Int)) → ts.length ≤ 3 → (∀ t ∈ ts, In n b t) → In n (6 + 3 * b) ⟨v, l, ts⟩ := by
    intro v l ts h1 h2 h3 h4
    refine In_mk hn h2 h4 _ ?_
    have : ts.length * b ≤ 3 * b := Nat.mul_le_mul_right b h3
    omega
  have fine : ∀ (v : Int) (l : List Int) (ts : List S32) (s2 : Int), l.length ≤ 5 → (∀ x ∈ l, 0 ≤ x ∧ x < (n : Int)) → ts.length ≤ 3 → (∀ t ∈ ts, In n b t) → 0 ≤ s2 → EvP (fun _ => some (v, l, ts, s2)) (fun r => In n (6 + 3 * b) (toT r) ∧ 0 ≤ r.2.2.2) :=
    fun v l ts s2 h1 h2 h3 h4 h5 => EvP.now ⟨fin v l ts h1 h2 h3 h4, h5⟩
  clear fin
  generalize 6 + 3 * b = B at fine ⊢
  have L1 : ∀ (l : List Int), 1 ≤ l.length → l.length ≤ 5 → (∀ x ∈ l, 0 ≤ x ∧ x < (n : Int)) → a2 > 1 → ∀ (m : Nat), m ≤ 3 → ∀ (s1 : Int), 0 ≤ s1 →
      EvP (fun k => trustquorummake_trust.l1 k (n : Int) a2 (m : Int) s s1 0 l ([] : List S32)) (fun r => In n B (toT r) ∧ 0 ≤ r.2.2.2) := by
    intro l hl0 hl hx ha m hm s1 h1
    refine EvP.loop (L := fun (c : Nat × Int × List S32) k => trustquorummake_trust.l1 k (n : Int) a2 (c.1 : Int) s c.2.1 0 l c.2.2) (fun c => 0 ≤ c.2.1 ∧ c.1 + c.2.2.length ≤ 3 ∧ ∀ t ∈ c.2.2, In n b t) (fun c => c.1) ?_ (m, s1, []) ⟨h1, by simp; omega, by simp⟩
    rintro ⟨m, s1, ts⟩ ⟨h1, h3, h4⟩ ih
    simp only at h1 h3 h4 ih ⊢
    by_cases h0 : (m : Int) > 0
    · have e1 : wrap64 ((m : Int) - 1) = ((m - 1 : Nat) : Int) := by rw [w64 (by omega) (by omega)]; omega
      have h6 : ts.length < 2513169434916 := by omega
      (refine EvP.shift ?_; simp only [trustquorummake_trust.l1, h0, e1, h6, Option.bind_some, ↓reduceIte, Bool.false_eq_true, reduceCtorEq, decide_eq_true_eq, Go.Proofs.YtkjlcbfjllpcnaaW.PrintWords.rd, rd_T32, rd_T34])
      refine EvP.bind (hrec ha s1 h1) ?_
      rintro ⟨v, l', ts', s'⟩ ⟨h7, h8⟩
      refine ih (m - 1, s', ts ++ [⟨v, l', ts'⟩]) ⟨h8, by simp; omega, ?_⟩ (by show m - 1 < m; omega)
      intro t ht
      rcases List.mem_append.1 ht with h | h
      · exact h4 t h
      · rw [List.mem_singleton.1 h]; exact h7
    · clear ih
      have ew : wrap64 ((l.length : Int) + (ts.length : Int)) = (l.length : Int) + (ts.length : Int) := w64 (by omega) (by omega)
      by_cases h5 : (ts.length : Int) > 0
      · (refine EvP.shift ?_; simp only [trustquorummake_trust.l1, h0, h5, ew, Option.bind_some, ↓reduceIte, Bool.false_eq_true, reduceCtorEq, decide_eq_true_eq, Go.Proofs.YtkjlcbfjllpcnaaW.PrintWords.rd, rd_T32, rd_T34])
        clear ew
        refine EvP.bind (tN hs h1 (by omega) (by omega)) ?_
        rintro ⟨v, s'⟩ ⟨⟨h6, h7⟩, h8⟩
        simp only at h6 h7 h8 ⊢
        split
        · rw [show wrap64 ((([] : List Int).length : Int) + (ts.length : Int)) = (ts.length : Int) by rw [List.length_nil, w64 (by omega) (by omega)]; omega]
          refine EvP.bind (tRange hs h8 (by omega) (by omega) (by omega)) ?_
          rintro ⟨v2, s2⟩ ⟨h9, h10⟩
          exact fine v2 [] ts s2 (by simp) (by simp) (by omega) h4 h10
        · refine EvP.bind (tRange hs h8 (by omega) (by omega) (by omega)) ?_
          rintro ⟨v2, s2⟩ ⟨h9, h10⟩
          exact fine v2 l ts s2 hl hx (by omega) h4 h10
      · (refine EvP.shift ?_; simp only [trustquorummake_trust.l1, h0, h5, ew, Option.bind_some, ↓reduceIte, Bool.false_eq_true, reduceCtorEq, decide_eq_true_eq, Go.Proofs.YtkjlcbfjllpcnaaW.PrintWords.rd, rd_T32, rd_T34])
        clear ew
        refine EvP.bind (tRange hs h1 (by omega) (by omega) (by omega)) ?_
        rintro ⟨v2, s2⟩ ⟨h9, h10⟩
        exact fine v2 l ts s2 hl hx (by omega) h4 h10
  have mnv : mn (n : Int) 5 ≤ n ∧ 1 ≤ mn (n : Int) 5 ∧ mn (n : Int) 5 ≤ 5 := by unfold mn; split <;> omega
  (refine EvP.shift ?_; simp only [trustquorummake_trust.f, Option.bind_some, ↓reduceIte, Bool.false_eq_true, reduceCtorEq, decide_eq_true_eq, Go.Proofs.YtkjlcbfjllpcnaaW.PrintWords.rd, rd_T32, rd_T34])
  refine EvP.bind (tOrder hs h1 (by omega)) ?_
  rintro ⟨o, s2⟩ ⟨⟨ho, hox⟩, h2'⟩
  simp only at ho hox h2' ⊢
  refine EvP.bind (tRange hs h2' (by omega) mnv.2.1 (by omega)) ?_
  rintro ⟨q, s3⟩ ⟨⟨hq1, hq2⟩, h3'⟩
  simp only at hq1 hq2 h3' ⊢
  have hq3 : 0 ≤ q := by omega
  have hq4 : q ≤ (o.length : Int) := by omega
  simp only [hq3, hq4, if_true, Option.bind_some]
  generalize hy : o.take q.toNat = y
  have hyl : y.length = q.toNat := by rw [← hy, List.length_take]; omega
  have hyx : ∀ x ∈ y, 0 ≤ x ∧ x < (n : Int) := fun x hx => hox x (by rw [← hy] at hx; exact List.mem_of_mem_take hx)
  refine EvP.loop (L := fun (c : List Int × Int) k => trustquorummake_trust.l0 k (n : Int) a2 y (y.length : Int) c.2 s s3 0 c.1) (fun c => c.2 = (c.1.length : Int) ∧ c.1.length ≤ y.length ∧ (∀ x ∈ c.1, 0 ≤ x ∧ x < (n : Int))) (fun c => y.length - c.1.length) ?_ ([], 0) ⟨rfl, by simp, by simp⟩
  rintro ⟨l, i⟩ ⟨h3, h4, hx⟩ ih
  simp only at h3 h4 hx ih ⊢
  by_cases h0 : i < (y.length : Int)
  · have e1 : wrap64 (i + 1) = i + 1 := w64 (by omega) (by omega)
    have h6 : l.length < 17592186044416 := by omega
    have h7 : 0 ≤ i := by omega
    (refine EvP.shift ?_; simp only [trustquorummake_trust.l0, h0, e1, h6, h7, Option.bind_some, ↓reduceIte, Bool.false_eq_true, reduceCtorEq, decide_eq_true_eq, Go.Proofs.YtkjlcbfjllpcnaaW.PrintWords.rd, rd_T32, rd_T34])
    refine ih (l ++ [y.getD i.toNat 0], i + 1) ⟨by simp; omega, by simp; omega, ?_⟩ (by simp; omega)
    intro x hx'
    rcases List.mem_append.1 hx' with h | h
    · exact hx x h
    · rw [List.mem_singleton.1 h, List.getD_eq_getElem?_getD, List.getElem?_eq_getElem (show i.toNat < y.length by omega)]
      exact hyx _ (List.getElem_mem _)
  · by_cases ha : a2 > 1
    · (refine EvP.shift ?_; simp only [trustquorummake_trust.l0, h0, ha, Option.bind_some, ↓reduceIte, Bool.false_eq_true, reduceCtorEq, decide_eq_true_eq, Go.Proofs.YtkjlcbfjllpcnaaW.PrintWords.rd, rd_T32, rd_T34])
      refine EvP.bind (tPick hs h3' (by decide) (by decide)) ?_
      rintro ⟨p, s4⟩ ⟨hp, h4'⟩
      simp only at hp h4' ⊢
      have hp2 : 0 ≤ p ∧ p ≤ 3 := by
        simp only [List.mem_cons, List.not_mem_nil, or_false] at hp
        omega
      have := L1 l (by omega) (by omega) hx ha p.toNat (by omega) s4 h4'
      rw [show ((p.toNat : Nat) : Int) = p by omega] at this
      exact this
    · (refine EvP.shift ?_; simp only [trustquorummake_trust.l0, h0, ha, Option.bind_some, ↓reduceIte, Bool.false_eq_true, reduceCtorEq, decide_eq_true_eq, Go.Proofs.YtkjlcbfjllpcnaaW.PrintWords.rd, rd_T32, rd_T34])
      rw [show wrap64 ((l.length : Int) + (([] : List S32).length : Int)) = (l.length : Int) by rw [List.length_nil, w64 (by omega) (by omega)]; omega]
      refine EvP.bind (tRange hs h3' (by omega) (by omega) (by omega)) ?_
      rintro ⟨v2, s2⟩ ⟨h9, h10⟩
      exact fine v2 l [] s2 (by omega) hx (by simp) (by simp) h10
theorem trust_ev {s : List Int} (hs : s.length < 4611686018427387904) {n : Nat} (hn : n ≤ 10) (hn1 : 1 ≤ n) {s1 : Int} (h1 : 0 ≤ s1) :
    EvP (fun k => trustquorummake_trust.f k s s1 (n : Int) 2) (fun r => In n 24 (toT r) ∧ 0 ≤ r.2.2.2) :=
  trust_row hs (b := 6) hn hn1 (by decide) 2 (by decide) (fun _ s1 h1 => by
    rw [show wrap64 ((2 : Int) - 1) = 1 from w64 (by decide) (by decide)]
    exact trust_row hs (b := 0) hn hn1 (by decide) 1 (by decide) (fun h => absurd h (by decide)) h1) h1
def Okt (n : Nat) (t : S32) : Prop := validT t = 0 ∧ In n 100 t
theorem one_ok {n : Nat} {v : Int} (h0 : 0 ≤ v) (h1 : v < (n : Int)) (hn : n ≤ 10) : Okt n ⟨1, [v], []⟩ := by
  constructor
  · have hv : noNode v = false := by simp [noNode]; omega
    have : (ofS 0 [v]).2 = 0 := by
      rw [ofS, hv, ofS]; simp [inS]
    simp [validT, dep, siz, depL, sizL, chk, chkL, hv, this]
  · exact In_mk hn (b := 0) (by simp; omega) (by simp) _ (by simp)
theorem Trust_ev {s : List Int} (hs : s.length < 4611686018427387904) {n : Nat} (hn : n ≤ 10) (hn1 : 1 ≤ n) {s1 : Int} (h1 : 0 ≤ s1) :
    EvP (fun k => trustquorummake_Trust.f k s s1 (n : Int) 2) (fun r => Okt n (toT r) ∧ 0 ≤ r.2.2.2) := by
  simp only [trustquorummake_Trust.f]
  refine EvP.bind (trust_ev hs hn hn1 h1) ?_
  rintro ⟨v, l, ts, s'⟩ ⟨h2, h3⟩
  simp only at h2 h3 ⊢
  refine EvP.bind (EvP.ofEv (ref_Valid_ev (toT (v, l, ts, s')) (by have := h2.1; omega))) ?_
  rintro r rfl
  by_cases h : validT (toT (v, l, ts, s')) = 0
  · simp only [h, if_true]
    exact EvP.now ⟨⟨h, Nat.le_trans h2.1 (by decide), h2.2⟩, h3⟩
  · simp only [h, if_false]
    refine EvP.bind (tN hs h3 (by omega) (by omega)) ?_
    rintro ⟨v, s'⟩ ⟨⟨h2, h3⟩, h4⟩
    exact EvP.now ⟨one_ok h2 h3 hn, h4⟩
theorem ofS_snoc (l : List Int) (x : Int) : ∀ a, (ofS a l).2 = 0 → ofS a (l ++ [x]) = if noNode x = true then (0, 5) else if inS (ofS a l).1 x = true then (0, 6) else ((ofS a l).1 ||| 2 ^ x.toNat, 0) := by
  induction l with
  | nil => intro a _; rw [List.nil_append, ofS, ofS, ofS]
  | cons y ys ih =>
    intro a h
    rw [List.cons_append, ofS]
    rw [ofS] at h ⊢
    split at h
    · cases h
    · split at h
      · cases h
      · rename_i h1 h2
        simp only [h1, h2, if_false]
        exact ih _ h
def Asc (n : Nat) (l : List Int) : Prop := l.length ≤ n ∧ (ofS 0 l).2 = 0 ∧ (ofS 0 l).1 < 2 ^ n ∧ ∀ x ∈ l, 0 ≤ x ∧ x < (n : Int)
theorem Asc_nil (n : Nat) : Asc n [] := ⟨by simp, rfl, Nat.two_pow_pos n, by simp⟩
theorem Asc_snoc {n m : Nat} {l : List Int} (h : Asc n l) (hm : m ≤ 10) (hnm : n < m) : Asc m (l ++ [(n : Int)]) := by
  obtain ⟨h1, h2, h3, h4⟩ := h
  have hv : noNode (n : Int) = false := by simp [noNode]; omega
  have hi : inS (ofS 0 l).1 (n : Int) = false := by rw [inS_nat _ _ (by omega)]; exact bit_lt h3 (Nat.le_refl _)
  have e := ofS_snoc l (n : Int) 0 h2
  rw [hv, hi] at e
  simp only [Bool.false_eq_true, if_false] at e
  refine ⟨by simp; omega, by rw [e], ?_, ?_⟩
  · rw [e]
    exact or_lt (Nat.lt_of_lt_of_le h3 (Nat.pow_le_pow_right (by decide) (by omega))) (by rw [Int.toNat_natCast]; exact Nat.pow_lt_pow_right (by decide) hnm)
  · intro x hx
    rcases List.mem_append.1 hx with h | h
    · have := h4 x h; omega
    · rw [List.mem_singleton.1 h]; omega
theorem Asc.mono {n m : Nat} {l : List Int} (h : Asc n l) (hnm : n ≤ m) : Asc m l := by
  obtain ⟨h1, h2, h3, h4⟩ := h
  exact ⟨by omega, h2, Nat.lt_of_lt_of_le h3 (Nat.pow_le_pow_right (by decide) hnm), fun x hx => by have := h4 x hx; omega⟩
theorem Asc.any {n : Nat} {l : List Int} (h : Asc n l) (hn : n ≤ 10) : l.any noNode = false := by
  rw [List.any_eq_false]
  intro x hx
  have := h.2.2.2 x hx
  simp [noNode]; omega
def Flat (n : Nat) (t : S32) : Prop := Asc n t.f1 ∧ t.f2 = [] ∧ 1 ≤ t.f0 ∧ t.f0 ≤ (t.f1.length : Int)
theorem flat_chk {n : Nat} {t : S32} (hn : n ≤ 10) (h : Flat n t) : chk t = 0 := by
  obtain ⟨h1, h2, h3, h4⟩ := h
  rw [chk_eq, h2, h1.any hn, h1.2.1, if_neg (by simp; omega)]
  simp [chkL]
theorem flat_in {n : Nat} {t : S32} (hn : n ≤ 10) (h : Flat n t) : In n 11 t := by
  obtain ⟨h1, h2, h3, h4⟩ := h
  have e : t = ⟨t.f0, t.f1, []⟩ := by cases t; simp only at h2; subst h2; rfl
  rw [e]
  have := h1.1
  exact In_mk hn (b := 0) h1.2.2.2 (by simp) _ (by simp; omega)
theorem flat_ok {n : Nat} {t : S32} (hn : n ≤ 10) (h : Flat n t) : Okt n t := by
  constructor
  · have := h.1.1
    rw [validT, dep_eq, siz_eq, h.2.1, flat_chk hn h, depL, sizL]
    simp; omega
  · have := flat_in hn h
    exact ⟨Nat.le_trans this.1 (by decide), this.2⟩
theorem most_ev {s : List Int} (hs : s.length < 4611686018427387904) {n : Nat} (hn : n ≤ 10) (hn1 : 1 ≤ n) {s1 : Int} (h1 : 0 ≤ s1) :
    EvP (fun k => trustquorummake_most.f k s s1 (n : Int)) (fun r => Okt n (toT r) ∧ 0 ≤ r.2.2.2) := by
  simp only [trustquorummake_most.f]
  have thr : ∀ (l : List Int) (d : Int), 1 ≤ l.length → l.length ≤ 10 → -1 ≤ d ∧ d ≤ 1 → 1 ≤ mn (l.length : Int) (mx 1 (wrap64 ((wrap64 (Int.tdiv (wrap64 ((wrap64 (2 * (l.length : Int))) + 2)) 3)) + d))) ∧ mn (l.length : Int) (mx 1 (wrap64 ((wrap64 (Int.tdiv (wrap64 ((wrap64 (2 * (l.length : Int))) + 2)) 3)) + d))) ≤ (l.length : Int) := by
    intro l d h1 h2 h3
    unfold mn mx
    split <;> split <;> omega
  have pk : ∀ d ∈ ([0, 0, 0, 1, (-1)] : List Int), -1 ≤ d ∧ d ≤ 1 := by decide
  refine EvP.loop (L := fun (c : Nat × Int × List Int) k => trustquorummake_most.l0 k (n : Int) (c.1 : Int) s c.2.1 0 c.2.2) (fun c => 0 ≤ c.2.1 ∧ c.1 ≤ n ∧ Asc c.1 c.2.2) (fun c => n - c.1) ?_ (0, s1, []) ⟨h1, by simp, Asc_nil 0⟩
  rintro ⟨i, s1, l⟩ ⟨h1, h3, h4⟩ ih
  simp only at h1 h3 h4 ih ⊢
  have hl := h4.1
  by_cases h0 : (i : Int) < (n : Int)
  · have e1 : wrap64 ((i : Int) + 1) = ((i + 1 : Nat) : Int) := w64 (by omega) (by omega)
    have h6 : l.length < 17592186044416 := by omega
    (refine EvP.shift ?_; simp only [trustquorummake_most.l0, h0, e1, h6, Option.bind_some, ↓reduceIte, Bool.false_eq_true, reduceCtorEq, decide_eq_true_eq, Go.Proofs.YtkjlcbfjllpcnaaW.PrintWords.rd, rd_T32, rd_T34])
    refine EvP.bind (tN hs h1 (by omega) (by omega)) ?_
    rintro ⟨v, s'⟩ ⟨⟨h7, h8⟩, h9⟩
    simp only at h7 h8 h9 ⊢
    split
    · exact ih (i + 1, s', l ++ [(i : Int)]) ⟨h9, by show i + 1 ≤ n; omega, Asc_snoc h4 (by omega) (by omega)⟩ (by show n - (i + 1) < n - i; omega)
    · exact ih (i + 1, s', l) ⟨h9, by show i + 1 ≤ n; omega, h4.mono (by omega)⟩ (by show n - (i + 1) < n - i; omega)
  · have e : i = n := by omega
    subst e
    by_cases h5 : (l.length : Int) = 0
    · (refine EvP.shift ?_; simp only [trustquorummake_most.l0, h0, h5, Option.bind_some, ↓reduceIte, Bool.false_eq_true, reduceCtorEq, decide_eq_true_eq, Go.Proofs.YtkjlcbfjllpcnaaW.PrintWords.rd, rd_T32, rd_T34])
      refine EvP.bind (tPick hs h1 (by decide) (by decide)) ?_
      rintro ⟨d, s'⟩ ⟨h7, h8⟩
      simp only at h7 h8 ⊢
      have ht := thr [0] d (by decide) (by decide) (pk d h7)
      refine EvP.now ⟨flat_ok hn ⟨?_, rfl, ht.1, ht.2⟩, h8⟩
      exact (Asc_snoc (Asc_nil 0) (by decide) (show 0 < 1 by decide)).mono hn1
    · (refine EvP.shift ?_; simp only [trustquorummake_most.l0, h0, h5, Option.bind_some, ↓reduceIte, Bool.false_eq_true, reduceCtorEq, decide_eq_true_eq, Go.Proofs.YtkjlcbfjllpcnaaW.PrintWords.rd, rd_T32, rd_T34])
      refine EvP.bind (tPick hs h1 (by decide) (by decide)) ?_
      rintro ⟨d, s'⟩ ⟨h7, h8⟩
      simp only at h7 h8 ⊢
      have ht := thr l d (by omega) (by omega) (pk d h7)
      exact EvP.now ⟨flat_ok hn ⟨h4, rfl, ht.1, ht.2⟩, h8⟩
theorem depL_flat {n : Nat} : ∀ (l : List S32), (∀ t ∈ l, Flat n t) → depL l ≤ 1
  | [], _ => by rw [depL]; omega
  | t :: ts, h => by
    rw [depL, dep_eq, (h t (by simp)).2.1, depL]
    have := depL_flat ts fun y hy => h y (by simp [hy])
    omega
theorem sizL_flat {n : Nat} : ∀ (l : List S32), (∀ t ∈ l, Flat n t) → sizL l ≤ l.length * n
  | [], _ => by rw [sizL]; omega
  | t :: ts, h => by
    have := sizL_flat ts fun y hy => h y (by simp [hy])
    have h1 := (h t (by simp)).1.1
    rw [sizL, siz_eq, (h t (by simp)).2.1, List.length_cons, Nat.add_mul, sizL, List.length_nil]
    omega
theorem chkL_flat {n : Nat} (hn : n ≤ 10) : ∀ (l : List S32), (∀ t ∈ l, Flat n t) → chkL l = 0
  | [], _ => by rw [chkL]
  | t :: ts, h => by rw [chkL, if_pos (flat_chk hn (h t (by simp)))]; exact chkL_flat hn ts fun y hy => h y (by simp [hy])
theorem group_ok {n : Nat} (hn : n ≤ 10) {v : Int} {ts : List S32} (h1 : 1 ≤ v) (h2 : v ≤ (ts.length : Int)) (h3 : ts.length ≤ 3) (h4 : ∀ t ∈ ts, Flat n t) : Okt n ⟨v, [], ts⟩ := by
  constructor
  · have hd := depL_flat ts h4
    have hs := sizL_flat ts h4
    have : ts.length * n ≤ 3 * 10 := Nat.mul_le_mul h3 hn
    rw [validT, dep_eq, siz_eq, chk_eq]
    simp only [List.length_nil, List.any_nil, ofS, chkL_flat hn ts h4]
    rw [if_neg (by omega), if_neg (by omega), if_neg (by omega)]
    simp
  · refine In_mk hn (b := 11) (by simp) (fun t ht => flat_in hn (h4 t ht)) _ ?_
    have : ts.length * 11 ≤ 3 * 11 := Nat.mul_le_mul_right 11 h3
    simp only [List.length_nil]; omega
theorem getD_mem' {α : Type} {l : List α} {i : Nat} (d : α) (h : i < l.length) : l.getD i d ∈ l := by
  rw [List.getD_eq_getElem?_getD, List.getElem?_eq_getElem h]; exact List.getElem_mem h
theorem group_ev {s : List Int} (hs : s.length < 4611686018427387904) {n : Nat} (hn : n ≤ 10) (hn1 : 1 ≤ n) {s1 : Int} (h1 : 0 ≤ s1) (i : Nat) (hi : i < 1000) :
    EvP (fun k => trustquorummake_group.f k s s1 (n : Int) (i : Int)) (fun r => Okt n (toT r) ∧ 0 ≤ r.2.2.2) := by
  simp only [trustquorummake_group.f]
  refine EvP.loop (L := fun (c : Nat × Int × List S32) k => trustquorummake_group.l0 k (n : Int) (i : Int) c.2.2 (c.1 : Int) s c.2.1) (fun c => 0 ≤ c.2.1 ∧ c.1 ≤ 3 ∧ c.2.2.length ≤ c.1 ∧ (1 ≤ c.1 → 1 ≤ c.2.2.length) ∧ ∀ t ∈ c.2.2, Flat n t) (fun c => 3 - c.1) ?_ (0, s1, []) ⟨h1, by simp, by simp, by simp, by simp⟩
  clear h1 s1
  rintro ⟨g, s1, ts⟩ ⟨h1, h2, h3, h4, h5⟩ ih
  simp only at h1 h2 h3 h4 h5 ih ⊢
  by_cases h0 : (g : Int) < 3
  · (refine EvP.shift ?_; simp only [trustquorummake_group.l0, h0, Option.bind_some, ↓reduceIte, Bool.false_eq_true, reduceCtorEq, decide_eq_true_eq, Go.Proofs.YtkjlcbfjllpcnaaW.PrintWords.rd, rd_T32, rd_T34])
    refine EvP.loop (L := fun (c : Nat × List Int) k => trustquorummake_group.l1 k (n : Int) (i : Int) ts (g : Int) (c.1 : Int) s s1 1 c.2) (fun c => Asc (min c.1 n) c.2 ∧ (c.1 = g ∧ c.2 = [] ∨ 1 ≤ c.2.length) ∧ (c.1 = g ∨ g + 3 ≤ c.1) ∧ c.1 ≤ 100) (fun c => n - c.1) ?_ (g, []) ⟨(Asc_nil 0).mono (by omega), Or.inl ⟨rfl, rfl⟩, Or.inl rfl, by show g ≤ 100; omega⟩
    rintro ⟨j, l⟩ ⟨h6, h7, h8, h9⟩ ih2
    simp only at h6 h7 h8 h9 ih2 ⊢
    have hl := h6.1
    by_cases hj : (j : Int) < (n : Int)
    · have e1 : wrap64 ((j : Int) + 3) = ((j + 3 : Nat) : Int) := w64 (by omega) (by omega)
      have h10 : l.length < 17592186044416 := by omega
      (refine EvP.shift ?_; simp only [trustquorummake_group.l1, hj, e1, h10, Option.bind_some, ↓reduceIte, Bool.false_eq_true, reduceCtorEq, decide_eq_true_eq, Go.Proofs.YtkjlcbfjllpcnaaW.PrintWords.rd, rd_T32, rd_T34])
      clear e1
      refine ih2 (j + 3, l ++ [(j : Int)]) ⟨?_, Or.inr (by simp), Or.inr (by show g + 3 ≤ j + 3; omega), by show j + 3 ≤ 100; omega⟩ (by show n - (j + 3) < n - j; omega)
      rw [show min j n = j by omega] at h6
      exact (Asc_snoc h6 (m := j + 1) (by omega) (by omega)).mono (by show j + 1 ≤ min (j + 3) n; omega)
    · rw [show min j n = n by omega] at h6 hl
      have ew : wrap64 ((g : Int) + 1) = ((g + 1 : Nat) : Int) := w64 (by omega) (by omega)
      by_cases h10 : (l.length : Int) > 0
      · have h11 : ts.length < 2513169434916 := by omega
        (refine EvP.shift ?_; simp only [trustquorummake_group.l1, hj, h10, ew, h11, Option.bind_some, ↓reduceIte, Bool.false_eq_true, reduceCtorEq, decide_eq_true_eq, Go.Proofs.YtkjlcbfjllpcnaaW.PrintWords.rd, rd_T32, rd_T34])
        clear ew
        refine EvP.bind (tRange hs h1 (by omega) (by omega) (by omega)) ?_
        rintro ⟨v, s'⟩ ⟨⟨h12, h13⟩, h14⟩
        simp only at h12 h13 h14 ⊢
        refine ih (g + 1, s', ts ++ [⟨v, l, []⟩]) ⟨h14, by show g + 1 ≤ 3; omega, by simp; omega, by simp, ?_⟩ (by show 3 - (g + 1) < 3 - g; omega)
        intro t ht
        rcases List.mem_append.1 ht with h | h
        · exact h5 t h
        · rw [List.mem_singleton.1 h]; exact ⟨h6, rfl, h12, h13⟩
      · (refine EvP.shift ?_; simp only [trustquorummake_group.l1, hj, h10, ew, Option.bind_some, ↓reduceIte, Bool.false_eq_true, reduceCtorEq, decide_eq_true_eq, Go.Proofs.YtkjlcbfjllpcnaaW.PrintWords.rd, rd_T32, rd_T34])
        clear ew
        refine ih (g + 1, s1, ts) ⟨h1, by show g + 1 ≤ 3; omega, by show ts.length ≤ g + 1; omega, fun _ => ?_, h5⟩ (by show 3 - (g + 1) < 3 - g; omega)
        show 1 ≤ ts.length
        by_cases hg : 1 ≤ g
        · exact h4 hg
        · exfalso; omega
  · (refine EvP.shift ?_; simp only [trustquorummake_group.l0, h0, Option.bind_some, ↓reduceIte, Bool.false_eq_true, reduceCtorEq, decide_eq_true_eq, Go.Proofs.YtkjlcbfjllpcnaaW.PrintWords.rd, rd_T32, rd_T34])
    refine EvP.bind (tN hs h1 (by omega) (by omega)) ?_
    rintro ⟨v, s'⟩ ⟨⟨h6, h7⟩, h8⟩
    simp only at h6 h7 h8 ⊢
    have h9 : 1 ≤ ts.length := h4 (by omega)
    split
    · have h10 : ¬ (ts.length : Int) = 0 := by omega
      have h11 : 0 ≤ Int.tmod (i : Int) (ts.length : Int) := Int.tmod_nonneg _ (by omega)
      have h12 : Int.tmod (i : Int) (ts.length : Int) < (ts.length : Int) := Int.tmod_lt_of_pos _ (by omega)
      simp only [h10, if_false, h11, if_true, h12]
      have hf := flat_ok hn (h5 _ (getD_mem' (l := ts) z32 (show (Int.tmod (i : Int) (ts.length : Int)).toNat < ts.length by omega)))
      generalize ts.getD (Int.tmod (i : Int) (ts.length : Int)).toNat z32 = t at hf ⊢
      cases t
      exact EvP.now ⟨hf, h8⟩
    · have ew : wrap64 ((ts.length : Int) - 1) = (ts.length : Int) - 1 := w64 (by omega) (by omega)
      rw [ew]
      clear ew
      have hm : 1 ≤ mx 1 ((ts.length : Int) - 1) ∧ mx 1 ((ts.length : Int) - 1) ≤ (ts.length : Int) := by unfold mx; split <;> omega
      refine EvP.bind (tRange hs h8 (by omega) (by omega) (by omega)) ?_
      rintro ⟨v, s'⟩ ⟨⟨h12, h13⟩, h14⟩
      simp only at h12 h13 h14 ⊢
      exact EvP.now ⟨group_ok hn (show 1 ≤ v by omega) h13 (show ts.length ≤ 3 by omega) h5, h14⟩
def OkM (n : Nat) (m : S34) : Prop := if m.f0 = true then Okt n m.f1 else m.f1 = ⟨0, [], []⟩
def OkC (c : List S34) : Prop := 1 ≤ c.length ∧ c.length ≤ 10 ∧ ∀ m ∈ c, OkM c.length m
theorem Config_ev {s : List Int} (hs : s.length < 4611686018427387904) {a : Int} (ha : 1 ≤ a) (ha2 : a ≤ 10) {s1 : Int} (h1 : 0 ≤ s1) :
    EvP (fun k => trustquorummake_Config.f k s s1 a) (fun r => (OkC r.1 ∧ (r.1.length : Int) ≤ a) ∧ 0 ≤ r.2) := by
  simp only [trustquorummake_Config.f]
  refine EvP.bind (tRange hs h1 (by omega) ha (by omega)) ?_
  rintro ⟨N, s2⟩ ⟨⟨h2, h3⟩, h4⟩
  simp only at h2 h3 h4 ⊢
  refine EvP.bind (tN hs h4 (by omega) (by omega)) ?_
  rintro ⟨g, s3⟩ ⟨⟨h5, h6⟩, h7⟩
  simp only at h5 h6 h7 ⊢
  obtain ⟨n, rfl⟩ := Int.eq_ofNat_of_zero_le (show 0 ≤ N by omega)
  have hn : n ≤ 10 := by omega
  have hn1 : 1 ≤ n := by omega
  clear h1 h4
  refine EvP.loop (L := fun (c : Nat × Int × List S34) k => trustquorummake_Config.l0 k (n : Int) g (c.1 : Int) s c.2.1 c.2.2) (fun c => 0 ≤ c.2.1 ∧ c.1 ≤ n ∧ c.2.2.length = c.1 ∧ ∀ m ∈ c.2.2, OkM n m) (fun c => n - c.1) ?_ (0, s3, []) ⟨h7, by simp, by simp, by simp⟩
  rintro ⟨i, s1, c⟩ ⟨h1, h8, h9, h10⟩ ih
  simp only at h1 h8 h9 h10 ih ⊢
  by_cases h0 : (i : Int) < (n : Int)
  · have h11 : c.length < 2199023255552 := by omega
    have nxt : ∀ (m : S34) (s' : Int), 0 ≤ s' → OkM n m → EvP (fun k => trustquorummake_Config.l0 k (n : Int) g ((i + 1 : Nat) : Int) s s' (c ++ [m])) (fun r => (OkC r.1 ∧ (r.1.length : Int) ≤ a) ∧ 0 ≤ r.2) := by
      intro m s' hs' hm
      refine ih (i + 1, s', c ++ [m]) ⟨hs', by show i + 1 ≤ n; omega, by simp; omega, ?_⟩ (by show n - (i + 1) < n - i; omega)
      intro x hx
      rcases List.mem_append.1 hx with h | h
      · exact h10 x h
      · rw [List.mem_singleton.1 h]; exact hm
    have e1 : wrap64 ((i : Int) + 1) = ((i + 1 : Nat) : Int) := w64 (by omega) (by omega)
    by_cases c1 : g = 0
    · (refine EvP.shift ?_; simp only [trustquorummake_Config.l0, h0, e1, h11, c1, Option.bind_some, ↓reduceIte, Bool.false_eq_true, reduceCtorEq, decide_eq_true_eq, Go.Proofs.YtkjlcbfjllpcnaaW.PrintWords.rd, rd_T32, rd_T34])
      rw [c1] at nxt
      clear e1
      refine EvP.bind (Trust_ev hs hn hn1 h1) ?_
      rintro ⟨v, l, ts, s'⟩ ⟨h12, h13⟩
      simp only at h12 h13 ⊢
      refine EvP.bind (tN hs h13 (by omega) (by omega)) ?_
      rintro ⟨v2, s2⟩ ⟨_, h14⟩
      simp only at h14 ⊢
      split
      · exact nxt ⟨false, ⟨0, [], []⟩⟩ s2 h14 rfl
      · exact nxt ⟨true, ⟨v, l, ts⟩⟩ s2 h14 h12
    by_cases c2 : g = 1
    · have c3 : ¬ (1 : Int) = 0 := by decide
      (refine EvP.shift ?_; simp only [trustquorummake_Config.l0, h0, e1, h11, c2, c3, Option.bind_some, ↓reduceIte, Bool.false_eq_true, reduceCtorEq, decide_eq_true_eq, Go.Proofs.YtkjlcbfjllpcnaaW.PrintWords.rd, rd_T32, rd_T34])
      rw [c2] at nxt
      clear e1
      refine EvP.bind (most_ev hs hn hn1 h1) ?_
      rintro ⟨v, l, ts, s'⟩ ⟨h12, h13⟩
      simp only at h12 h13 ⊢
      refine EvP.bind (tN hs h13 (by omega) (by omega)) ?_
      rintro ⟨v2, s2⟩ ⟨_, h14⟩
      simp only at h14 ⊢
      split
      · exact nxt ⟨false, ⟨0, [], []⟩⟩ s2 h14 rfl
      · exact nxt ⟨true, ⟨v, l, ts⟩⟩ s2 h14 h12
    · (refine EvP.shift ?_; simp only [trustquorummake_Config.l0, h0, e1, h11, c1, c2, Option.bind_some, ↓reduceIte, Bool.false_eq_true, reduceCtorEq, decide_eq_true_eq, Go.Proofs.YtkjlcbfjllpcnaaW.PrintWords.rd, rd_T32, rd_T34])
      clear e1
      refine EvP.bind (group_ev hs hn hn1 h1 i (by omega)) ?_
      rintro ⟨v, l, ts, s'⟩ ⟨h12, h13⟩
      simp only at h12 h13 ⊢
      refine EvP.bind (tN hs h13 (by omega) (by omega)) ?_
      rintro ⟨v2, s2⟩ ⟨_, h14⟩
      simp only at h14 ⊢
      split
      · exact nxt ⟨false, ⟨0, [], []⟩⟩ s2 h14 rfl
      · exact nxt ⟨true, ⟨v, l, ts⟩⟩ s2 h14 h12
  · (refine EvP.shift ?_; simp only [trustquorummake_Config.l0, h0, Option.bind_some, ↓reduceIte, Bool.false_eq_true, reduceCtorEq, decide_eq_true_eq, Go.Proofs.YtkjlcbfjllpcnaaW.PrintWords.rd, rd_T32, rd_T34])
    have e : c.length = n := by omega
    refine EvP.now ⟨⟨⟨?_, ?_, ?_⟩, ?_⟩, h1⟩
    · show 1 ≤ c.length; omega
    · show c.length ≤ 10; omega
    · show ∀ m ∈ c, OkM c.length m
      rw [e]; exact h10
    · show (c.length : Int) ≤ a; omega
theorem New_ev (l0 : List Int) (h : l0.length < 4611686018427387904) : ∃ s, s.length < 4611686018427387904 ∧ trustquorummake_New.f l0 = some (s, 0) := by
  unfold trustquorummake_New.f
  have h1 : 0 ≤ mn (l0.length : Int) 400 := by unfold mn; split <;> omega
  have h2 : mn (l0.length : Int) 400 ≤ (l0.length : Int) := by unfold mn; split <;> omega
  rw [if_pos h1, if_pos h2]
  refine ⟨_, ?_, rfl⟩
  rw [List.length_take]
  omega
theorem inS_mono {s t : Nat} (h : Sub s t) {x : Int} (hx : inS s x = true) : inS t x = true := by
  simp only [inS, Bool.and_eq_true] at hx ⊢
  exact ⟨hx.1, h _ hx.2⟩
mutual
theorem sat_mono {s t : Nat} (h : Sub s t) : ∀ x : S32, sat s x = true → sat t x = true
  | ⟨n, l, ts⟩ => by
    rw [sat, sat, decide_eq_true_eq, decide_eq_true_eq]
    intro hx
    have h1 : l.countP (fun x => inS s x) ≤ l.countP (fun x => inS t x) := List.countP_mono_left fun x _ hx => inS_mono h hx
    have h2 := satC_mono h ts
    omega
theorem satC_mono {s t : Nat} (h : Sub s t) : ∀ l : List S32, satC s l ≤ satC t l
  | [] => by rw [satC, satC]; exact Nat.le_refl _
  | x :: xs => by
    rw [satC, satC]
    have h1 := satC_mono h xs
    have h2 := sat_mono h x
    cases hs : sat s x
    · simp; omega
    · rw [h2 hs]; simp; omega
end
def declF (i a : Nat) : List S34 → Nat
  | [] => a
  | m :: ms => declF (i + 1) (if m.f0 = true ∧ i < 10 then a ||| 2 ^ i else a) ms
def decl (c : List S34) : Nat := declF 0 0 c
theorem declF_bit : ∀ (ms : List S34) (i a j : Nat), (declF i a ms).testBit j = (a.testBit j || (decide (i ≤ j) && decide (j < 10) && (ms.getD (j - i) z34).f0)) := by
  intro ms
  induction ms with
  | nil => intro i a j; simp [declF, z34]
  | cons m ms ih =>
    intro i a j
    rw [declF, ih]
    by_cases h : j = i
    · subst h
      have e : decide (j + 1 ≤ j) = false := by simp
      have e2 : decide (j ≤ j) = true := by simp
      rw [e, e2, Nat.sub_self]
      by_cases h2 : j < 10 <;> cases hm : m.f0 <;> simp [h2, hm]
    · have e : (if m.f0 = true ∧ i < 10 then a ||| 2 ^ i else a).testBit j = a.testBit j := by
        split
        · rw [or_bit, two_bit]; simp; intro h2; omega
        · rfl
      rw [e]
      by_cases h2 : i ≤ j
      · obtain ⟨d, rfl⟩ : ∃ d, j = i + 1 + d := ⟨j - (i + 1), by omega⟩
        have h3 : i + 1 + d - i = d + 1 := by omega
        have h4 : i + 1 + d - (i + 1) = d := by omega
        rw [h3, h4, List.getD_cons_succ]
        simp [h2]
      · have h3 : ¬ i + 1 ≤ j := by omega
        simp [h2, h3]
theorem decl_bit (c : List S34) (j : Nat) : (decl c).testBit j = (decide (j < 10) && (c.getD j z34).f0) := by
  rw [decl, declF_bit]; simp
theorem decl_lt (c : List S34) : decl c < 1024 := lt_of_bits (n := 10) fun i hi => by rw [decl_bit]; simp; omega
theorem decl_len {c : List S34} {j : Nat} (h : (decl c).testBit j = true) : j < c.length := by
  rw [decl_bit] at h
  by_cases hj : j < c.length
  · exact hj
  · rw [List.getD_eq_getElem?_getD, List.getElem?_eq_none (by omega)] at h
    simp [z34] at h
def nodesL (s : Nat) : List Int := ((List.range 10).filter fun i => s.testBit i).map Int.ofNat
theorem nodesL_mem {s : Nat} {x : Int} : x ∈ nodesL s ↔ inS s x = true := by
  simp only [nodesL, List.mem_map, List.mem_filter, List.mem_range, inS, Bool.and_eq_true, decide_eq_true_eq]
  constructor
  · rintro ⟨i, ⟨h1, h2⟩, rfl⟩
    exact ⟨⟨by simp, by simp; omega⟩, by simpa using h2⟩
  · rintro ⟨⟨h1, h2⟩, h3⟩
    exact ⟨x.toNat, ⟨by omega, h3⟩, by simp; omega⟩
theorem nodesL_len (s : Nat) : (nodesL s).length ≤ 10 := by
  rw [nodesL, List.length_map]
  have := List.length_filter_le (fun i => s.testBit i) (List.range 10)
  simpa using this
def Light (c : List S34) : Prop := c.length < 1000000 ∧ ∀ m ∈ c, wt m.f1 < 1000000
theorem OkC.light {c : List S34} (h : OkC c) : Light c := by
  refine ⟨by have := h.2.1; omega, fun m hm => ?_⟩
  have := h.2.2 m hm
  unfold OkM at this
  split at this
  · have := this.2.1; omega
  · rw [this]; decide
theorem Light.at {c : List S34} (h : Light c) (j : Nat) : wt (c.getD j z34).f1 < 1000000 := by
  by_cases hj : j < c.length
  · exact h.2 _ (getD_mem' z34 hj)
  · rw [List.getD_eq_getElem?_getD, List.getElem?_eq_none (by omega)]; decide
def blk (c : List S34) (s : Nat) (j : Int) : Bool := inS (decl c) j && !(sat (dif 1023 s ||| 2 ^ j.toNat) (c.getD j.toNat z34).f1)
theorem inS_iff {s : Nat} {x : Int} : inS s x = true ↔ ∃ i : Nat, x = (i : Int) ∧ i < 10 ∧ s.testBit i = true := by
  simp only [inS, Bool.and_eq_true, decide_eq_true_eq]
  constructor
  · rintro ⟨⟨h1, h2⟩, h3⟩
    exact ⟨x.toNat, by omega, by omega, h3⟩
  · rintro ⟨i, rfl, h1, h2⟩
    exact ⟨⟨by omega, by omega⟩, by simpa using h2⟩
theorem and_nat' {a b : Nat} (ha : a < 1024) (hb : b < 1024) : Go.bits .and .i64 (a : Int) (b : Int) = ((a &&& b : Nat) : Int) := and_nat (by omega) (by omega)
theorem or_nat' {a b : Nat} (ha : a < 1024) (hb : b < 1024) : Go.bits .or .i64 (a : Int) (b : Int) = ((a ||| b : Nat) : Int) := or_nat (by omega) (by omega)
theorem shl_nat' {k : Nat} (h : k < 10) : shl .i64 1 (k : Int) = ((2 ^ k : Nat) : Int) := shl_nat (by omega)
theorem Declared_ev {c : List S34} (hc : c.length < 1000000) : Ev (fun k => configuration_Declared.f k c) (decl c : Int) := by
  simp only [configuration_Declared.f]
  refine Ev.fold (xs := c) (L := fun (a : Nat) i k => configuration_Declared.l0 k (a : Int) c (c.length : Int) i) (by omega) (fun pre ys a => declF pre.length a ys = decl c ∧ a < 1024) ?_ ?_ 0 ⟨rfl, by decide⟩
  · rintro a i ⟨hI, ha⟩ hi
    rw [declF] at hI
    (refine Ev.shift ?_; simp only [configuration_Declared.l0, hi, Option.bind_some, ↓reduceIte, Bool.false_eq_true, reduceCtorEq, decide_eq_true_eq, Go.Proofs.YtkjlcbfjllpcnaaW.PrintWords.rd, rd_T32, rd_T34])
    rw [hI]
    exact Ev.now _
  · rintro pre y ys a i e ⟨hI, ha⟩ hi h0 hlt hw hrd
    subst hi
    rw [declF] at hI
    by_cases h10 : pre.length < 10
    · have h10' : (pre.length : Int) < 10 := by omega
      have h2 := two_lt10 h10
      cases hy : y.f0
      · refine Or.inl ⟨a, ⟨by simpa [hy] using hI, ha⟩, fun k => ?_⟩
        (refine Ev.shift ?_; simp only [configuration_Declared.l0, h0, hlt, hw, hrd, hy, h10', Option.bind_some, ↓reduceIte, Bool.false_eq_true, reduceCtorEq, decide_eq_true_eq, Go.Proofs.YtkjlcbfjllpcnaaW.PrintWords.rd, rd_T32, rd_T34])
        exact k
      · refine Or.inl ⟨a ||| 2 ^ pre.length, ⟨by simpa [hy, h10] using hI, or_lt10 ha h2⟩, fun k => ?_⟩
        (refine Ev.shift ?_; simp only [configuration_Declared.l0, h0, hlt, hw, hrd, hy, h10', Option.bind_some, ↓reduceIte, Bool.false_eq_true, reduceCtorEq, decide_eq_true_eq, Go.Proofs.YtkjlcbfjllpcnaaW.PrintWords.rd, rd_T32, rd_T34])
        rw [shl_nat' h10, or_nat' ha h2]
        exact k
    · have h10' : ¬ (pre.length : Int) < 10 := by omega
      refine Or.inl ⟨a, ⟨by simpa [h10] using hI, ha⟩, fun k => ?_⟩
      cases hy : y.f0
      · (refine Ev.shift ?_; simp only [configuration_Declared.l0, h0, hlt, hw, hrd, hy, h10', Option.bind_some, ↓reduceIte, Bool.false_eq_true, reduceCtorEq, decide_eq_true_eq, Go.Proofs.YtkjlcbfjllpcnaaW.PrintWords.rd, rd_T32, rd_T34])
        exact k
      · (refine Ev.shift ?_; simp only [configuration_Declared.l0, h0, hlt, hw, hrd, hy, h10', Option.bind_some, ↓reduceIte, Bool.false_eq_true, reduceCtorEq, decide_eq_true_eq, Go.Proofs.YtkjlcbfjllpcnaaW.PrintWords.rd, rd_T32, rd_T34])
        exact k
theorem Nodes_ev {s : Nat} (hs : s < 1024) : Ev (fun k => nodeset_Nodes.f k (s : Int)) (nodesL s) := by
  simp only [nodeset_Nodes.f]
  refine Ev.count (L := fun (l : List Int) i k => nodeset_Nodes.l0 k (s : Int) l i) 10 (by decide) (fun i l => l = ((List.range i).filter fun i => s.testBit i).map Int.ofNat) ?_ ?_ [] rfl
  · rintro l rfl
    have h : ¬ ((10 : Nat) : Int) < 10 := by decide
    (refine Ev.shift ?_; simp only [nodeset_Nodes.l0, h, Option.bind_some, ↓reduceIte, Bool.false_eq_true, reduceCtorEq, decide_eq_true_eq, Go.Proofs.YtkjlcbfjllpcnaaW.PrintWords.rd, rd_T32, rd_T34])
    exact Ev.now _
  · rintro i l hi hl hw
    have h : (i : Int) < 10 := by omega
    have hlen : l.length < 17592186044416 := by
      rw [hl, List.length_map]
      have := List.length_filter_le (fun i => s.testBit i) (List.range i)
      simp at this ⊢; omega
    cases hb : s.testBit i
    · refine Or.inl ⟨l, ?_, fun k => ?_⟩
      · rw [hl, List.range_succ, List.filter_append]; simp [hb]
      · (refine Ev.shift ?_; simp only [nodeset_Nodes.l0, h, Has_eq hs, inS_nat s i (by omega), hb, hw, Option.bind_some, ↓reduceIte, Bool.false_eq_true, reduceCtorEq, decide_eq_true_eq, Go.Proofs.YtkjlcbfjllpcnaaW.PrintWords.rd, rd_T32, rd_T34])
        exact k
    · refine Or.inl ⟨l ++ [(i : Int)], ?_, fun k => ?_⟩
      · rw [hl, List.range_succ, List.filter_append]; simp [hb]
      · (refine Ev.shift ?_; simp only [nodeset_Nodes.l0, h, Has_eq hs, inS_nat s i (by omega), hb, hw, hlen, Option.bind_some, ↓reduceIte, Bool.false_eq_true, reduceCtorEq, decide_eq_true_eq, Go.Proofs.YtkjlcbfjllpcnaaW.PrintWords.rd, rd_T32, rd_T34])
        exact k
theorem Blocks_ev {c : List S34} (hc : Light c) {s : Nat} (hs : s < 1024) (j : Int) : Ev (fun k => blocking_Blocks.f k c j (s : Int)) (blk c s j) := by
  simp only [blocking_Blocks.f, Valid_eq, vld_nat hs, Option.bind_some, ↓reduceIte, Bool.false_eq_true, reduceCtorEq, decide_eq_true_eq, Go.Proofs.YtkjlcbfjllpcnaaW.PrintWords.rd, rd_T32, rd_T34]
  refine Ev.bind1 (Declared_ev hc.1) ?_
  simp only [Has_eq (decl_lt c), Option.bind_some, ↓reduceIte, Bool.false_eq_true, reduceCtorEq, decide_eq_true_eq, Go.Proofs.YtkjlcbfjllpcnaaW.PrintWords.rd, rd_T32, rd_T34]
  unfold blk
  cases hd : inS (decl c) j
  · exact Ev.now _
  · obtain ⟨i, rfl, h1, h2⟩ := inS_iff.1 hd
    have h3 := decl_len h2
    have h4 : (0 : Int) ≤ i := by omega
    have h5 : (i : Int) < (c.length : Int) := by omega
    have h6 := two_lt10 h1
    have h7 : dif 1023 s < 1024 := dif_lt (n := 10) (by decide)
    simp only [h4, h5, Int.toNat_natCast, Bool.true_and, Option.bind_some, ↓reduceIte, Bool.false_eq_true, reduceCtorEq, decide_eq_true_eq, Go.Proofs.YtkjlcbfjllpcnaaW.PrintWords.rd, rd_T32, rd_T34]
    rw [show Go.bits .andNot .i64 1023 (s : Int) = ((dif 1023 s : Nat) : Int) from andNot_nat (a := 1023) (by decide) (by omega), shl_nat' h1, or_nat' h7 h6]
    refine Ev.bind1 (Sat_ev (or_lt10 h7 h6) 1000000 _ (hc.at i) (by decide)) ?_
    exact Ev.now _
def nxt (c : List S34) (s : Nat) : Option Int := (nodesL (dif (decl c) s)).find? fun j => blk c s j
theorem next_ev {c : List S34} (hc : Light c) {s : Nat} (hs : s < 1024) : Ev (fun k => blocking_next.f k c (s : Int)) (match nxt c s with | some j => (j, true) | none => (0, false)) := by
  simp only [blocking_next.f, Option.bind_some, ↓reduceIte, Bool.false_eq_true, reduceCtorEq, decide_eq_true_eq, Go.Proofs.YtkjlcbfjllpcnaaW.PrintWords.rd, rd_T32, rd_T34]
  refine Ev.bind1 (Declared_ev hc.1) ?_
  have hd := decl_lt c
  have h7 : dif (decl c) s < 1024 := dif_lt (n := 10) hd
  rw [andNot_nat (a := decl c) (b := s) (by omega) (by omega)]
  refine Ev.bind1 (Nodes_ev h7) ?_
  have hl := nodesL_len (dif (decl c) s)
  refine Ev.fold (xs := nodesL (dif (decl c) s)) (L := fun (a : Unit) i k => blocking_next.l0 k (s : Int) (nodesL (dif (decl c) s)) ((nodesL (dif (decl c) s)).length : Int) i c) (by omega) (fun pre ys a => ys.find? (fun j => blk c s j) = nxt c s) ?_ ?_ () rfl
  · intro a i hI hi
    rw [List.find?_nil] at hI
    (refine Ev.shift ?_; simp only [blocking_next.l0, hi, Option.bind_some, ↓reduceIte, Bool.false_eq_true, reduceCtorEq, decide_eq_true_eq, Go.Proofs.YtkjlcbfjllpcnaaW.PrintWords.rd, rd_T32, rd_T34])
    rw [← hI]
    exact Ev.now _
  · intro pre y ys a i e hI hi h0 hlt hw hrd
    rw [List.find?_cons] at hI
    cases hb : blk c s y
    · refine Or.inl ⟨(), by simpa [hb] using hI, fun k => ?_⟩
      (refine Ev.shift ?_; simp only [blocking_next.l0, h0, hlt, hw, hrd, Option.bind_some, ↓reduceIte, Bool.false_eq_true, reduceCtorEq, decide_eq_true_eq, Go.Proofs.YtkjlcbfjllpcnaaW.PrintWords.rd, rd_T32, rd_T34])
      refine Ev.bind1 (Blocks_ev hc hs y) ?_
      rw [hb]
      exact k
    · refine Or.inr ?_
      rw [hb] at hI
      simp only at hI
      rw [← hI]
      (refine Ev.shift ?_; simp only [blocking_next.l0, h0, hlt, hw, hrd, Option.bind_some, ↓reduceIte, Bool.false_eq_true, reduceCtorEq, decide_eq_true_eq, Go.Proofs.YtkjlcbfjllpcnaaW.PrintWords.rd, rd_T32, rd_T34])
      refine Ev.bind1 (Blocks_ev hc hs y) ?_
      rw [hb]
      exact Ev.now _
theorem nxt_some {c : List S34} {s : Nat} {j : Int} (h : nxt c s = some j) : ∃ i : Nat, j = (i : Int) ∧ i < 10 ∧ (decl c).testBit i = true ∧ s.testBit i = false ∧ blk c s j = true := by
  have h1 := List.find?_some h
  have h2 := nodesL_mem.1 (List.mem_of_find?_eq_some h)
  obtain ⟨i, rfl, h3, h4⟩ := inS_iff.1 h2
  rw [dif_bit, Bool.and_eq_true] at h4
  exact ⟨i, rfl, h3, h4.1, by simpa using h4.2, h1⟩
def Closed (c : List S34) (s : Nat) : Prop := ∀ j, blk c s j = true → inS s j = true
theorem nxt_none {c : List S34} {s : Nat} : nxt c s = none ↔ Closed c s := by
  rw [nxt, List.find?_eq_none]
  constructor
  · intro h j hj
    cases hs : inS s j
    · have hd : inS (decl c) j = true := by
        unfold blk at hj; rw [Bool.and_eq_true] at hj; exact hj.1
      obtain ⟨i, rfl, h1, h2⟩ := inS_iff.1 hd
      exact absurd hj (h _ (nodesL_mem.2 (inS_iff.2 ⟨i, rfl, h1, by rw [dif_bit, h2, ← inS_nat s i h1, hs]; rfl⟩)))
    · rfl
  · intro h j hj hb
    have := h j hb
    have h2 := nodesL_mem.1 hj
    obtain ⟨i, rfl, h3, h4⟩ := inS_iff.1 h2
    rw [inS_nat s i h3] at this
    rw [dif_bit, this] at h4
    simp at h4
theorem blk_mono {c : List S34} {s t : Nat} (h : Sub s t) {j : Int} (hj : blk c s j = true) : blk c t j = true := by
  unfold blk at hj ⊢
  rw [Bool.and_eq_true, Bool.not_eq_true'] at hj ⊢
  refine ⟨hj.1, ?_⟩
  cases hs : sat (dif 1023 t ||| 2 ^ j.toNat) (c.getD j.toNat z34).f1
  · rfl
  · rw [← hj.2]
    symm
    refine sat_mono ?_ _ hs
    intro i hi
    rw [or_bit, dif_bit] at hi ⊢
    have := h i
    cases ht : t.testBit i <;> cases hs : s.testBit i <;> simp_all
theorem Sub.or {a b c : Nat} (h : Sub a c) (k : Sub b c) : Sub (a ||| b) c := fun i hi => by
  rw [or_bit, Bool.or_eq_true] at hi
  exact hi.elim (h i) (k i)
theorem Sub.orl (a b : Nat) : Sub a (a ||| b) := fun i hi => by rw [or_bit, hi]; rfl
theorem Sub.two {i s : Nat} (h : s.testBit i = true) : Sub (2 ^ i) s := fun j hj => by
  rw [two_bit, decide_eq_true_eq] at hj; subst hj; exact h
theorem pcn_lt {s i : Nat} (hi : i < 10) (h : s.testBit i = false) : pcn s < pcn (s ||| 2 ^ i) := by
  unfold pcn
  have key : ∀ n, (List.range n).countP (fun k => s.testBit k) + (if i < n then 1 else 0) ≤ (List.range n).countP fun k => (s ||| 2 ^ i).testBit k := by
    intro n
    induction n with
    | zero => simp
    | succ n ih =>
      rw [List.range_succ, List.countP_append, List.countP_append, List.countP_singleton, List.countP_singleton, or_bit, two_bit]
      generalize (List.range n).countP (fun k => (s ||| 2 ^ i).testBit k) = B at ih ⊢
      generalize (List.range n).countP (fun k => s.testBit k) = A at ih ⊢
      by_cases e : i = n
      · subst e
        rw [h, if_neg (Nat.lt_irrefl i)] at *
        simp
        omega
      · by_cases hin : i < n
        · rw [if_pos hin] at ih
          rw [if_pos (show i < n + 1 by omega)]
          cases hb : s.testBit n <;> simp [e] <;> omega
        · rw [if_neg hin] at ih
          rw [if_neg (show ¬ i < n + 1 by omega)]
          cases hb : s.testBit n <;> simp [e] <;> omega
  have := key 10
  rw [if_pos hi] at this
  omega
theorem pcn_le (s : Nat) : pcn s ≤ 10 := by
  have : (List.range 10).countP (fun k => s.testBit k) ≤ (List.range 10).length := List.countP_le_length
  simpa [pcn] using this
def Casc (c : List S34) (s T : Nat) : Prop := T < 1024 ∧ Sub s T ∧ Closed c T ∧ ∀ U, U < 1024 → Sub s U → Closed c U → Sub T U
theorem Cascade_ev {c : List S34} (hc : Light c) {s : Nat} (hs : s < 1024) : EvP (fun k => blocking_Cascade.f k c (s : Int)) (fun r => ∃ T : Nat, r.2 = (T : Int) ∧ Casc c s T ∧ (Closed c s → r.1 = [])) := by
  simp only [blocking_Cascade.f, Valid_eq, vld_nat hs, Option.bind_some, if_true]
  refine EvP.bind (EvP.ofEv (next_ev hc hs)) ?_
  rintro r0 rfl
  refine EvP.loop (L := fun (x : List Int × Nat) k => blocking_Cascade.l0 k (x.2 : Int) x.1 (match nxt c x.2 with | some j => (j, true) | none => (0, false)).1 (match nxt c x.2 with | some j => (j, true) | none => (0, false)).2 c)
    (fun x => x.2 < 1024 ∧ x.1.length ≤ pcn x.2 ∧ Sub s x.2 ∧ (∀ U, U < 1024 → Sub s U → Closed c U → Sub x.2 U) ∧ (Closed c s → x.1 = [] ∧ x.2 = s)) (fun x => 10 - pcn x.2) ?_ ([], s) ⟨hs, by simp, Sub.refl s, fun U _ h _ => h, fun _ => ⟨rfl, rfl⟩⟩
  rintro ⟨l, T⟩ ⟨h1, h2, h3, h4, h5⟩ ih
  simp only at h1 h2 h3 h4 h5 ih ⊢
  have hp := pcn_le T
  cases hn : nxt c T with
  | none =>
    (refine EvP.shift ?_; simp only [blocking_Cascade.l0, Option.bind_some, ↓reduceIte, Bool.false_eq_true, reduceCtorEq, decide_eq_true_eq, Go.Proofs.YtkjlcbfjllpcnaaW.PrintWords.rd, rd_T32, rd_T34])
    exact EvP.now ⟨T, rfl, ⟨h1, h3, nxt_none.1 hn, h4⟩, fun h => (h5 h).1⟩
  | some j =>
    obtain ⟨i, rfl, h6, h7, h8, h9⟩ := nxt_some hn
    have h10 := two_lt10 h6
    have hlt := pcn_lt h6 h8
    have hp2 := pcn_le (T ||| 2 ^ i)
    have h11 : l.length < 17592186044416 := by omega
    have h12 : (0 : Int) ≤ i := by omega
    (refine EvP.shift ?_; simp only [blocking_Cascade.l0, h11, h12, shl_nat' h6, or_nat' h1 h10, Option.bind_some, ↓reduceIte, Bool.false_eq_true, reduceCtorEq, decide_eq_true_eq, Go.Proofs.YtkjlcbfjllpcnaaW.PrintWords.rd, rd_T32, rd_T34])
    refine EvP.bind (EvP.ofEv (next_ev hc (or_lt10 h1 h10))) ?_
    rintro r0 rfl
    refine ih (l ++ [(i : Int)], T ||| 2 ^ i) ⟨or_lt10 h1 h10, by simp; omega, h3.trans (Sub.orl _ _), fun U hU hs hcl => (h4 U hU hs hcl).or (Sub.two ?_), fun h => ?_⟩ (by show 10 - pcn (T ||| 2 ^ i) < 10 - pcn T; omega)
    · rw [← inS_nat U i h6]
      exact hcl _ (blk_mono (h4 U hU hs hcl) h9)
    · have := (h5 h).2
      subst this
      have := h _ h9
      rw [inS_nat T i h6, h8] at this
      cases this
end Go.Proofs.Ytkjlcbfjllpcnaa.X
namespace Go.Proofs.Ytkjlcbfjllpcnaa.X
open Go.RowKit Go.Lib Go.Sort Go.Proofs.YtkjlcbfjllpcnaaW.PrintWords Go.Proofs.YtkjlcbfjllpcnaaW.PrintLast Go.Proofs.YtkjlcbfjllpcnaaW.PrintMore
set_option linter.unusedVariables false
def leS (x y : Int) : Prop := ¬ ltS y x
instance (x y : Int) : Decidable (leS x y) := inferInstanceAs (Decidable (¬ (_ ∨ _)))
theorem leS_antisymm {x y : Int} (h : leS x y) (k : leS y x) : x = y := by unfold leS ltS at *; omega
theorem sortS_perm (l : List Int) : (sortS l).Perm l := List.mergeSort_perm _ _
theorem sortS_sorted (l : List Int) : (sortS l).Pairwise leS := by
  have := List.pairwise_mergeSort (le := fun x y => !(ltOf cmpS) y x) (by
    intro a b c h1 h2
    rw [Bool.not_eq_true', ltOf_not] at *
    unfold ltS at *; omega) (by
    intro a b
    rw [Bool.or_eq_true, Bool.not_eq_true', Bool.not_eq_true', ltOf_not, ltOf_not]
    unfold ltS; omega) l
  refine this.imp ?_
  intro a b h
  rw [Bool.not_eq_true', ltOf_not] at h
  exact h
theorem sortS_eq {l l' : List Int} (h : l.Perm l') (hs : l'.Pairwise leS) : sortS l = l' :=
  List.Perm.eq_of_pairwise (le := leS) (fun a b _ _ h k => leS_antisymm h k) (sortS_sorted l) hs ((sortS_perm l).trans h)
theorem sub_nat {a b : Nat} (ha : a < 1024) (hb : b < 1024) : sub (a : Int) (b : Int) = true ↔ Sub a b := by
  unfold sub
  rw [andNot_nat (by omega) (by omega), beq_iff_eq, ← sub_dif]
  omega
theorem subsetsS_mem {s : Nat} (hs : s < 1024) {x : Int} : x ∈ subsetsS (s : Int) ↔ ∃ t : Nat, x = (t : Int) ∧ Sub t s := by
  rw [subsetsS, vld_nat hs, if_pos rfl, (sortS_perm _).mem_iff, subsBelow, List.mem_filter, List.mem_map]
  constructor
  · rintro ⟨⟨t, h1, rfl⟩, h2⟩
    rw [List.mem_range] at h1
    exact ⟨t, rfl, (sub_nat (by simp at h1; omega) hs).1 h2⟩
  · rintro ⟨t, rfl, h⟩
    have ht : t ≤ s := by
      have : t &&& s = t := sub_and.2 h
      rw [← this]; exact Nat.and_le_right
    exact ⟨⟨t, by rw [List.mem_range]; simp; omega, rfl⟩, (sub_nat (by omega) hs).2 h⟩
theorem subsetsS_len {s : Nat} (hs : s < 1024) : (subsetsS (s : Int)).length ≤ 1024 := by
  rw [subsetsS, vld_nat hs, if_pos rfl, sortS_length]
  have := subsBelow_le (s : Int) ((s : Int).toNat + 1)
  simp at this ⊢; omega
def memV (n : Nat) (m : S34) : Int := if m.f0 = true then (if validT m.f1 = 0 then (if uses m.f1 < 2 ^ n then 0 else 5) else validT m.f1) else (if m.f1.f0 = 0 ∧ m.f1.f1 = [] ∧ m.f1.f2 = [] then 0 else 1)
def valF (n : Nat) : List S34 → Int
  | [] => 0
  | m :: ms => if memV n m = 0 then valF n ms else memV n m
def valC (c : List S34) : Int := if c.length > 10 then 3 else valF c.length c
theorem member_ev {n : Nat} (hn : n ≤ 10) (m : S34) (hm : wt m.f1 < 1000000) : Ev (fun k => configuration_member.f k m.f0 m.f1.f0 m.f1.f1 m.f1.f2 (n : Int)) (memV n m) := by
  unfold memV
  cases h : m.f0
  · simp only [configuration_member.f, configuration_blank.f, Option.bind_some, ↓reduceIte, Bool.false_eq_true, reduceCtorEq, decide_eq_true_eq, Go.Proofs.YtkjlcbfjllpcnaaW.PrintWords.rd, rd_T32, rd_T34]
    by_cases h1 : m.f1.f0 = 0
    · by_cases h2 : m.f1.f1 = []
      · by_cases h3 : m.f1.f2 = []
        · simp only [h1, h2, h3, and_self, if_true, List.length_nil, Option.bind_some]
          simp only [Int.natCast_zero, beq_self_eq_true, if_true, Int.ofNat_zero, Option.bind_some]
          exact Ev.now _
        · have : ¬ (m.f1.f2.length : Int) = 0 := by
            intro h; exact h3 (List.eq_nil_of_length_eq_zero (by omega))
          have e2 : ((m.f1.f2.length : Int) == 0) = false := by simpa using this
          simp only [h1, h2, h3, and_false, if_true, if_false, List.length_nil, Int.natCast_zero, Int.ofNat_zero, e2, Option.bind_some, Bool.false_eq_true]
          exact Ev.now _
      · have : ¬ (m.f1.f1.length : Int) = 0 := by
          intro h; exact h2 (List.eq_nil_of_length_eq_zero (by omega))
        simp only [h1, h2, this, false_and, and_false, if_true, if_false, Option.bind_some, Bool.false_eq_true]
        exact Ev.now _
    · simp only [h1, false_and, if_false, Option.bind_some, Bool.false_eq_true]
      exact Ev.now _
  · simp only [configuration_member.f, Option.bind_some, ↓reduceIte, Bool.false_eq_true, reduceCtorEq, decide_eq_true_eq, Go.Proofs.YtkjlcbfjllpcnaaW.PrintWords.rd, rd_T32, rd_T34]
    refine Ev.bind1 (Valid_ev m.f1 hm) ?_
    by_cases h1 : validT m.f1 = 0
    · simp only [h1, if_true]
      refine Ev.bind1 (Uses_ev 1000000 m.f1 hm (by decide)) ?_
      have h0 : (0 : Int) ≤ (n : Int) := by omega
      rw [shl_nat (by omega), if_pos h0]
      by_cases h2 : uses m.f1 < 2 ^ n
      · rw [if_pos h2, if_neg (by omega)]; exact Ev.now _
      · rw [if_neg h2, if_pos (by omega)]; exact Ev.now _
    · simp only [h1, if_false]
      exact Ev.now _
theorem CValid_ev {c : List S34} (hc : Light c) : Ev (fun k => configuration_Valid.f k c) (valC c) := by
  have hl := hc.1
  unfold valC
  by_cases h : c.length > 10
  · have h2 : (c.length : Int) > 10 := by omega
    simp only [configuration_Valid.f, h, h2, Option.bind_some, ↓reduceIte, Bool.false_eq_true, reduceCtorEq, decide_eq_true_eq, Go.Proofs.YtkjlcbfjllpcnaaW.PrintWords.rd, rd_T32, rd_T34]
    exact Ev.now _
  · have h2 : ¬ (c.length : Int) > 10 := by omega
    simp only [configuration_Valid.f, h, h2, Option.bind_some, ↓reduceIte, Bool.false_eq_true, reduceCtorEq, decide_eq_true_eq, Go.Proofs.YtkjlcbfjllpcnaaW.PrintWords.rd, rd_T32, rd_T34]
    refine Ev.fold (xs := c) (L := fun (a : Unit) i k => configuration_Valid.l0 k c (c.length : Int) i c) (by omega) (fun pre ys a => valF c.length ys = valF c.length c) ?_ ?_ () rfl
    · intro a i hI hi
      rw [valF] at hI
      (refine Ev.shift ?_; simp only [configuration_Valid.l0, hi, Option.bind_some, ↓reduceIte, Bool.false_eq_true, reduceCtorEq, decide_eq_true_eq, Go.Proofs.YtkjlcbfjllpcnaaW.PrintWords.rd, rd_T32, rd_T34])
      rw [← hI]
      exact Ev.now _
    · intro pre y ys a i e hI hi h0 hlt hw hrd
      rw [valF] at hI
      have hm := member_ev (n := c.length) (by omega) y (hc.2 y (by rw [e]; simp))
      by_cases h4 : memV c.length y = 0
      · rw [if_pos h4] at hI
        refine Or.inl ⟨(), hI, fun k => ?_⟩
        (refine Ev.shift ?_; simp only [configuration_Valid.l0, h0, hlt, hw, hrd, Option.bind_some, ↓reduceIte, Bool.false_eq_true, reduceCtorEq, decide_eq_true_eq, Go.Proofs.YtkjlcbfjllpcnaaW.PrintWords.rd, rd_T32, rd_T34])
        refine Ev.bind1 hm ?_
        rw [h4]
        exact k
      · rw [if_neg h4] at hI
        refine Or.inr ?_
        rw [← hI]
        (refine Ev.shift ?_; simp only [configuration_Valid.l0, h0, hlt, hw, hrd, Option.bind_some, ↓reduceIte, Bool.false_eq_true, reduceCtorEq, decide_eq_true_eq, Go.Proofs.YtkjlcbfjllpcnaaW.PrintWords.rd, rd_T32, rd_T34])
        refine Ev.bind1 hm ?_
        simp only [h4, if_false]
        exact Ev.now _
theorem OkM.memV {n : Nat} {m : S34} (h : OkM n m) : memV n m = 0 := by
  unfold OkM at h
  unfold X.memV
  split at h
  · rename_i h1
    rw [if_pos h1, if_pos h.1, if_pos h.2.2]
  · rename_i h1
    rw [if_neg h1, h]
    simp
theorem valF_ok {n : Nat} : ∀ (l : List S34), (∀ m ∈ l, OkM n m) → valF n l = 0
  | [], _ => by rw [valF]
  | m :: ms, h => by rw [valF, if_pos (h m (by simp)).memV]; exact valF_ok ms fun x hx => h x (by simp [hx])
theorem OkC.valC {c : List S34} (h : OkC c) : valC c = 0 := by
  have := h.2.1
  rw [X.valC, if_neg (by omega)]
  exact valF_ok c h.2.2
def blkL (c : List S34) (j : Int) : List Int := (subsetsS (uses (c.getD j.toNat z34).f1)).filter fun s => blk c s.toNat j
theorem Least_ev {c : List S34} (hc : Light c) (hv : valC c = 0) {j : Nat} (hj : j < c.length) (hd : (c.getD j z34).f0 = true) : Ev (fun k => blocking_Least.f k c (j : Int)) (leastS (blkL c j), 0) := by
  have h1 : ¬ (j : Int) < 0 := by omega
  have h2 : decide ((j : Int) ≥ (c.length : Int)) = false := by simp; omega
  have h3 : (0 : Int) ≤ j := by omega
  have h4 : (j : Int) < (c.length : Int) := by omega
  simp only [blocking_Least.f, Option.bind_some, ↓reduceIte, Bool.false_eq_true, reduceCtorEq, decide_eq_true_eq, Go.Proofs.YtkjlcbfjllpcnaaW.PrintWords.rd, rd_T32, rd_T34]
  refine Ev.bind1 (CValid_ev hc) ?_
  simp only [hv, h1, h2, Option.bind_some, ↓reduceIte, Bool.false_eq_true, reduceCtorEq, decide_eq_true_eq, Go.Proofs.YtkjlcbfjllpcnaaW.PrintWords.rd, rd_T32, rd_T34]
  (refine Ev.shift ?_; simp only [blocking_Least.j0, h3, h4, Int.toNat_natCast, hd, Option.bind_some, ↓reduceIte, Bool.false_eq_true, reduceCtorEq, decide_eq_true_eq, Go.Proofs.YtkjlcbfjllpcnaaW.PrintWords.rd, rd_T32, rd_T34])
  refine Ev.bind1 (Uses_ev 1000000 _ (hc.at j) (by decide)) ?_
  have hu := uses_lt (c.getD j z34).f1
  have hlen := subsetsS_len hu
  simp only [nodeset_Subsets.f, Option.bind_some, ↓reduceIte, Bool.false_eq_true, reduceCtorEq, decide_eq_true_eq, Go.Proofs.YtkjlcbfjllpcnaaW.PrintWords.rd, rd_T32, rd_T34]
  generalize hS : subsetsS (uses (c.getD j z34).f1 : Int) = S at hlen
  have hmem : ∀ x ∈ S, ∃ t : Nat, x = (t : Int) ∧ t < 1024 := by
    intro x hx
    rw [← hS, subsetsS_mem hu] at hx
    obtain ⟨t, rfl, ht⟩ := hx
    exact ⟨t, rfl, lt_of_bits (n := 10) fun i hi => by
      cases h : t.testBit i
      · rfl
      · rw [← ht i h]; exact bit_lt (n := 10) hu hi⟩
  have hb : blkL c j = S.filter fun s => blk c s.toNat j := by rw [blkL, Int.toNat_natCast, hS]
  rw [hb]
  refine Ev.fold (xs := S) (L := fun (a : List Int) i k => blocking_Least.l0 k (j : Int) a S (S.length : Int) i c) (by omega) (fun pre ys a => a ++ ys.filter (fun s => blk c s.toNat j) = S.filter (fun s => blk c s.toNat j) ∧ a.length ≤ pre.length) ?_ ?_ [] ⟨rfl, by simp⟩
  · rintro a i ⟨hI, ha⟩ hi
    rw [List.filter_nil, List.append_nil] at hI
    have : a.length ≤ 1048576 := by omega
    (refine Ev.shift ?_; simp only [blocking_Least.l0, hi, nodeset_Least.f, this, Option.bind_some, ↓reduceIte, Bool.false_eq_true, reduceCtorEq, decide_eq_true_eq, Go.Proofs.YtkjlcbfjllpcnaaW.PrintWords.rd, rd_T32, rd_T34])
    rw [hI]
    exact Ev.now _
  · rintro pre y ys a i e ⟨hI, ha⟩ hi h0 hlt hw hrd
    obtain ⟨t, rfl, ht⟩ := hmem y (by rw [e]; simp)
    have hlp : pre.length < S.length := by omega
    have hal : a.length < 17592186044416 := by omega
    rw [List.filter_cons, Int.toNat_natCast] at hI
    have hbl := Blocks_ev hc ht (j : Int)
    cases h : blk c t j
    · rw [h] at hI
      refine Or.inl ⟨a, ⟨by simpa using hI, by simp; omega⟩, fun k => ?_⟩
      (refine Ev.shift ?_; simp only [blocking_Least.l0, h0, hlt, hw, hrd, Option.bind_some, ↓reduceIte, Bool.false_eq_true, reduceCtorEq, decide_eq_true_eq, Go.Proofs.YtkjlcbfjllpcnaaW.PrintWords.rd, rd_T32, rd_T34])
      refine Ev.bind1 hbl ?_
      rw [h]
      exact k
    · rw [h] at hI
      refine Or.inl ⟨a ++ [(t : Int)], ⟨by simpa using hI, by simp; omega⟩, fun k => ?_⟩
      (refine Ev.shift ?_; simp only [blocking_Least.l0, h0, hlt, hw, hrd, Option.bind_some, ↓reduceIte, Bool.false_eq_true, reduceCtorEq, decide_eq_true_eq, Go.Proofs.YtkjlcbfjllpcnaaW.PrintWords.rd, rd_T32, rd_T34])
      refine Ev.bind1 hbl ?_
      simp only [h, if_true, hal]
      exact k
theorem Ints_ev {xs ys : List Int} (hx : xs.length < 1000000) : Ev (fun k => trustquorummake_Ints.f k xs ys) (decide (xs = ys)) := by
  by_cases hl : xs.length = ys.length
  · have hl2 : (xs.length : Int) = (ys.length : Int) := by omega
    simp only [trustquorummake_Ints.f, Option.bind_some, ↓reduceIte, Bool.false_eq_true, reduceCtorEq, decide_eq_true_eq, Go.Proofs.YtkjlcbfjllpcnaaW.PrintWords.rd, rd_T32, rd_T34]
    simp only [if_pos hl2]
    refine Ev.fold (xs := xs) (L := fun (a : Unit) i k => trustquorummake_Ints.l0 k xs ys (xs.length : Int) i) (by omega) (fun pre zs a => xs.take pre.length = ys.take pre.length) ?_ ?_ () rfl
    · intro a i hI hi
      rw [List.take_of_length_le (Nat.le_refl _), List.take_of_length_le (by omega)] at hI
      (refine Ev.shift ?_; simp only [trustquorummake_Ints.l0, hi, Option.bind_some, ↓reduceIte, Bool.false_eq_true, reduceCtorEq, decide_eq_true_eq, Go.Proofs.YtkjlcbfjllpcnaaW.PrintWords.rd, rd_T32, rd_T34])
      rw [decide_eq_true hI]
      exact Ev.now _
    · intro pre y zs a i e hI hi h0 hlt hw hrd
      subst hi
      have hrd' := hrd
      simp only [Int.toNat_natCast] at hrd'
      have hlt2 : (pre.length : Int) < (ys.length : Int) := by omega
      have hp : pre.length < ys.length := by omega
      have hy : ys.getD pre.length 0 = ys[pre.length] := by rw [List.getD_eq_getElem?_getD, List.getElem?_eq_getElem hp]; rfl
      have hx' : xs.take (pre.length + 1) = xs.take pre.length ++ [y] := by
        have := hrd 0
        rw [Int.toNat_natCast, List.getD_eq_getElem?_getD, List.getElem?_eq_getElem (show pre.length < xs.length by omega)] at this
        rw [List.take_succ_eq_append_getElem (by omega)]
        congr 2
      by_cases h : y = ys.getD pre.length 0
      · refine Or.inl ⟨(), ?_, fun k => ?_⟩
        · rw [List.length_append, List.length_singleton, hx', hI, List.take_succ_eq_append_getElem hp, ← hy, h]
        · (refine Ev.shift ?_; simp only [trustquorummake_Ints.l0, h0, hlt, hw, hlt2, hrd', Int.toNat_natCast, Option.bind_some, ↓reduceIte, Bool.false_eq_true, reduceCtorEq, decide_eq_true_eq, Go.Proofs.YtkjlcbfjllpcnaaW.PrintWords.rd, rd_T32, rd_T34])
          simp only [if_pos h]
          exact k
      · refine Or.inr ?_
        have hne : xs ≠ ys := by
          intro hh
          subst hh
          have := hrd 0
          rw [Int.toNat_natCast] at this
          exact h this.symm
        rw [decide_eq_false hne]
        (refine Ev.shift ?_; simp only [trustquorummake_Ints.l0, h0, hlt, hw, hlt2, hrd', Int.toNat_natCast, Option.bind_some, ↓reduceIte, Bool.false_eq_true, reduceCtorEq, decide_eq_true_eq, Go.Proofs.YtkjlcbfjllpcnaaW.PrintWords.rd, rd_T32, rd_T34])
        simp only [if_neg h]
        exact Ev.now _
  · have hl2 : ¬ (xs.length : Int) = (ys.length : Int) := by omega
    simp only [trustquorummake_Ints.f, hl2, Option.bind_some, ↓reduceIte, Bool.false_eq_true, reduceCtorEq, decide_eq_true_eq, Go.Proofs.YtkjlcbfjllpcnaaW.PrintWords.rd, rd_T32, rd_T34]
    have hne : xs ≠ ys := fun hh => hl (by rw [hh])
    rw [decide_eq_false hne]
    exact Ev.now _
end Go.Proofs.Ytkjlcbfjllpcnaa.X
namespace Go.Proofs.Ytkjlcbfjllpcnaa.X
open Go.RowKit Go.Proofs.YtkjlcbfjllpcnaaW.PrintWords Go.Proofs.YtkjlcbfjllpcnaaW.PrintLast Go.Proofs.YtkjlcbfjllpcnaaW.PrintMore
theorem three_light : Light [mem3, mem3, mem3] := ⟨by decide, by decide⟩
theorem three_least : leastS (blkL [mem3, mem3, mem3] ((0 : Nat) : Int)) = [6] := by
  have e : uses (([mem3, mem3, mem3] : List S34).getD (((0 : Nat) : Int)).toNat z34).f1 = 7 := by decide
  have e1 : subsetsS ((7 : Nat) : Int) = [0, 1, 2, 4, 3, 5, 6, 7] := by
    rw [subsetsS, vld_nat (by decide), if_pos rfl]
    exact sortS_eq (List.isPerm_iff.1 (by decide)) (by decide)
  have e2 : sortS [6, 7] = [6, 7] := sortS_eq (List.Perm.refl _) (by decide)
  have e3 : (List.filter (fun s => blk [mem3, mem3, mem3] s.toNat ((0 : Nat) : Int)) [0, 1, 2, 4, 3, 5, 6, 7]).filter vld = [6, 7] := by decide
  rw [blkL, e, e1, leastS, e3, e2]
  decide
theorem awake11_ev : Ev (fun k => trustquorumlaw11_awake.f k) true := by
  simp only [trustquorumlaw11_awake.f, trustquorumlaw11_three.f, Option.bind_some]
  refine Ev.bind1 (Least_ev three_light (by decide) (j := 0) (by decide) rfl) ?_
  rw [three_least]
  refine Ev.bind1 (Ev.of (k := 100) (r := ([0], 7)) (fun k => blocking_Cascade.mono _ _ k) (by decide +kernel)) ?_
  refine Ev.bind1 (Ev.of (k := 100) (r := ([], 2)) (fun k => blocking_Cascade.mono _ _ k) (by decide +kernel)) ?_
  simp only [if_true]
  refine Ev.bind1 (Ints_ev (by decide)) ?_
  simp only [decide_true, if_true]
  refine Ev.bind1 (Ints_ev (by decide)) ?_
  simp only [decide_true, if_true, List.length_nil]
  refine Ev.bind1 (Ev.of (k := 100) (r := true) (fun k => blocking_Blocks.mono _ _ _ k) (by decide +kernel)) ?_
  exact Ev.now _
end Go.Proofs.Ytkjlcbfjllpcnaa.X
namespace Go.Proofs.Ytkjlcbfjllpcnaa.Pure
open Go.RowKit Go.Proofs.Ytkjlcbfjllpcnaa.X Go.Proofs.YtkjlcbfjllpcnaaW.PrintWords Go.Proofs.YtkjlcbfjllpcnaaW.PrintLast
theorem Casc.closed {c : List S34} {s T : Nat} (h : Casc c s T) (hc : Closed c s) (hs : s < 1024) : T = s := Sub.eq (h.2.2.2 s hs (Sub.refl s) hc) h.2.1
theorem BlockingGrows : trustquorumlaw11_BlockingGrows.Pure := by
  intro l0 h1 h2 h3
  obtain ⟨s, hs, e⟩ := New_ev l0 (by omega)
  suffices h : EvP (fun k => trustquorumlaw11_BlockingGrows.f k l0) (fun r => r = true) by
    obtain ⟨r, rfl, h⟩ := h
    exact h.rounds
  simp only [trustquorumlaw11_BlockingGrows.f, e, Option.bind_some]
  refine EvP.bind (Config_ev hs (by decide) (by decide) (by decide)) ?_
  rintro ⟨c, s1⟩ ⟨⟨hc, _⟩, h4⟩
  simp only at hc h4 ⊢
  refine EvP.bind (tN hs h4 (by decide) (by decide)) ?_
  rintro ⟨a, s2⟩ ⟨⟨h5, h6⟩, h7⟩
  simp only at h5 h6 h7 ⊢
  refine EvP.bind (tN hs h7 (by decide) (by decide)) ?_
  rintro ⟨b, s3⟩ ⟨⟨h8, h9⟩, h10⟩
  simp only at h8 h9 h10 ⊢
  obtain ⟨a, rfl⟩ := Int.eq_ofNat_of_zero_le h5
  obtain ⟨b, rfl⟩ := Int.eq_ofNat_of_zero_le h8
  have ha : a < 1024 := by omega
  have hb : b < 1024 := by omega
  have hab := or_lt10 ha hb
  refine EvP.bind (Cascade_ev hc.light ha) ?_
  rintro ⟨o1, T1⟩ ⟨T1, rfl, c1, _⟩
  simp only [or_nat' ha hb]
  refine EvP.bind (Cascade_ev hc.light hab) ?_
  rintro ⟨o2, T2⟩ ⟨T2, rfl, c2, _⟩
  refine EvP.bind (Cascade_ev hc.light c1.1) ?_
  rintro ⟨o3, T3⟩ ⟨T3, rfl, c3, h11⟩
  have e3 := Casc.closed c3 c1.2.2.1 c1.1
  subst e3
  have e4 := h11 c1.2.2.1
  simp only at e4
  subst e4
  have s12 : Sub T3 T2 := c1.2.2.2 T2 c2.1 ((Sub.orl a b).trans c2.2.1) c2.2.2.1
  have e5 : T3 &&& a = a := by rw [Nat.and_comm]; exact sub_and.2 c1.2.1
  simp only [and_nat' c1.1 ha, and_nat' c1.1 c2.1, e5, sub_and.2 s12, if_true, List.length_nil]
  simp only [Int.ofNat_zero, Int.natCast_zero, if_true]
  refine EvP.bind (EvP.ofEv awake11_ev) ?_
  rintro r rfl
  exact EvP.now rfl
end Go.Proofs.Ytkjlcbfjllpcnaa.Pure
