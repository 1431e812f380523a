/- Proof of the statement QuorumsParts: part 6 of 8, what it computes and why that answers true. -/
import Derived.Test.YtkjlcbfjllpcnaaKQP5
set_option linter.unusedVariables false
set_option linter.unusedSimpArgs false
namespace Go.Proofs.Ytkjlcbfjllpcnaa.X
open Go.RowKit Go.Proofs.YtkjlcbfjllpcnaaW.PrintWords Go.Proofs.YtkjlcbfjllpcnaaW.PrintLast Go.Proofs.YtkjlcbfjllpcnaaW.PrintMore
attribute [local go_sem] max2_int min2_int max_two min_two max_three min_three max_four min_four
set_option linter.unusedVariables false
set_option linter.unusedSimpArgs false
mutual
def quorums_Parts.l0:Nat→List Int→List Int→Int→Int→List (S34)→Option (List Int × Int)
 | 0,_,_,_,_,_=>none
 | k+1,x5,x26,x27,x28,x683000=>if x28 < x27 then (if 0≤x28 then (if x28 < (x26.length:Int) then ((quorums_reached.f k x683000 (rd x26 x28)).bind fun t692=>(if 0≤(rd x26 x28) then (if (rd x26 x28) < (x5.length:Int) then (quorums_Parts.l0 k (x5.set ((rd x26 x28):Int).toNat t692) x26 x27 (wrap64 (x28+1)) x683000) else (none)) else (none))) else (none)) else (none)) else (quorums_Parts.l1 k x5 ([]:List Int) 0 x5 (x5.length:Int) 0)
def quorums_Parts.l1:Nat→List Int→List Int→Int→List Int→Int→Int→Option (List Int × Int)
 | 0,_,_,_,_,_,_=>none
 | k+1,x5,x8,x9,x39,x40,x41=>if x41 < x40 then (if 0≤x41 then (if x41 < (x39.length:Int) then (if (Go.bits .and .i64 x9 (shl .i64 1 x41))=0 then (quorums_Parts.j2 k x5 x8 x9 x41 (rd x39 x41) x39 x40 x41 ((rd x39 x41) == 0)) else (quorums_Parts.j2 k x5 x8 x9 x41 (rd x39 x41) x39 x40 x41 true)) else (none)) else (none)) else (some (x8,0))
def quorums_Parts.j2:Nat→List Int→List Int→Int→Int→Int→List Int→Int→Int→Bool→Option (List Int × Int)
 | 0,_,_,_,_,_,_,_,_,_=>none
 | k+1,x5,x8,x9,x10,x11,x39,x40,x41,x54=>if x54=true then (quorums_Parts.l1 k x5 x8 x9 x39 x40 (wrap64 (x41+1))) else ((nodeset_Nodes.f k x11).bind fun t695=>(quorums_Parts.l2 k x5 x8 x9 x10 0 x39 x40 x41 t695 (t695.length:Int) 0))
def quorums_Parts.l2:Nat→List Int→List Int→Int→Int→Int→List Int→Int→Int→List Int→Int→Int→Option (List Int × Int)
 | 0,_,_,_,_,_,_,_,_,_,_,_=>none
 | k+1,x5,x8,x9,x10,x12,x39,x40,x41,x56,x57,x58=>if x58 < x57 then (if 0≤x58 then (if x58 < (x56.length:Int) then (if 0≤(rd x56 x58) then (if (rd x56 x58) < (x5.length:Int) then ((nodeset_Has.f (rd x5 (rd x56 x58)) x10).bind fun t700=>(if t700=true then (quorums_Parts.l2 k x5 x8 x9 x10 (Go.bits .or .i64 x12 (shl .i64 1 (rd x56 x58))) x39 x40 x41 x56 x57 (wrap64 (x58+1))) else (quorums_Parts.l2 k x5 x8 x9 x10 x12 x39 x40 x41 x56 x57 (wrap64 (x58+1))))) else (none)) else (none)) else (none)) else (none)) else (if x8.length < 17592186044416 then (quorums_Parts.l1 k x5 (x8++[x12]) (Go.bits .or .i64 x9 x12) x39 x40 (wrap64 (x41+1))) else (none))
end
def quorums_Parts.f (k:Nat) (l0_0:List (S34)):Option (List Int × Int):=(configuration_Valid.f k l0_0).bind fun t683=>(if t683=0 then (if 0≤(l0_0.length:Int) then (if ((l0_0.length:Int):Int).toNat≤35184372088832 then ((configuration_Declared.f k l0_0).bind fun t687=>((nodeset_Nodes.f k t687).bind fun t688=>(quorums_Parts.l0 k (List.replicate ((l0_0.length:Int):Int).toNat 0) t688 (t688.length:Int) 0 l0_0))) else (none)) else (none)) else (some (([]:List Int),t683)))
set_option maxHeartbeats 8000000 in
set_option maxRecDepth 100000 in
theorem quorums_Parts.calls (k:Nat) (A0_0:Option Addr) (c0_0:Nat) (l0_0:List (S34)) (r1:List Int) (r2:Int) (w:World) (hr0_0:Kd.C k34 w A0_0 l0_0.length l0_0) (hc0_0:l0_0.length≤c0_0) (h:quorums_Parts.f k l0_0=some (r1,r2)) :
  Calls Try.prog 39 #[.agg #[.slice A0_0 l0_0.length c0_0]] w fun e w'=>∃ v0_:Value,e=.returned (.tuple #[v0_,.int .i64 r2])∧Kd.R (Kd.int .i64) 3 w' w.heap.size (fun _=>True) v0_ r1∧Below w.heap.size w w':=by
 have hu27:=Try.underlying27
 have HR0_0:=Aside0.mk hr0_0
 have HC0_0:=Aside0.mk hc0_0
 clear hr0_0 hc0_0
 have HB:=Aside0.mk (Below.refl w.heap.size w)
 have H:((configuration_Valid.f k l0_0).bind fun t683=>(if t683=0 then (if 0≤(l0_0.length:Int) then (if ((l0_0.length:Int):Int).toNat≤35184372088832 then ((configuration_Declared.f k l0_0).bind fun t687=>((nodeset_Nodes.f k t687).bind fun t688=>(quorums_Parts.l0 k (List.replicate ((l0_0.length:Int):Int).toNat 0) t688 (t688.length:Int) 0 l0_0))) else (none)) else (none)) else (some (([]:List Int),t683))))=some (r1,r2):=h
 clear h
 replace H:=Option.bind_eq_some_iff.mp H
 obtain ⟨t683,A20,H⟩:=H
 replace H:(if t683=0 then (if 0≤(l0_0.length:Int) then (if ((l0_0.length:Int):Int).toNat≤35184372088832 then ((configuration_Declared.f k l0_0).bind fun t687=>((nodeset_Nodes.f k t687).bind fun t688=>(quorums_Parts.l0 k (List.replicate ((l0_0.length:Int):Int).toNat 0) t688 (t688.length:Int) 0 l0_0))) else (none)) else (none)) else (some (([]:List Int),t683)))=some (r1,r2):=H
 have A2:=Aside0.mk A20
 clear A20
 by_cases c3:t683=0
 ·rw [if_pos c3] at H
  have c3b0:(t683 == 0)=true:=beq_iff_eq.mpr c3
  have c3b1:(t683 != 0)=false:=bne_eq_false_iff_eq.mpr c3
  clear c3
  by_cases c4:0≤(l0_0.length:Int)
  ·rw [if_pos c4] at H
   have c4b0:=eq_true c4
   have c4b1:decide (0≤(l0_0.length:Int))=true:=decide_eq_true c4
   clear c4
   by_cases c5:((l0_0.length:Int):Int).toNat≤35184372088832
   ·rw [if_pos c5] at H
    have c5b0:=eq_true c5
    have c5b1:decide (((l0_0.length:Int):Int).toNat≤35184372088832)=true:=decide_eq_true c5
    clear c5
    obtain ⟨y684,hy684⟩:∃ y_:List Int,y_=(List.replicate ((l0_0.length:Int):Int).toNat 0):=⟨_,rfl⟩
    replace H:((configuration_Declared.f k l0_0).bind fun t687=>((nodeset_Nodes.f k t687).bind fun t688=>(quorums_Parts.l0 k y684 t688 (t688.length:Int) 0 l0_0)))=some (r1,r2):=by first|(rw [hy684];with_reducible exact H)|(have H2_:=(Option.bind_some _ _).symm.trans H;rw [hy684];with_reducible exact H2_)|(have H2_:=(Option.bind_some _ _).symm.trans H;with_reducible exact H2_)|with_reducible exact H|(rw [hy684];exact H)|exact H
    have Ny684:=Aside0.mk hy684
    clear hy684
    replace H:=Option.bind_eq_some_iff.mp H
    obtain ⟨t687,A60,H⟩:=H
    replace H:((nodeset_Nodes.f k t687).bind fun t688=>(quorums_Parts.l0 k y684 t688 (t688.length:Int) 0 l0_0))=some (r1,r2):=H
    have A6:=Aside0.mk A60
    clear A60
    replace H:=Option.bind_eq_some_iff.mp H
    obtain ⟨t688,A70,H⟩:=H
    replace H:(quorums_Parts.l0 k y684 t688 (t688.length:Int) 0 l0_0)=some (r1,r2):=H
    have A7:=Aside0.mk A70
    clear A70
    have H':=Aside0.mk H
    clear H
    go_enter Try.func39,Try.ntmps39
    go_wp2_with (first|((with_reducible refine gate_dst (N:=1) rfl ?_);refine box_event ?hg (N:=1) ?hd (cs:=#[.slice A0_0 l0_0.length c0_0]) (t:=27) ?hr ?_;(case hd=>rfl);(case hg=>rfl);(case hr=>first|(go_simp;done)|(go_simp;rfl));intro gb682 hg w8 hbox hb;have n0_:=Aside0.mk (below_step (by repeat (first|(with_reducible first|exact HB.out|apply wA|apply wN|apply wD)|exact HB.out)) hb);have n1_:=Aside0.mk (hbox);have n2_:=Aside0.mk ((by rw [hg];exact (below_size (by repeat (first|(with_reducible first|exact HB.out|apply wA|apply wN|apply wD)|exact HB.out))):w.heap.size≤gb682));have n3_:=Aside0.mk ((by rw [hg];exact (below_size (by repeat (first|(with_reducible first|exact HB.out|apply wA|apply wN|apply wD)|exact HB.out))):w.heap.size≤gb682));clear HB;have HB:=n0_;have BK682:=n1_;have GW682:=n2_;have GE682:=n3_;clear n0_ n1_ n2_ n3_;clear hb hbox hg;have hcz9_0:w8.cell? ⟨gb682,0,none⟩=some (.slice A0_0 l0_0.length c0_0):=(kC BK682.out 0).trans rfl;have hfz9_0:=kF BK682.out 0)|((with_reducible refine gate_callee (f:=63) rfl ?_);refine goesL_ (some 16) rfl rfl Try.func63 (by kernel_rfl) rfl #[.agg #[.slice A0_0 l0_0.length c0_0]] rfl (by (try simp only [List.map_toArray,List.map_cons,List.map_nil]);first|done|rfl|(simp only [List.length_drop,List.length_take];rfl)) ?_;(with_reducible refine (configuration_Valid.calls k _ _ l0_0 t683 _ ?side1 ?side2 A2.out).mono ?_);(case side1=>repeat (first|exact (Kd.C_below HR0_0.out HB.out)|(with_reducible refine Kd.C_alloc ?_ _)|(with_reducible refine Kd.C_drewN ?_ _)|(with_reducible refine Kd.C_drew ?_)));(case side2=>exact HC0_0.out);rintro e w10 ⟨rfl,hb⟩;refine ⟨_,rfl,?_⟩;have n0_:=Aside0.mk (blk_below (g:=gb682) (o:=.cells #[.slice A0_0 l0_0.length c0_0] 27 (0,0)) (by (with_reducible repeat (first|refine kN ?_ _|refine kD ?_|refine kA ?_ _));exact BK682.out) hb);have n1_:=Aside0.mk (below_step (by repeat (first|(with_reducible first|exact HB.out|apply wA|apply wN|apply wD|refine wS ?_ GE682.out)|exact HB.out)) hb);clear BK682;clear HB;have BK682:=n0_;have HB:=n1_;clear n0_ n1_;(try clear hb);(try clear hb2);(try clear hk);(try clear hi);have hcz11_0:w10.cell? ⟨gb682,0,none⟩=some (.slice A0_0 l0_0.length c0_0):=(kC BK682.out 0).trans rfl;have hfz11_0:=kF BK682.out 0)|((with_reducible refine gate_dst (N:=23) rfl ?_);refine Kd.R_make (Kd.int .i64) _ 3 rfl (N:=23) rfl 22 _ _ rfl (l0_0.length:Int) rfl rfl Try.underlying22 (.int .i64 0) 8 info3 rfl (by decide) (by omega) 0 (ok:=fun _=>True) (okp:=fun _=>True) rfl (fun _ hk=>hk) trivial (of_decide_eq_true (by first|(with_reducible assumption)|assumption)) (Nat.le_trans (Nat.mul_le_mul_right _ (of_decide_eq_true (by first|(with_reducible assumption)|assumption):(l0_0.length:Int).toNat≤35184372088832)) (by omega)) (Below.refl _ _) (Nat.le_refl _) ?_;intro v685 w12 ho13 hb hg_ hnew_;clear hg_ hnew_;(first|rw [← Ny684.out] at ho13|(simp only [Int.reduceToNat] at ho13;rw [← Ny684.out] at ho13));have n0_:=Aside0.mk (Kd.R_lower ho13 (below_size (by repeat (first|(with_reducible first|exact HB.out|apply wA|apply wN|apply wD|refine wS ?_ GE682.out)|exact HB.out))));have n1_:=Aside0.mk (blk_below (g:=gb682) (o:=.cells #[.slice A0_0 l0_0.length c0_0] 27 (0,0)) (by (with_reducible repeat (first|refine kN ?_ _|refine kD ?_|refine kA ?_ _));exact BK682.out) hb);have n2_:=Aside0.mk (below_step (by repeat (first|(with_reducible first|exact HB.out|apply wA|apply wN|apply wD|refine wS ?_ GE682.out)|exact HB.out)) hb);clear BK682;clear HB;have HO686:=n0_;have BK682:=n1_;have HB:=n2_;clear n0_ n1_ n2_;clear hb ho13;have hcz14_0:w12.cell? ⟨gb682,0,none⟩=some (.slice A0_0 l0_0.length c0_0):=(kC BK682.out 0).trans rfl;have hfz14_0:=kF BK682.out 0)|((with_reducible refine gate_callee (f:=61) rfl ?_);refine goesL_ (some 25) rfl rfl Try.func61 (by kernel_rfl) rfl #[.agg #[.slice A0_0 l0_0.length c0_0]] rfl (by (try simp only [List.map_toArray,List.map_cons,List.map_nil]);first|done|rfl|(simp only [List.length_drop,List.length_take];rfl)) ?_;(with_reducible refine (configuration_Declared.calls k _ _ l0_0 t687 _ ?side1 ?side2 A6.out).mono ?_);(case side1=>repeat (first|exact (Kd.C_below HR0_0.out HB.out)|(with_reducible refine Kd.C_alloc ?_ _)|(with_reducible refine Kd.C_drewN ?_ _)|(with_reducible refine Kd.C_drew ?_)));(case side2=>exact HC0_0.out);rintro e w15 ⟨rfl,hb⟩;refine ⟨_,rfl,?_⟩;have n0_:=Aside0.mk (Kd.R_below (by (with_reducible repeat (first|apply Kd.R_alloc|apply Kd.R_drewN|apply Kd.R_drew));exact HO686.out) hb);have n1_:=Aside0.mk (blk_below (g:=gb682) (o:=.cells #[.slice A0_0 l0_0.length c0_0] 27 (0,0)) (by (with_reducible repeat (first|refine kN ?_ _|refine kD ?_|refine kA ?_ _));exact BK682.out) hb);have n2_:=Aside0.mk (below_step (by repeat (first|(with_reducible first|exact HB.out|apply wA|apply wN|apply wD|refine wS ?_ GE682.out)|exact HB.out)) hb);clear HO686;clear BK682;clear HB;have HO686:=n0_;have BK682:=n1_;have HB:=n2_;clear n0_ n1_ n2_;(try clear hb);(try clear hb2);(try clear hk);(try clear hi))|((with_reducible refine gate_callee (f:=77) rfl ?_);refine goesL_ (some 26) rfl rfl Try.func77 (by kernel_rfl) rfl #[.int .i64 t687] rfl (by (try simp only [List.map_toArray,List.map_cons,List.map_nil]);first|done|rfl|(simp only [List.length_drop,List.length_take];rfl)) ?_;(with_reducible refine (nodeset_Nodes.calls k t687 t688 _ A7.out).mono ?_);rintro e w16 ⟨v689,rfl,ho0,hb⟩;refine ⟨_,rfl,?_⟩;have n0_:=Aside0.mk (Kd.R_elder' (by (with_reducible repeat (first|apply Kd.R_alloc|apply Kd.R_drewN|apply Kd.R_drew));exact HO686.out) (Kd.R_base ho0) hb);have n1_:=Aside0.mk (Kd.R_lower (Kd.R_new' ho0 (Kd.R_lt (by (with_reducible repeat (first|apply Kd.R_alloc|apply Kd.R_drewN|apply Kd.R_drew));exact HO686.out))) (below_size (by repeat (first|(with_reducible first|exact HB.out|apply wA|apply wN|apply wD|refine wS ?_ GE682.out)|exact HB.out))));have n2_:=Aside0.mk (blk_below (g:=gb682) (o:=.cells #[.slice A0_0 l0_0.length c0_0] 27 (0,0)) (by (with_reducible repeat (first|refine kN ?_ _|refine kD ?_|refine kA ?_ _));exact BK682.out) hb);have n3_:=Aside0.mk (below_step (by repeat (first|(with_reducible first|exact HB.out|apply wA|apply wN|apply wD|refine wS ?_ GE682.out)|exact HB.out)) hb);clear HO686;clear BK682;clear HB;have HO686:=n0_;have HO690:=n1_;have BK682:=n2_;have HB:=n3_;clear n0_ n1_ n2_ n3_;(try clear hb);(try clear hb2);(try clear hk);(try clear hi);(try clear ho0);obtain ⟨Ao17,co17,eo17⟩:=Kd.R_slice HO690.out;subst eo17))
    go_loopg [28] k (fun kq v28 w'=>∃ (x5_1:List Int) (x28_1:Int),v28=.int .i64 x28_1∧Aside0 (quorums_Parts.l0 kq x5_1 t688 (t688.length:Int) x28_1 l0_0=some (r1,r2))∧Aside0 (kq≤k)∧Aside0 (Kd.R (Kd.int .i64) 3 w' w.heap.size (fun k_=>some k_ ≠ ((.slice Ao17 t688.length co17):Value).ownBlock) v685 x5_1)∧Aside0 (Kd.R (Kd.int .i64) 3 w' w.heap.size (fun k_=>some k_ ≠ (v685:Value).ownBlock) (.slice Ao17 t688.length co17) t688)∧Aside0 (w'.heap[gb682]?=some (.cells #[(.slice A0_0 l0_0.length c0_0)] 27 (0,0)))∧Aside0 (Below w.heap.size w w'))
    case atStart=>exact ⟨(y684),(0),(by first|rfl|(simp;done)|(simp [*];done)),H',⟨Nat.le_refl _⟩,⟨by (with_reducible repeat (first|apply Kd.R_alloc|apply Kd.R_drewN|apply Kd.R_drew));exact Kd.R_mono HO686.out (fun _ hk=>hk.2)⟩,⟨by (with_reducible repeat (first|apply Kd.R_alloc|apply Kd.R_drewN|apply Kd.R_drew));exact Kd.R_mono HO690.out (fun _ hk=>hk.2)⟩,⟨by (with_reducible repeat (first|refine kN ?_ _|refine kD ?_|refine kA ?_ _));exact BK682.out⟩,⟨by repeat (first|(with_reducible first|exact HB.out|apply wA|apply wN|apply wD|refine wS ?_ GE682.out)|exact HB.out)⟩⟩
    case round =>
     clear H'
     try clear p2
     try clear c3
     try clear c3b0
     try clear c3b1
     try clear c4
     try clear c4b0
     try clear c4b1
     try clear c5
     try clear c5b0
     try clear c5b1
     try clear c6
     try clear c7
     try clear hcz11_0
     try clear hcz14_0
     try clear hcz9_0
     try clear hfz11_0
     try clear hfz14_0
     try clear hfz9_0
     obtain ⟨x5_1,x28_1,rfl,HA,HK1,HO_5,HO_26,BK682,HB⟩:=hrel
     cases gk with
     | zero=>exact absurd HA.out (by simp [quorums_Parts.l0])
     | succ k1 =>
      have H:=HA.out
      clear HA
      simp only [quorums_Parts.l0] at H
      by_cases c18:x28_1 < (t688.length:Int)
      ·rw [if_pos c18] at H
       have c18b0:decide (x28_1 < (t688.length:Int))=true:=decide_eq_true c18
       clear c18
       by_cases c19:0≤x28_1
       ·rw [if_pos c19] at H
        have c19b0:decide (0≤x28_1)=true:=decide_eq_true c19
        clear c19
        by_cases c20:x28_1 < (t688.length:Int)
        ·rw [if_pos c20] at H
         have c20b0:decide (x28_1 < (t688.length:Int))=true:=decide_eq_true c20
         clear c20
         replace H:=Option.bind_eq_some_iff.mp H
         obtain ⟨t692,A210,H⟩:=H
         replace H:(if 0≤(rd t688 x28_1) then (if (rd t688 x28_1) < (x5_1.length:Int) then (quorums_Parts.l0 k1 (x5_1.set ((rd t688 x28_1):Int).toNat t692) t688 (t688.length:Int) (wrap64 (x28_1+1)) l0_0) else (none)) else (none))=some (r1,r2):=H
         have A21:=Aside0.mk A210
         clear A210
         by_cases c22:0≤(rd t688 x28_1)
         ·rw [if_pos c22] at H
          have c22b0:decide (0≤(rd t688 x28_1))=true:=decide_eq_true c22
          clear c22
          by_cases c23:(rd t688 x28_1) < (x5_1.length:Int)
          ·rw [if_pos c23] at H
           have c23b0:decide ((rd t688 x28_1) < (x5_1.length:Int))=true:=decide_eq_true c23
           clear c23
           obtain ⟨y693,hy693⟩:∃ y_:List Int,y_=(x5_1.set ((rd t688 x28_1):Int).toNat t692):=⟨_,rfl⟩
           replace H:(quorums_Parts.l0 k1 y693 t688 (t688.length:Int) (wrap64 (x28_1+1)) l0_0)=some (r1,r2):=by first|(rw [hy693];with_reducible exact H)|(have H2_:=(Option.bind_some _ _).symm.trans H;rw [hy693];with_reducible exact H2_)|(have H2_:=(Option.bind_some _ _).symm.trans H;with_reducible exact H2_)|with_reducible exact H|(rw [hy693];exact H)|exact H
           have Ny693:=Aside0.mk hy693
           clear hy693
           have H':=Aside0.mk H
           clear H
           have p691:0≤(x28_1:Int):=of_decide_eq_true (by first|(with_reducible assumption)|assumption)
           have q691:x28_1 < (t688.length:Int):=of_decide_eq_true (by first|(with_reducible assumption)|assumption)
           obtain ⟨ad691,e691,hx691_0⟩:=Kd.at_int (Kd.R_reads' HO_26.out).2.2 x28_1 p691 q691
           cases e691
           replace p691:=eq_true p691
           replace q691:=eq_true q691
           have hcz25_0:wr.cell? ⟨gb682,0,none⟩=some (.slice A0_0 l0_0.length c0_0):=(kC BK682.out 0).trans rfl
           have hfz25_0:=kF BK682.out 0
           go_wp2_with (first|((with_reducible refine gate_callee (f:=78) rfl ?_);refine goesL_ (some 36) rfl rfl Try.func78 (by kernel_rfl) rfl #[.agg #[.slice A0_0 l0_0.length c0_0],.int .i64 (rd t688 x28_1)] rfl (by (try simp only [List.map_toArray,List.map_cons,List.map_nil]);first|done|rfl|(simp only [List.length_drop,List.length_take];rfl)) ?_;(with_reducible refine (quorums_reached.calls k1 _ _ l0_0 (rd t688 x28_1) t692 _ ?side1 ?side2 A21.out).mono ?_);(case side1=>repeat (first|exact (Kd.C_below HR0_0.out HB.out)|(with_reducible refine Kd.C_alloc ?_ _)|(with_reducible refine Kd.C_drewN ?_ _)|(with_reducible refine Kd.C_drew ?_)));(case side2=>exact HC0_0.out);rintro e w26 ⟨rfl,hb⟩;refine ⟨_,rfl,?_⟩;have n0_:=Aside0.mk (Kd.R_below (by (with_reducible repeat (first|apply Kd.R_alloc|apply Kd.R_drewN|apply Kd.R_drew));exact HO_5.out) hb);have n1_:=Aside0.mk (Kd.R_below (by (with_reducible repeat (first|apply Kd.R_alloc|apply Kd.R_drewN|apply Kd.R_drew));exact HO_26.out) hb);have n2_:=Aside0.mk (blk_below (g:=gb682) (o:=.cells #[.slice A0_0 l0_0.length c0_0] 27 (0,0)) (by (with_reducible repeat (first|refine kN ?_ _|refine kD ?_|refine kA ?_ _));exact BK682.out) hb);have n3_:=Aside0.mk (below_step (by repeat (first|(with_reducible first|exact HB.out|apply wA|apply wN|apply wD|refine wS ?_ GE682.out)|exact HB.out)) hb);clear HO_5;clear HO_26;clear BK682;clear HB;have HO_5:=n0_;have HO_26:=n1_;have BK682:=n2_;have HB:=n3_;clear n0_ n1_ n2_ n3_;(try clear hb);(try clear hb2);(try clear hk);(try clear hi);have p24:0≤((rd t688 x28_1):Int):=of_decide_eq_true (by first|(with_reducible assumption)|assumption);have q24:((rd t688 x28_1):Int) < ((x5_1.length:Int):Int):=of_decide_eq_true (by first|(with_reducible assumption)|assumption);obtain ⟨go24,co24,eo24,gb24,gl24,cl24,HG24⟩:=Kd.R_form HO_5.out (by omega);(first|cases eo24|(injection eo24 with ea_ en_ ec_;(first|subst ea_|(injection ea_ with ea_;subst ea_));subst ec_;clear en_));have GB24:=Aside0.mk gb24;have GG24:=Aside0.mk HG24;clear gb24 gl24 HG24;obtain ⟨hx24_0,hf24_0⟩:=Kd.R_celln 0 HO_5.out ((rd t688 x28_1):Int) p24 q24;replace p24:=eq_true p24;replace q24:=eq_true q24;obtain ⟨hy27_,hz27_⟩:=Kd.R_celln 0 HO_5.out ((rd t688 x28_1):Int) (of_decide_eq_true (by first|(with_reducible assumption)|assumption)) (of_decide_eq_true (by first|(with_reducible assumption)|assumption));have HP27:=Kd.R_putg HO_5.out ((rd t688 x28_1):Int) t692)|((with_reducible refine gate_store (t:=3) (p:=37) rfl ?_);refine store_event (t:=3) (p:=37) (v:=?vo_w28) (w1:=(w26.setCell ⟨go24,((rd t688 x28_1):Int).toNat,none⟩ (.int .i64 t692))) ?hg ?ho ?hn ?hr ?_;(case ho=>rfl);(case hg=>rfl);(case hn=>rfl);(case hr=>first|(go_simp;done)|(go_simp;rfl));intro w28 hw;have hg:w26.grownBy w28 (some go24):=(by rw [hw];exact HP27.2);have hp_:Kd.R (Kd.int .i64) 3 w28 w.heap.size (fun k_=>some k_ ≠ (.slice (some ad691) t688.length co17:Value).ownBlock) (.slice (some ⟨go24,0,none⟩) x5_1.length co24) y693:=(by rw [hw,Ny693.out];exact HP27.1);clear HP27;have n0_:=Aside0.mk (hp_);have n1_:=Aside0.mk (Kd.R_after (v:=(.slice (some ⟨go24,0,none⟩) x5_1.length co24)) (v1:=(.slice (some ⟨go24,0,none⟩) x5_1.length co24)) (ok:=(fun _=>True)) (by (with_reducible repeat (first|apply Kd.R_alloc|apply Kd.R_drewN|apply Kd.R_drew));exact Kd.R_mono HO_26.out (fun _ hk=>⟨trivial,hk⟩)) hg (.inl rfl));have n2_:=Aside0.mk (blk_grown (g:=gb682) (o:=.cells #[.slice A0_0 l0_0.length c0_0] 27 (0,0)) (by (with_reducible repeat (first|refine kN ?_ _|refine kD ?_|refine kA ?_ _));exact BK682.out) hg (Kd.R_ne HO_5.out BK682.out (by decide)));have n3_:=Aside0.mk ((by rw [hw];exact wS (HB.out) GB24.out:Below w.heap.size w w28));clear HO_5;clear HO_26;clear BK682;clear HB;have HO_5:=n0_;have HO_26:=n1_;have BK682:=n2_;have HB:=n3_;clear n0_ n1_ n2_ n3_;clear hg hw hp_))
           go_roundg k1
           case measure=>have:=HK1.out;omega
           case rel=>exact ⟨(y693),(wrap64 (x28_1+1)),(by first|rfl|(simp;done)|(simp [*];done)),H',⟨by have:=HK1.out;omega⟩,⟨by (with_reducible repeat (first|apply Kd.R_alloc|apply Kd.R_drewN|apply Kd.R_drew));exact HO_5.out⟩,⟨by (with_reducible repeat (first|apply Kd.R_alloc|apply Kd.R_drewN|apply Kd.R_drew));exact Kd.R_mono HO_26.out (fun _ hk=>hk.2)⟩,⟨by (with_reducible repeat (first|refine kN ?_ _|refine kD ?_|refine kA ?_ _));exact BK682.out⟩,⟨by repeat (first|(with_reducible first|exact HB.out|apply wA|apply wN|apply wD|refine wS ?_ GE682.out)|exact HB.out)⟩⟩
          ·rw [if_neg c23] at H
           exact absurd H (by simp)
         ·rw [if_neg c22] at H
          exact absurd H (by simp)
        ·rw [if_neg c20] at H
         exact absurd H (by simp)
       ·rw [if_neg c19] at H
        exact absurd H (by simp)
      ·rw [if_neg c18] at H
       have c18b0:decide (x28_1 < (t688.length:Int))=false:=decide_eq_false c18
       clear c18
       have H':=Aside0.mk H
       clear H
       obtain ⟨Ao29,co29,eo29⟩:=Kd.R_slice HO_5.out
       subst eo29
       go_wp2
       go_loopg [8,9,41] k1 (fun kq v8 v9 v41 w'=>∃ (x8_2:List Int) (x9_2:Int) (x41_2:Int),v9=.int .i64 x9_2∧v41=.int .i64 x41_2∧Aside0 (quorums_Parts.l1 kq x5_1 x8_2 x9_2 x5_1 (x5_1.length:Int) x41_2=some (r1,r2))∧Aside0 (kq≤k1)∧Aside0 (Kd.R (Kd.int .i64) 3 w' w.heap.size (fun k_=>some k_ ≠ (v8:Value).ownBlock) (.slice Ao29 x5_1.length co29) x5_1)∧Aside0 (Kd.R (Kd.int .i64) 3 w' w.heap.size (fun k_=>some k_ ≠ ((.slice Ao29 x5_1.length co29):Value).ownBlock∧some k_ ≠ ((.slice Ao29 x5_1.length co29):Value).ownBlock) v8 x8_2)∧Aside0 (Kd.R (Kd.int .i64) 3 w' w.heap.size (fun k_=>some k_ ≠ (v8:Value).ownBlock) (.slice Ao29 x5_1.length co29) x5_1)∧Aside0 (w'.heap[gb682]?=some (.cells #[(.slice A0_0 l0_0.length c0_0)] 27 (0,0)))∧Aside0 (Below w.heap.size w w'))
       case atStart=>exact ⟨(([]:List Int)),(0),(0),(by first|rfl|(simp;done)|(simp [*];done)),(by first|rfl|(simp;done)|(simp [*];done)),H',⟨Nat.le_refl _⟩,⟨by (with_reducible repeat (first|apply Kd.R_alloc|apply Kd.R_drewN|apply Kd.R_drew));exact Kd.R_mono HO_5.out (fun _ hk=>(by simp [Value.ownBlock]))⟩,⟨by first|exact Kd.R_nil _ _ _ _ _|exact Kd.N_nil _ _ _ _ _|exact Kd.V_nil _ _ _ _ _|exact Kd.Q_nil _ _ _ _ _|exact Kd.S_nil _ _ _ _ _⟩,⟨by (with_reducible repeat (first|apply Kd.R_alloc|apply Kd.R_drewN|apply Kd.R_drew));exact Kd.R_mono HO_5.out (fun _ hk=>(by simp [Value.ownBlock]))⟩,⟨by (with_reducible repeat (first|refine kN ?_ _|refine kD ?_|refine kA ?_ _));exact BK682.out⟩,⟨by repeat (first|(with_reducible first|exact HB.out|apply wA|apply wN|apply wD|refine wS ?_ GE682.out)|exact HB.out)⟩⟩
       case round =>
        clear H'
        try clear c1
        try clear c2
        try clear p2
        try clear q2
        try clear hx2
        try clear hf2
        try clear c3
        try clear c3b0
        try clear c3b1
        try clear c4
        try clear c4b0
        try clear c4b1
        try clear c5
        try clear c5b0
        try clear c5b1
        try clear c6
        try clear p6
        try clear q6
        try clear hx6
        try clear c7
        try clear c18
        try clear c18b0
        try clear c19
        try clear c19b0
        try clear c20
        try clear c20b0
        try clear c22
        try clear c22b0
        try clear c23
        try clear c23b0
        try clear p24
        try clear q24
        try clear hx24
        try clear hf24
        try clear hcz11_0
        try clear hcz14_0
        try clear hcz25_0
        try clear hcz9_0
        try clear hfz11_0
        try clear hfz14_0
        try clear hfz25_0
        try clear hfz9_0
        try clear hx24_0
        try clear hx691_0
        try clear p2
        try clear p24
        try clear p691
        try clear q24
        try clear q691
        obtain ⟨x8_2,x9_2,x41_2,rfl,rfl,HA,HK2,HO_5,HO_8,HO_39,BK682,HB⟩:=hrel
        cases gk with
        | zero=>exact absurd HA.out (by simp [quorums_Parts.l1])
        | succ k2 =>
         have H:=HA.out
         clear HA
         simp only [quorums_Parts.l1] at H
         by_cases c30:x41_2 < (x5_1.length:Int)
         ·rw [if_pos c30] at H
          have c30b0:decide (x41_2 < (x5_1.length:Int))=true:=decide_eq_true c30
          clear c30
          by_cases c31:0≤x41_2
          ·rw [if_pos c31] at H
           have c31b0:decide (0≤x41_2)=true:=decide_eq_true c31
           clear c31
           by_cases c32:x41_2 < (x5_1.length:Int)
           ·rw [if_pos c32] at H
            have c32b0:decide (x41_2 < (x5_1.length:Int))=true:=decide_eq_true c32
            clear c32
            have HC33:=Aside0.mk H
            clear H
            have p694:0≤(x41_2:Int):=of_decide_eq_true (by first|(with_reducible assumption)|assumption)
            have q694:x41_2 < (x5_1.length:Int):=of_decide_eq_true (by first|(with_reducible assumption)|assumption)
            obtain ⟨ad694,e694,hx694_0⟩:=Kd.at_int (Kd.R_reads' HO_39.out).2.2 x41_2 p694 q694
            cases e694
            replace p694:=eq_true p694
            replace q694:=eq_true q694
            go_upto_region 15 with (fail)
            go_cut [54] (fun v54 wc=>∃ (kq:Nat) (x54_32:Bool),v54=.bool x54_32∧Aside0 (quorums_Parts.j2 kq x5_1 x8_2 x9_2 x41_2 (rd x5_1 x41_2) x5_1 (x5_1.length:Int) x41_2 x54_32=some (r1,r2))∧Aside0 (kq≤k2)∧Aside0 (Kd.R (Kd.int .i64) 3 wc w.heap.size (fun k_=>some k_ ≠ (u8:Value).ownBlock) (.slice (some ad694) x5_1.length co29) x5_1)∧Aside0 (Kd.R (Kd.int .i64) 3 wc w.heap.size (fun k_=>some k_ ≠ ((.slice (some ad694) x5_1.length co29):Value).ownBlock∧some k_ ≠ ((.slice (some ad694) x5_1.length co29):Value).ownBlock) u8 x8_2)∧Aside0 (Kd.R (Kd.int .i64) 3 wc w.heap.size (fun k_=>some k_ ≠ (u8:Value).ownBlock) (.slice (some ad694) x5_1.length co29) x5_1)∧Aside0 (wc.heap[gb682]?=some (.cells #[(.slice A0_0 l0_0.length c0_0)] 27 (0,0)))∧Aside0 (Below w.heap.size w wc))
            case first =>
             have H:=HC33.out
             clear HC33
             have c34b0:=eq_true (of_decide_eq_true (by first|(with_reducible assumption)|assumption):0≤x41_2)
             obtain ⟨ji35,hji35⟩:∃ j_:Int,(shl .i64 1 x41_2)=j_:=⟨_,rfl⟩
             replace H:(if (Go.bits .and .i64 x9_2 (ji35))=0 then (quorums_Parts.j2 k2 x5_1 x8_2 x9_2 x41_2 (rd x5_1 x41_2) x5_1 (x5_1.length:Int) x41_2 ((rd x5_1 x41_2) == 0)) else (quorums_Parts.j2 k2 x5_1 x8_2 x9_2 x41_2 (rd x5_1 x41_2) x5_1 (x5_1.length:Int) x41_2 true))=some (r1,r2):=by first|(rw [hji35] at H;exact H)|(simp only [hji35] at H ⊢;exact H)
             have hji35_:(IntKind.i64.wrap (1 * 2 ^ min x41_2.toNat 64))=ji35:=hji35
             have hji35z:x41_2≤64→(IntKind.i64.wrap (1 * 2 ^ x41_2.toNat))=ji35:=shl_small hji35
             have hji35u:(IntKind.i64.wrap (2 ^ min x41_2.toNat 64))=ji35:=by have h_:=hji35_;rw [Int.one_mul] at h_;exact h_
             have hji35v:x41_2≤64→(IntKind.i64.wrap (2 ^ x41_2.toNat))=ji35:=fun hle_=>by have h_:=hji35z hle_;rw [Int.one_mul] at h_;exact h_
             have hji35y:(wrap64 (1 * 2 ^ min x41_2.toNat 64))=ji35:=(i64_w _).symm.trans hji35_
             have hji35x:x41_2≤64→(wrap64 (1 * 2 ^ x41_2.toNat))=ji35:=fun h_=>(i64_w _).symm.trans (hji35z h_)
             by_cases c36:(Go.bits .and .i64 x9_2 (ji35))=0
             ·rw [if_pos c36] at H
              have c36b0:((Go.bits .and .i64 x9_2 (ji35)) == 0)=true:=beq_iff_eq.mpr c36
              have c36b1:((Go.bits .and .i64 x9_2 (ji35)) != 0)=false:=bne_eq_false_iff_eq.mpr c36
              clear c36
              (first|rw [c36b0]|(simp only [i64_w,i32_w];rw [c36b0])|skip)
              have H':=Aside0.mk H
              clear H
              go_wp2
              go_meet
              case rel=>exact ⟨_,(((rd x5_1 x41_2) == 0)),(by first|rfl|(simp;done)|(simp [*];done)),H',⟨by have:=HK1.out;have:=HK2.out;first|omega|exact Nat.le_refl _⟩,⟨by (with_reducible repeat (first|apply Kd.R_alloc|apply Kd.R_drewN|apply Kd.R_drew));exact HO_5.out⟩,⟨by (with_reducible repeat (first|apply Kd.R_alloc|apply Kd.R_drewN|apply Kd.R_drew));exact HO_8.out⟩,⟨by (with_reducible repeat (first|apply Kd.R_alloc|apply Kd.R_drewN|apply Kd.R_drew));exact HO_39.out⟩,⟨by (with_reducible repeat (first|refine kN ?_ _|refine kD ?_|refine kA ?_ _));exact BK682.out⟩,⟨by repeat (first|(with_reducible first|exact HB.out|apply wA|apply wN|apply wD|refine wS ?_ GE682.out)|exact HB.out)⟩⟩
             ·rw [if_neg c36] at H
              have c36b0:((Go.bits .and .i64 x9_2 (ji35)) == 0)=false:=beq_eq_false_iff_ne.mpr c36
              have c36b1:((Go.bits .and .i64 x9_2 (ji35)) != 0)=true:=bne_iff_ne.mpr c36
              (first|rw [c36b0]|(simp only [i64_w,i32_w];rw [c36b0])|skip)
              have H':=Aside0.mk H
              clear H
              go_wp2
              go_meet
              case rel=>exact ⟨_,(true),(by first|rfl|(simp;done)|(simp [*];done)),H',⟨by have:=HK1.out;have:=HK2.out;first|omega|exact Nat.le_refl _⟩,⟨by (with_reducible repeat (first|apply Kd.R_alloc|apply Kd.R_drewN|apply Kd.R_drew));exact HO_5.out⟩,⟨by (with_reducible repeat (first|apply Kd.R_alloc|apply Kd.R_drewN|apply Kd.R_drew));exact HO_8.out⟩,⟨by (with_reducible repeat (first|apply Kd.R_alloc|apply Kd.R_drewN|apply Kd.R_drew));exact HO_39.out⟩,⟨by (with_reducible repeat (first|refine kN ?_ _|refine kD ?_|refine kA ?_ _));exact BK682.out⟩,⟨by repeat (first|(with_reducible first|exact HB.out|apply wA|apply wN|apply wD|refine wS ?_ GE682.out)|exact HB.out)⟩⟩
            case rest =>
             clear HC33
             try clear c1
             try clear c2
             try clear p2
             try clear q2
             try clear hx2
             try clear hf2
             try clear c3
             try clear c3b0
             try clear c3b1
             try clear c4
             try clear c4b0
             try clear c4b1
             try clear c5
             try clear c5b0
             try clear c5b1
             try clear c6
             try clear p6
             try clear q6
             try clear hx6
             try clear c7
             try clear c18
             try clear c18b0
             try clear c19
             try clear c19b0
             try clear c20
             try clear c20b0
             try clear c22
             try clear c22b0
             try clear c23
             try clear c23b0
             try clear p24
             try clear q24
             try clear hx24
             try clear hf24
             try clear c30
             try clear c30b0
             try clear c31
             try clear c31b0
             try clear c32
             try clear c32b0
             try clear c34
             try clear c34b0
             try clear c36
             try clear c36b0
             try clear c36b1
             try clear hcz11_0
             try clear hcz14_0
             try clear hcz25_0
             try clear hcz9_0
             try clear hfz11_0
             try clear hfz14_0
             try clear hfz25_0
             try clear hfz9_0
             try clear hx24_0
             try clear hx691_0
             try clear hx694_0
             try clear p2
             try clear p24
             try clear p6
             try clear p691
             try clear p694
             try clear q2
             try clear q24
             try clear q6
             try clear q691
             try clear q694
             obtain ⟨kq,x54_32,rfl,HA,HJ32,HO_5,HO_8,HO_39,BK682,HB⟩:=hcut
             cases kq with
             | zero=>exact absurd HA.out (by simp [quorums_Parts.j2])
             | succ kj32 =>
              have H:=HA.out
              clear HA
              simp only [quorums_Parts.j2] at H
              by_cases c37:x54_32=true
              ·subst c37
               have H1:(quorums_Parts.l1 kj32 x5_1 x8_2 x9_2 x5_1 (x5_1.length:Int) (wrap64 (x41_2+1)))=some (r1,r2):=by rw [if_pos rfl] at H;exact H
               clear H
               have H:=H1
               clear H1
               have H':=Aside0.mk H
               clear H
               go_wp2
               go_roundg kj32
               case measure=>have:=HK1.out;have:=HK2.out;have:=HJ32.out;omega
               case rel=>exact ⟨(x8_2),(x9_2),(wrap64 (x41_2+1)),(by first|rfl|(simp;done)|(simp [*];done)),(by first|rfl|(simp;done)|(simp [*];done)),H',⟨by have:=HK1.out;have:=HK2.out;have:=HJ32.out;omega⟩,⟨by (with_reducible repeat (first|apply Kd.R_alloc|apply Kd.R_drewN|apply Kd.R_drew));exact HO_5.out⟩,⟨by (with_reducible repeat (first|apply Kd.R_alloc|apply Kd.R_drewN|apply Kd.R_drew));exact HO_8.out⟩,⟨by (with_reducible repeat (first|apply Kd.R_alloc|apply Kd.R_drewN|apply Kd.R_drew));exact HO_39.out⟩,⟨by (with_reducible repeat (first|refine kN ?_ _|refine kD ?_|refine kA ?_ _));exact BK682.out⟩,⟨by repeat (first|(with_reducible first|exact HB.out|apply wA|apply wN|apply wD|refine wS ?_ GE682.out)|exact HB.out)⟩⟩
              ·replace c37:=Bool.eq_false_iff.mpr c37
               subst c37
               have H1:((nodeset_Nodes.f kj32 (rd x5_1 x41_2)).bind fun t695=>(quorums_Parts.l2 kj32 x5_1 x8_2 x9_2 x41_2 0 x5_1 (x5_1.length:Int) x41_2 t695 (t695.length:Int) 0))=some (r1,r2):=by rw [if_neg (show ¬ (false=true) by decide)] at H;exact H
               clear H
               have H:=H1
               clear H1
               replace H:=Option.bind_eq_some_iff.mp H
               obtain ⟨t695,A380,H⟩:=H
               replace H:(quorums_Parts.l2 kj32 x5_1 x8_2 x9_2 x41_2 0 x5_1 (x5_1.length:Int) x41_2 t695 (t695.length:Int) 0)=some (r1,r2):=H
               have A38:=Aside0.mk A380
               clear A380
               have H':=Aside0.mk H
               clear H
               go_wp2_with (first|((with_reducible refine gate_callee (f:=77) rfl ?_);refine goesL_ (some 56) rfl rfl Try.func77 (by kernel_rfl) rfl #[.int .i64 (rd x5_1 x41_2)] rfl (by (try simp only [List.map_toArray,List.map_cons,List.map_nil]);first|done|rfl|(simp only [List.length_drop,List.length_take];rfl)) ?_;(with_reducible refine (nodeset_Nodes.calls kj32 (rd x5_1 x41_2) t695 _ A38.out).mono ?_);rintro e w39 ⟨v696,rfl,ho0,hb⟩;refine ⟨_,rfl,?_⟩;have n0_:=Aside0.mk (Kd.R_elder' (by (with_reducible repeat (first|apply Kd.R_alloc|apply Kd.R_drewN|apply Kd.R_drew));exact HO_5.out) (Kd.R_base ho0) hb);have n1_:=Aside0.mk (Kd.R_elder' (by (with_reducible repeat (first|apply Kd.R_alloc|apply Kd.R_drewN|apply Kd.R_drew));exact HO_8.out) (Kd.R_base ho0) hb);have n2_:=Aside0.mk (Kd.R_elder' (by (with_reducible repeat (first|apply Kd.R_alloc|apply Kd.R_drewN|apply Kd.R_drew));exact HO_39.out) (Kd.R_base ho0) hb);have n3_:=Aside0.mk (Kd.R_lower (Kd.R_new' (Kd.R_new' (Kd.R_new' ho0 (Kd.R_lt (by (with_reducible repeat (first|apply Kd.R_alloc|apply Kd.R_drewN|apply Kd.R_drew));exact HO_5.out))) (Kd.R_lt (by (with_reducible repeat (first|apply Kd.R_alloc|apply Kd.R_drewN|apply Kd.R_drew));exact HO_8.out))) (Kd.R_lt (by (with_reducible repeat (first|apply Kd.R_alloc|apply Kd.R_drewN|apply Kd.R_drew));exact HO_39.out))) (below_size (by repeat (first|(with_reducible first|exact HB.out|apply wA|apply wN|apply wD|refine wS ?_ GE682.out)|exact HB.out))));have n4_:=Aside0.mk (blk_below (g:=gb682) (o:=.cells #[.slice A0_0 l0_0.length c0_0] 27 (0,0)) (by (with_reducible repeat (first|refine kN ?_ _|refine kD ?_|refine kA ?_ _));exact BK682.out) hb);have n5_:=Aside0.mk (below_step (by repeat (first|(with_reducible first|exact HB.out|apply wA|apply wN|apply wD|refine wS ?_ GE682.out)|exact HB.out)) hb);clear HO_5;clear HO_8;clear HO_39;clear BK682;clear HB;have HO_5:=n0_;have HO_8:=n1_;have HO_39:=n2_;have HO697:=n3_;have BK682:=n4_;have HB:=n5_;clear n0_ n1_ n2_ n3_ n4_ n5_;(try clear hb);(try clear hb2);(try clear hk);(try clear hi);(try clear ho0);obtain ⟨Ao40,co40,eo40⟩:=Kd.R_slice HO697.out;subst eo40))
               go_loopg [12,58] kj32 (fun kq v12 v58 w'=>∃ (x12_4:Int) (x58_4:Int),v12=.int .i64 x12_4∧v58=.int .i64 x58_4∧Aside0 (quorums_Parts.l2 kq x5_1 x8_2 x9_2 x41_2 x12_4 x5_1 (x5_1.length:Int) x41_2 t695 (t695.length:Int) x58_4=some (r1,r2))∧Aside0 (kq≤kj32)∧Aside0 (Kd.R (Kd.int .i64) 3 w' w.heap.size (fun k_=>some k_ ≠ (u8:Value).ownBlock∧some k_ ≠ ((.slice Ao40 t695.length co40):Value).ownBlock) (.slice (some ad694) x5_1.length co29) x5_1)∧Aside0 (Kd.R (Kd.int .i64) 3 w' w.heap.size (fun k_=>some k_ ≠ ((.slice (some ad694) x5_1.length co29):Value).ownBlock∧some k_ ≠ ((.slice (some ad694) x5_1.length co29):Value).ownBlock∧some k_ ≠ ((.slice Ao40 t695.length co40):Value).ownBlock) u8 x8_2)∧Aside0 (Kd.R (Kd.int .i64) 3 w' w.heap.size (fun k_=>some k_ ≠ (u8:Value).ownBlock∧some k_ ≠ ((.slice Ao40 t695.length co40):Value).ownBlock) (.slice (some ad694) x5_1.length co29) x5_1)∧Aside0 (Kd.R (Kd.int .i64) 3 w' w.heap.size (fun k_=>some k_ ≠ ((.slice (some ad694) x5_1.length co29):Value).ownBlock∧some k_ ≠ (u8:Value).ownBlock∧some k_ ≠ ((.slice (some ad694) x5_1.length co29):Value).ownBlock) (.slice Ao40 t695.length co40) t695)∧Aside0 (w'.heap[gb682]?=some (.cells #[(.slice A0_0 l0_0.length c0_0)] 27 (0,0)))∧Aside0 (Below w.heap.size w w'))
               case atStart=>exact ⟨(0),(0),(by first|rfl|(simp;done)|(simp [*];done)),(by first|rfl|(simp;done)|(simp [*];done)),H',⟨Nat.le_refl _⟩,⟨by (with_reducible repeat (first|apply Kd.R_alloc|apply Kd.R_drewN|apply Kd.R_drew));exact HO_5.out⟩,⟨by (with_reducible repeat (first|apply Kd.R_alloc|apply Kd.R_drewN|apply Kd.R_drew));exact Kd.R_mono HO_8.out (fun _ hk=>⟨hk.1.1,⟨hk.1.2,hk.2⟩⟩)⟩,⟨by (with_reducible repeat (first|apply Kd.R_alloc|apply Kd.R_drewN|apply Kd.R_drew));exact HO_39.out⟩,⟨by (with_reducible repeat (first|apply Kd.R_alloc|apply Kd.R_drewN|apply Kd.R_drew));exact Kd.R_mono HO697.out (fun _ hk=>⟨hk.1.1.2,⟨hk.1.2,hk.2⟩⟩)⟩,⟨by (with_reducible repeat (first|refine kN ?_ _|refine kD ?_|refine kA ?_ _));exact BK682.out⟩,⟨by repeat (first|(with_reducible first|exact HB.out|apply wA|apply wN|apply wD|refine wS ?_ GE682.out)|exact HB.out)⟩⟩
               case round =>
                clear H'
                try clear c1
                try clear c2
                try clear p2
                try clear q2
                try clear hx2
                try clear hf2
                try clear c3
                try clear c3b0
                try clear c3b1
                try clear c4
                try clear c4b0
                try clear c4b1
                try clear c5
                try clear c5b0
                try clear c5b1
                try clear c6
                try clear p6
                try clear q6
                try clear hx6
                try clear c7
                try clear c18
                try clear c18b0
                try clear c19
                try clear c19b0
                try clear c20
                try clear c20b0
                try clear c22
                try clear c22b0
                try clear c23
                try clear c23b0
                try clear p24
                try clear q24
                try clear hx24
                try clear hf24
                try clear c30
                try clear c30b0
                try clear c31
                try clear c31b0
                try clear c32
                try clear c32b0
                try clear c34
                try clear c34b0
                try clear c36
                try clear c36b0
                try clear c36b1
                try clear c37
                try clear c39
                try clear hcz11_0
                try clear hcz14_0
                try clear hcz25_0
                try clear hcz9_0
                try clear hfz11_0
                try clear hfz14_0
                try clear hfz25_0
                try clear hfz9_0
                try clear hx24_0
                try clear hx691_0
                try clear hx694_0
                try clear p2
                try clear p24
                try clear p6
                try clear p691
                try clear p694
                try clear q2
                try clear q24
                try clear q6
                try clear q691
                try clear q694
                obtain ⟨x12_4,x58_4,rfl,rfl,HA,HK4,HO_5,HO_8,HO_39,HO_56,BK682,HB⟩:=hrel
                cases gk with
                | zero=>exact absurd HA.out (by simp [quorums_Parts.l2])
                | succ k4 =>
                 have H:=HA.out
                 clear HA
                 simp only [quorums_Parts.l2] at H
                 by_cases c41:x58_4 < (t695.length:Int)
                 ·rw [if_pos c41] at H
                  have c41b0:decide (x58_4 < (t695.length:Int))=true:=decide_eq_true c41
                  clear c41
                  by_cases c42:0≤x58_4
                  ·rw [if_pos c42] at H
                   have c42b0:decide (0≤x58_4)=true:=decide_eq_true c42
                   clear c42
                   by_cases c43:x58_4 < (t695.length:Int)
                   ·rw [if_pos c43] at H
                    have c43b0:decide (x58_4 < (t695.length:Int))=true:=decide_eq_true c43
                    clear c43
                    by_cases c44:0≤(rd t695 x58_4)
                    ·rw [if_pos c44] at H
                     have c44b0:decide (0≤(rd t695 x58_4))=true:=decide_eq_true c44
                     clear c44
                     by_cases c45:(rd t695 x58_4) < (x5_1.length:Int)
                     ·rw [if_pos c45] at H
                      have c45b0:decide ((rd t695 x58_4) < (x5_1.length:Int))=true:=decide_eq_true c45
                      clear c45
                      replace H:=Option.bind_eq_some_iff.mp H
                      obtain ⟨t700,A460,H⟩:=H
                      replace H:(if t700=true then (quorums_Parts.l2 k4 x5_1 x8_2 x9_2 x41_2 (Go.bits .or .i64 x12_4 (shl .i64 1 (rd t695 x58_4))) x5_1 (x5_1.length:Int) x41_2 t695 (t695.length:Int) (wrap64 (x58_4+1))) else (quorums_Parts.l2 k4 x5_1 x8_2 x9_2 x41_2 x12_4 x5_1 (x5_1.length:Int) x41_2 t695 (t695.length:Int) (wrap64 (x58_4+1))))=some (r1,r2):=H
                      have A46:=Aside0.mk A460
                      clear A460
                      by_cases c47:t700=true
                      ·subst c47
                       have H1:(quorums_Parts.l2 k4 x5_1 x8_2 x9_2 x41_2 (Go.bits .or .i64 x12_4 (shl .i64 1 (rd t695 x58_4))) x5_1 (x5_1.length:Int) x41_2 t695 (t695.length:Int) (wrap64 (x58_4+1)))=some (r1,r2):=by rw [if_pos rfl] at H;exact H
                       clear H
                       have H:=H1
                       clear H1
                       have c48b0:=eq_true (of_decide_eq_true (by first|(with_reducible assumption)|assumption):0≤(rd t695 x58_4))
                       obtain ⟨ji49,hji49⟩:∃ j_:Int,(shl .i64 1 (rd t695 x58_4))=j_:=⟨_,rfl⟩
                       replace H:(quorums_Parts.l2 k4 x5_1 x8_2 x9_2 x41_2 (Go.bits .or .i64 x12_4 (ji49)) x5_1 (x5_1.length:Int) x41_2 t695 (t695.length:Int) (wrap64 (x58_4+1)))=some (r1,r2):=by first|(rw [hji49] at H;exact H)|(simp only [hji49] at H ⊢;exact H)
                       (try rw [hji49] at A46)
                       have hji49_:(IntKind.i64.wrap (1 * 2 ^ min (rd t695 x58_4).toNat 64))=ji49:=hji49
                       have hji49z:(rd t695 x58_4)≤64→(IntKind.i64.wrap (1 * 2 ^ (rd t695 x58_4).toNat))=ji49:=shl_small hji49
                       have hji49u:(IntKind.i64.wrap (2 ^ min (rd t695 x58_4).toNat 64))=ji49:=by have h_:=hji49_;rw [Int.one_mul] at h_;exact h_
                       have hji49v:(rd t695 x58_4)≤64→(IntKind.i64.wrap (2 ^ (rd t695 x58_4).toNat))=ji49:=fun hle_=>by have h_:=hji49z hle_;rw [Int.one_mul] at h_;exact h_
                       have hji49y:(wrap64 (1 * 2 ^ min (rd t695 x58_4).toNat 64))=ji49:=(i64_w _).symm.trans hji49_
                       have hji49x:(rd t695 x58_4)≤64→(wrap64 (1 * 2 ^ (rd t695 x58_4).toNat))=ji49:=fun h_=>(i64_w _).symm.trans (hji49z h_)
                       have H':=Aside0.mk H
                       clear H
                       have p698:0≤(x58_4:Int):=of_decide_eq_true (by first|(with_reducible assumption)|assumption)
                       have q698:x58_4 < (t695.length:Int):=of_decide_eq_true (by first|(with_reducible assumption)|assumption)
                       obtain ⟨ad698,e698,hx698_0⟩:=Kd.at_int (Kd.R_reads' HO_56.out).2.2 x58_4 p698 q698
                       cases e698
                       replace p698:=eq_true p698
                       replace q698:=eq_true q698
                       have p699:0≤((rd t695 x58_4):Int):=of_decide_eq_true (by first|(with_reducible assumption)|assumption)
                       have q699:(rd t695 x58_4) < (x5_1.length:Int):=of_decide_eq_true (by first|(with_reducible assumption)|assumption)
                       obtain ⟨ad699,e699,hx699_0⟩:=Kd.at_int (Kd.R_reads' HO_5.out).2.2 (rd t695 x58_4) p699 q699
                       obtain rfl:ad694=ad699:=(by injection e699)
                       replace p699:=eq_true p699
                       replace q699:=eq_true q699
                       go_wp2_with (first|((with_reducible refine gate_callee (f:=60) rfl ?_);refine goesL_ (some 67) rfl rfl Try.func60 (by kernel_rfl) rfl #[.int .i64 (rd x5_1 (rd t695 x58_4)),.int .i64 x41_2] rfl (by (try simp only [List.map_toArray,List.map_cons,List.map_nil]);first|done|rfl|(simp only [List.length_drop,List.length_take];rfl)) ?_;(with_reducible refine (nodeset_Has.calls (rd x5_1 (rd t695 x58_4)) x41_2 true _ A46.out).mono ?_);rintro e w' ⟨rfl,⟨nd,rfl⟩⟩;refine ⟨_,rfl,?_⟩))
                       go_roundg k4
                       case measure=>have:=HK1.out;have:=HK2.out;have:=HJ32.out;have:=HK4.out;omega
                       case rel=>exact ⟨(Go.bits .or .i64 x12_4 (ji49)),(wrap64 (x58_4+1)),(by first|rfl|(simp;done)|(simp only [← hji49] <;> (first|rfl|simp))|(simp [*];done)),(by first|rfl|(simp;done)|(simp [*];done)),H',⟨by have:=HK1.out;have:=HK2.out;have:=HJ32.out;have:=HK4.out;omega⟩,⟨by (with_reducible repeat (first|apply Kd.R_alloc|apply Kd.R_drewN|apply Kd.R_drew));exact HO_5.out⟩,⟨by (with_reducible repeat (first|apply Kd.R_alloc|apply Kd.R_drewN|apply Kd.R_drew));exact HO_8.out⟩,⟨by (with_reducible repeat (first|apply Kd.R_alloc|apply Kd.R_drewN|apply Kd.R_drew));exact HO_39.out⟩,⟨by (with_reducible repeat (first|apply Kd.R_alloc|apply Kd.R_drewN|apply Kd.R_drew));exact HO_56.out⟩,⟨by (with_reducible repeat (first|refine kN ?_ _|refine kD ?_|refine kA ?_ _));exact BK682.out⟩,⟨by repeat (first|(with_reducible first|exact HB.out|apply wA|apply wN|apply wD|refine wS ?_ GE682.out)|exact HB.out)⟩⟩
                      ·replace c47:=Bool.eq_false_iff.mpr c47
                       subst c47
                       have H1:(quorums_Parts.l2 k4 x5_1 x8_2 x9_2 x41_2 x12_4 x5_1 (x5_1.length:Int) x41_2 t695 (t695.length:Int) (wrap64 (x58_4+1)))=some (r1,r2):=by rw [if_neg (show ¬ (false=true) by decide)] at H;exact H
                       clear H
                       have H:=H1
                       clear H1
                       have H':=Aside0.mk H
                       clear H
                       have p698:0≤(x58_4:Int):=of_decide_eq_true (by first|(with_reducible assumption)|assumption)
                       have q698:x58_4 < (t695.length:Int):=of_decide_eq_true (by first|(with_reducible assumption)|assumption)
                       obtain ⟨ad698,e698,hx698_0⟩:=Kd.at_int (Kd.R_reads' HO_56.out).2.2 x58_4 p698 q698
                       cases e698
                       replace p698:=eq_true p698
                       replace q698:=eq_true q698
                       have p699:0≤((rd t695 x58_4):Int):=of_decide_eq_true (by first|(with_reducible assumption)|assumption)
                       have q699:(rd t695 x58_4) < (x5_1.length:Int):=of_decide_eq_true (by first|(with_reducible assumption)|assumption)
                       obtain ⟨ad699,e699,hx699_0⟩:=Kd.at_int (Kd.R_reads' HO_5.out).2.2 (rd t695 x58_4) p699 q699
                       obtain rfl:ad694=ad699:=(by injection e699)
                       replace p699:=eq_true p699
                       replace q699:=eq_true q699
                       go_wp2_with (first|((with_reducible refine gate_callee (f:=60) rfl ?_);refine goesL_ (some 67) rfl rfl Try.func60 (by kernel_rfl) rfl #[.int .i64 (rd x5_1 (rd t695 x58_4)),.int .i64 x41_2] rfl (by (try simp only [List.map_toArray,List.map_cons,List.map_nil]);first|done|rfl|(simp only [List.length_drop,List.length_take];rfl)) ?_;(with_reducible refine (nodeset_Has.calls (rd x5_1 (rd t695 x58_4)) x41_2 false _ A46.out).mono ?_);rintro e w' ⟨rfl,⟨nd,rfl⟩⟩;refine ⟨_,rfl,?_⟩))
                       go_roundg k4
                       case measure=>have:=HK1.out;have:=HK2.out;have:=HJ32.out;have:=HK4.out;omega
                       case rel=>exact ⟨(x12_4),(wrap64 (x58_4+1)),(by first|rfl|(simp;done)|(simp [*];done)),(by first|rfl|(simp;done)|(simp [*];done)),H',⟨by have:=HK1.out;have:=HK2.out;have:=HJ32.out;have:=HK4.out;omega⟩,⟨by (with_reducible repeat (first|apply Kd.R_alloc|apply Kd.R_drewN|apply Kd.R_drew));exact HO_5.out⟩,⟨by (with_reducible repeat (first|apply Kd.R_alloc|apply Kd.R_drewN|apply Kd.R_drew));exact HO_8.out⟩,⟨by (with_reducible repeat (first|apply Kd.R_alloc|apply Kd.R_drewN|apply Kd.R_drew));exact HO_39.out⟩,⟨by (with_reducible repeat (first|apply Kd.R_alloc|apply Kd.R_drewN|apply Kd.R_drew));exact HO_56.out⟩,⟨by (with_reducible repeat (first|refine kN ?_ _|refine kD ?_|refine kA ?_ _));exact BK682.out⟩,⟨by repeat (first|(with_reducible first|exact HB.out|apply wA|apply wN|apply wD|refine wS ?_ GE682.out)|exact HB.out)⟩⟩
                     ·rw [if_neg c45] at H
                      exact absurd H (by simp)
                    ·rw [if_neg c44] at H
                     exact absurd H (by simp)
                   ·rw [if_neg c43] at H
                    exact absurd H (by simp)
                  ·rw [if_neg c42] at H
                   exact absurd H (by simp)
                 ·rw [if_neg c41] at H
                  have c41b0:decide (x58_4 < (t695.length:Int))=false:=decide_eq_false c41
                  clear c41
                  by_cases c50:x8_2.length < 17592186044416
                  ·rw [if_pos c50] at H
                   have LMc50:=Aside0.mk c50
                   clear c50
                   obtain ⟨y701,hy701⟩:∃ y_:List Int,y_=(x8_2++[x12_4]):=⟨_,rfl⟩
                   replace H:(quorums_Parts.l1 k4 x5_1 y701 (Go.bits .or .i64 x9_2 x12_4) x5_1 (x5_1.length:Int) (wrap64 (x41_2+1)))=some (r1,r2):=by first|(rw [hy701];with_reducible exact H)|(have H2_:=(Option.bind_some _ _).symm.trans H;rw [hy701];with_reducible exact H2_)|(have H2_:=(Option.bind_some _ _).symm.trans H;with_reducible exact H2_)|with_reducible exact H|(rw [hy701];exact H)|exact H
                   have Ny701:=Aside0.mk hy701
                   clear hy701
                   have H':=Aside0.mk H
                   clear H
                   go_wp2_with (first|((with_reducible refine gate_builtin (b:=.append) (xs:=#[.tmp 73,.tmp 75]) rfl ?_);at_builtin;refine Kd.R_append (Kd.int .i64) (w0:=w) w.heap.size rfl (.tmp 73) (.tmp 75) 22 3 (.int .i64 0) 8 rfl Try.underlying22 info3 rfl (by decide) (by omega) u8 x8_2 x12_4 [.int .i64 x12_4] (fun k_=>some k_ ≠ (.slice (some ad694) x5_1.length co29:Value).ownBlock∧some k_ ≠ (.slice (some ad694) x5_1.length co29:Value).ownBlock∧some k_ ≠ (.slice Ao40 t695.length co40:Value).ownBlock) (fun _=>False) rfl rfl ?aP (fun _ hk=>hk.elim) ?aF ?aO ?aB ?aS ?aL ?_;(case aP=>exact rfl);(case aB=>exact (by repeat (first|(with_reducible first|exact HB.out|apply wA|apply wN|apply wD|refine wS ?_ GE682.out)|exact HB.out)));(case aF=>exact (fun k_ hk=>⟨Kd.fresh' (Kd.R_lt (by (with_reducible repeat (first|apply Kd.R_alloc|apply Kd.R_drewN|apply Kd.R_drew));exact HO_5.out)) k_ hk,Kd.fresh' (Kd.R_lt (by (with_reducible repeat (first|apply Kd.R_alloc|apply Kd.R_drewN|apply Kd.R_drew));exact HO_39.out)) k_ hk,Kd.fresh' (Kd.R_lt (by (with_reducible repeat (first|apply Kd.R_alloc|apply Kd.R_drewN|apply Kd.R_drew));exact HO_56.out)) k_ hk⟩));(case aO=>exact (by (with_reducible repeat (first|apply Kd.R_alloc|apply Kd.R_drewN|apply Kd.R_drew));exact HO_8.out));(case aS=>exact (below_size (by repeat (first|(with_reducible first|exact HB.out|apply wA|apply wN|apply wD|refine wS ?_ GE682.out)|exact HB.out))));(case aL=>have:=LMc50.out;omega);intro v702 w51 ho hb hg hat;rw [← Ny701.out] at ho;have n0_:=Aside0.mk (Kd.R_after (ok:=(fun k_=>some k_ ≠ (.slice Ao40 t695.length co40:Value).ownBlock)) (by (with_reducible repeat (first|apply Kd.R_alloc|apply Kd.R_drewN|apply Kd.R_drew));exact Kd.R_mono HO_5.out (fun _ hk=>⟨hk.2,hk.1⟩)) hg hat);have n1_:=Aside0.mk (Kd.R_after (ok:=(fun k_=>some k_ ≠ (.slice Ao40 t695.length co40:Value).ownBlock)) (by (with_reducible repeat (first|apply Kd.R_alloc|apply Kd.R_drewN|apply Kd.R_drew));exact Kd.R_mono HO_39.out (fun _ hk=>⟨hk.2,hk.1⟩)) hg hat);have n2_:=Aside0.mk (Kd.R_after (ok:=(fun k_=>some k_ ≠ (.slice (some ad694) x5_1.length co29:Value).ownBlock∧some k_ ≠ (.slice (some ad694) x5_1.length co29:Value).ownBlock)) (by (with_reducible repeat (first|apply Kd.R_alloc|apply Kd.R_drewN|apply Kd.R_drew));exact Kd.R_mono HO_56.out (fun _ hk=>⟨⟨hk.1,hk.2.2⟩,hk.2.1⟩)) hg hat);have n3_:=Aside0.mk (blk_grown (g:=gb682) (o:=.cells #[.slice A0_0 l0_0.length c0_0] 27 (0,0)) (by (with_reducible repeat (first|refine kN ?_ _|refine kD ?_|refine kA ?_ _));exact BK682.out) hg (Kd.R_ne HO_8.out BK682.out (by decide)));have n4_:=Aside0.mk (hb);have n5_:=Aside0.mk (ho);clear HO_5;clear HO_39;clear HO_56;clear BK682;clear HB;clear HO_8;have HO_5:=n0_;have HO_39:=n1_;have HO_56:=n2_;have BK682:=n3_;have HB:=n4_;have HO703:=n5_;clear n0_ n1_ n2_ n3_ n4_ n5_;clear ho hb hg hat))
                   go_roundg k4
                   case measure=>have:=HK1.out;have:=HK2.out;have:=HJ32.out;have:=HK4.out;omega
                   case rel=>exact ⟨(y701),(Go.bits .or .i64 x9_2 x12_4),(wrap64 (x41_2+1)),(by first|rfl|(simp;done)|(simp [*];done)),(by first|rfl|(simp;done)|(simp [*];done)),H',⟨by have:=HK1.out;have:=HK2.out;have:=HJ32.out;have:=HK4.out;omega⟩,⟨by (with_reducible repeat (first|apply Kd.R_alloc|apply Kd.R_drewN|apply Kd.R_drew));exact Kd.R_mono HO_5.out (fun _ hk=>hk.2)⟩,⟨by (with_reducible repeat (first|apply Kd.R_alloc|apply Kd.R_drewN|apply Kd.R_drew));exact Kd.R_mono HO703.out (fun _ hk=>⟨hk.1,hk.2.1⟩)⟩,⟨by (with_reducible repeat (first|apply Kd.R_alloc|apply Kd.R_drewN|apply Kd.R_drew));exact Kd.R_mono HO_39.out (fun _ hk=>hk.2)⟩,⟨by (with_reducible repeat (first|refine kN ?_ _|refine kD ?_|refine kA ?_ _));exact BK682.out⟩,⟨by repeat (first|(with_reducible first|exact HB.out|apply wA|apply wN|apply wD|refine wS ?_ GE682.out)|exact HB.out)⟩⟩
                  ·rw [if_neg c50] at H
                   exact absurd H (by simp)
           ·rw [if_neg c32] at H
            exact absurd H (by simp)
          ·rw [if_neg c31] at H
           exact absurd H (by simp)
         ·rw [if_neg c30] at H
          have c30b0:decide (x41_2 < (x5_1.length:Int))=false:=decide_eq_false c30
          clear c30
          simp only [Option.some.injEq,Prod.mk.injEq] at H
          obtain ⟨rfl,rfl⟩:=H
          go_wp2
          go_ret2
          exact ⟨_,by first|rfl|(simp [errW_none,errW_some] <;> rfl)|(simp [*,errW_none,errW_some] <;> rfl),by (with_reducible repeat (first|apply Kd.R_alloc|apply Kd.R_drewN|apply Kd.R_drew));exact Kd.R_mono HO_8.out (fun _ hk=>trivial),by repeat (first|(with_reducible first|exact HB.out|apply wA|apply wN|apply wD|refine wS ?_ GE682.out)|exact HB.out)⟩
   ·rw [if_neg c5] at H
    exact absurd H (by simp)
  ·rw [if_neg c4] at H
   exact absurd H (by simp)
 ·rw [if_neg c3] at H
  have c3b0:(t683 == 0)=false:=beq_eq_false_iff_ne.mpr c3
  have c3b1:(t683 != 0)=true:=bne_iff_ne.mpr c3
  simp only [Option.some.injEq,Prod.mk.injEq] at H
  obtain ⟨rfl,rfl⟩:=H
  go_enter Try.func39,Try.ntmps39
  go_wp2_with (first|((with_reducible refine gate_dst (N:=1) rfl ?_);refine box_event ?hg (N:=1) ?hd (cs:=#[.slice A0_0 l0_0.length c0_0]) (t:=27) ?hr ?_;(case hd=>rfl);(case hg=>rfl);(case hr=>first|(go_simp;done)|(go_simp;rfl));intro gb682 hg w52 hbox hb;have n0_:=Aside0.mk (below_step (by repeat (first|(with_reducible first|exact HB.out|apply wA|apply wN|apply wD)|exact HB.out)) hb);have n1_:=Aside0.mk (hbox);have n2_:=Aside0.mk ((by rw [hg];exact (below_size (by repeat (first|(with_reducible first|exact HB.out|apply wA|apply wN|apply wD)|exact HB.out))):w.heap.size≤gb682));have n3_:=Aside0.mk ((by rw [hg];exact (below_size (by repeat (first|(with_reducible first|exact HB.out|apply wA|apply wN|apply wD)|exact HB.out))):w.heap.size≤gb682));clear HB;have HB:=n0_;have BK682:=n1_;have GW682:=n2_;have GE682:=n3_;clear n0_ n1_ n2_ n3_;clear hb hbox hg;have hcz53_0:w52.cell? ⟨gb682,0,none⟩=some (.slice A0_0 l0_0.length c0_0):=(kC BK682.out 0).trans rfl;have hfz53_0:=kF BK682.out 0)|((with_reducible refine gate_callee (f:=63) rfl ?_);refine goesL_ (some 16) rfl rfl Try.func63 (by kernel_rfl) rfl #[.agg #[.slice A0_0 l0_0.length c0_0]] rfl (by (try simp only [List.map_toArray,List.map_cons,List.map_nil]);first|done|rfl|(simp only [List.length_drop,List.length_take];rfl)) ?_;(with_reducible refine (configuration_Valid.calls k _ _ l0_0 t683 _ ?side1 ?side2 A2.out).mono ?_);(case side1=>repeat (first|exact (Kd.C_below HR0_0.out HB.out)|(with_reducible refine Kd.C_alloc ?_ _)|(with_reducible refine Kd.C_drewN ?_ _)|(with_reducible refine Kd.C_drew ?_)));(case side2=>exact HC0_0.out);rintro e w54 ⟨rfl,hb⟩;refine ⟨_,rfl,?_⟩;have n0_:=Aside0.mk (blk_below (g:=gb682) (o:=.cells #[.slice A0_0 l0_0.length c0_0] 27 (0,0)) (by (with_reducible repeat (first|refine kN ?_ _|refine kD ?_|refine kA ?_ _));exact BK682.out) hb);have n1_:=Aside0.mk (below_step (by repeat (first|(with_reducible first|exact HB.out|apply wA|apply wN|apply wD|refine wS ?_ GE682.out)|exact HB.out)) hb);clear BK682;clear HB;have BK682:=n0_;have HB:=n1_;clear n0_ n1_;(try clear hb);(try clear hb2);(try clear hk);(try clear hi)))
  go_ret2
  exact ⟨_,by first|rfl|(simp [errW_none,errW_some] <;> rfl)|(simp [*,errW_none,errW_some] <;> rfl),by first|exact Kd.R_nil _ _ _ _ _|exact Kd.N_nil _ _ _ _ _|exact Kd.V_nil _ _ _ _ _|exact Kd.Q_nil _ _ _ _ _|exact Kd.S_nil _ _ _ _ _,by repeat (first|(with_reducible first|exact HB.out|apply wA|apply wN|apply wD|refine wS ?_ GE682.out)|exact HB.out)⟩
def quorums_Count.f (k:Nat) (l0_0:List (S34)):Option (Int × Int):=(configuration_Valid.f k l0_0).bind fun t705=>(if t705=0 then ((quorums_all.f k l0_0).bind fun t706=>(some ((t706.length:Int),0))) else (some (0,t705)))
set_option maxHeartbeats 8000000 in
set_option maxRecDepth 100000 in
theorem quorums_Count.calls (k:Nat) (A0_0:Option Addr) (c0_0:Nat) (l0_0:List (S34)) (r1:Int) (r2:Int) (w:World) (hr0_0:Kd.C k34 w A0_0 l0_0.length l0_0) (hc0_0:l0_0.length≤c0_0) (h:quorums_Count.f k l0_0=some (r1,r2)) :
  Calls Try.prog 41 #[.agg #[.slice A0_0 l0_0.length c0_0]] w fun e w'=>e=.returned (.tuple #[.int .i64 r1,.int .i64 r2])∧Below w.heap.size w w':=by
 have hu27:=Try.underlying27
 have HR0_0:=Aside0.mk hr0_0
 have HC0_0:=Aside0.mk hc0_0
 clear hr0_0 hc0_0
 have HB:=Aside0.mk (Below.refl w.heap.size w)
 have H:((configuration_Valid.f k l0_0).bind fun t705=>(if t705=0 then ((quorums_all.f k l0_0).bind fun t706=>(some ((t706.length:Int),0))) else (some (0,t705))))=some (r1,r2):=h
 clear h
 replace H:=Option.bind_eq_some_iff.mp H
 obtain ⟨t705,A20,H⟩:=H
 replace H:(if t705=0 then ((quorums_all.f k l0_0).bind fun t706=>(some ((t706.length:Int),0))) else (some (0,t705)))=some (r1,r2):=H
 have A2:=Aside0.mk A20
 clear A20
 by_cases c3:t705=0
 ·rw [if_pos c3] at H
  have c3b0:(t705 == 0)=true:=beq_iff_eq.mpr c3
  have c3b1:(t705 != 0)=false:=bne_eq_false_iff_eq.mpr c3
  clear c3
  replace H:=Option.bind_eq_some_iff.mp H
  obtain ⟨t706,A40,H⟩:=H
  replace H:(some ((t706.length:Int),0))=some (r1,r2):=H
  have A4:=Aside0.mk A40
  clear A40
  simp only [Option.some.injEq,Prod.mk.injEq] at H
  obtain ⟨rfl,rfl⟩:=H
  go_enter Try.func41,Try.ntmps41
  go_wp2_with (first|((with_reducible refine gate_dst (N:=1) rfl ?_);refine box_event ?hg (N:=1) ?hd (cs:=#[.slice A0_0 l0_0.length c0_0]) (t:=27) ?hr ?_;(case hd=>rfl);(case hg=>rfl);(case hr=>first|(go_simp;done)|(go_simp;rfl));intro gb704 hg w5 hbox hb;have n0_:=Aside0.mk (below_step (by repeat (first|(with_reducible first|exact HB.out|apply wA|apply wN|apply wD)|exact HB.out)) hb);have n1_:=Aside0.mk (hbox);have n2_:=Aside0.mk ((by rw [hg];exact (below_size (by repeat (first|(with_reducible first|exact HB.out|apply wA|apply wN|apply wD)|exact HB.out))):w.heap.size≤gb704));have n3_:=Aside0.mk ((by rw [hg];exact (below_size (by repeat (first|(with_reducible first|exact HB.out|apply wA|apply wN|apply wD)|exact HB.out))):w.heap.size≤gb704));clear HB;have HB:=n0_;have BK704:=n1_;have GW704:=n2_;have GE704:=n3_;clear n0_ n1_ n2_ n3_;clear hb hbox hg;have hcz6_0:w5.cell? ⟨gb704,0,none⟩=some (.slice A0_0 l0_0.length c0_0):=(kC BK704.out 0).trans rfl;have hfz6_0:=kF BK704.out 0)|((with_reducible refine gate_callee (f:=63) rfl ?_);refine goesL_ (some 6) rfl rfl Try.func63 (by kernel_rfl) rfl #[.agg #[.slice A0_0 l0_0.length c0_0]] rfl (by (try simp only [List.map_toArray,List.map_cons,List.map_nil]);first|done|rfl|(simp only [List.length_drop,List.length_take];rfl)) ?_;(with_reducible refine (configuration_Valid.calls k _ _ l0_0 t705 _ ?side1 ?side2 A2.out).mono ?_);(case side1=>repeat (first|exact (Kd.C_below HR0_0.out HB.out)|(with_reducible refine Kd.C_alloc ?_ _)|(with_reducible refine Kd.C_drewN ?_ _)|(with_reducible refine Kd.C_drew ?_)));(case side2=>exact HC0_0.out);rintro e w7 ⟨rfl,hb⟩;refine ⟨_,rfl,?_⟩;have n0_:=Aside0.mk (blk_below (g:=gb704) (o:=.cells #[.slice A0_0 l0_0.length c0_0] 27 (0,0)) (by (with_reducible repeat (first|refine kN ?_ _|refine kD ?_|refine kA ?_ _));exact BK704.out) hb);have n1_:=Aside0.mk (below_step (by repeat (first|(with_reducible first|exact HB.out|apply wA|apply wN|apply wD|refine wS ?_ GE704.out)|exact HB.out)) hb);clear BK704;clear HB;have BK704:=n0_;have HB:=n1_;clear n0_ n1_;(try clear hb);(try clear hb2);(try clear hk);(try clear hi);have hcz8_0:w7.cell? ⟨gb704,0,none⟩=some (.slice A0_0 l0_0.length c0_0):=(kC BK704.out 0).trans rfl;have hfz8_0:=kF BK704.out 0)|((with_reducible refine gate_callee (f:=75) rfl ?_);refine goesL_ (some 11) rfl rfl Try.func75 (by kernel_rfl) rfl #[.agg #[.slice A0_0 l0_0.length c0_0]] rfl (by (try simp only [List.map_toArray,List.map_cons,List.map_nil]);first|done|rfl|(simp only [List.length_drop,List.length_take];rfl)) ?_;(with_reducible refine (quorums_all.calls k _ _ l0_0 t706 _ ?side1 ?side2 A4.out).mono ?_);(case side1=>repeat (first|exact (Kd.C_below HR0_0.out HB.out)|(with_reducible refine Kd.C_alloc ?_ _)|(with_reducible refine Kd.C_drewN ?_ _)|(with_reducible refine Kd.C_drew ?_)));(case side2=>exact HC0_0.out);rintro e w9 ⟨v707,rfl,ho0,hb⟩;refine ⟨_,rfl,?_⟩;have n0_:=Aside0.mk (Kd.R_lower ho0 (below_size (by repeat (first|(with_reducible first|exact HB.out|apply wA|apply wN|apply wD|refine wS ?_ GE704.out)|exact HB.out))));have n1_:=Aside0.mk (blk_below (g:=gb704) (o:=.cells #[.slice A0_0 l0_0.length c0_0] 27 (0,0)) (by (with_reducible repeat (first|refine kN ?_ _|refine kD ?_|refine kA ?_ _));exact BK704.out) hb);have n2_:=Aside0.mk (below_step (by repeat (first|(with_reducible first|exact HB.out|apply wA|apply wN|apply wD|refine wS ?_ GE704.out)|exact HB.out)) hb);clear BK704;clear HB;have HO708:=n0_;have BK704:=n1_;have HB:=n2_;clear n0_ n1_ n2_;(try clear hb);(try clear hb2);(try clear hk);(try clear hi);(try clear ho0);obtain ⟨Ao10,co10,eo10⟩:=Kd.R_slice HO708.out;subst eo10))
  go_ret2
  exact ⟨by first|rfl|(simp [errW_none,errW_some] <;> rfl)|(simp [*,errW_none,errW_some] <;> rfl),by repeat (first|(with_reducible first|exact HB.out|apply wA|apply wN|apply wD|refine wS ?_ GE704.out)|exact HB.out)⟩
 ·rw [if_neg c3] at H
  have c3b0:(t705 == 0)=false:=beq_eq_false_iff_ne.mpr c3
  have c3b1:(t705 != 0)=true:=bne_iff_ne.mpr c3
  simp only [Option.some.injEq,Prod.mk.injEq] at H
  obtain ⟨rfl,rfl⟩:=H
  go_enter Try.func41,Try.ntmps41
  go_wp2_with (first|((with_reducible refine gate_dst (N:=1) rfl ?_);refine box_event ?hg (N:=1) ?hd (cs:=#[.slice A0_0 l0_0.length c0_0]) (t:=27) ?hr ?_;(case hd=>rfl);(case hg=>rfl);(case hr=>first|(go_simp;done)|(go_simp;rfl));intro gb704 hg w11 hbox hb;have n0_:=Aside0.mk (below_step (by repeat (first|(with_reducible first|exact HB.out|apply wA|apply wN|apply wD)|exact HB.out)) hb);have n1_:=Aside0.mk (hbox);have n2_:=Aside0.mk ((by rw [hg];exact (below_size (by repeat (first|(with_reducible first|exact HB.out|apply wA|apply wN|apply wD)|exact HB.out))):w.heap.size≤gb704));have n3_:=Aside0.mk ((by rw [hg];exact (below_size (by repeat (first|(with_reducible first|exact HB.out|apply wA|apply wN|apply wD)|exact HB.out))):w.heap.size≤gb704));clear HB;have HB:=n0_;have BK704:=n1_;have GW704:=n2_;have GE704:=n3_;clear n0_ n1_ n2_ n3_;clear hb hbox hg;have hcz12_0:w11.cell? ⟨gb704,0,none⟩=some (.slice A0_0 l0_0.length c0_0):=(kC BK704.out 0).trans rfl;have hfz12_0:=kF BK704.out 0)|((with_reducible refine gate_callee (f:=63) rfl ?_);refine goesL_ (some 6) rfl rfl Try.func63 (by kernel_rfl) rfl #[.agg #[.slice A0_0 l0_0.length c0_0]] rfl (by (try simp only [List.map_toArray,List.map_cons,List.map_nil]);first|done|rfl|(simp only [List.length_drop,List.length_take];rfl)) ?_;(with_reducible refine (configuration_Valid.calls k _ _ l0_0 t705 _ ?side1 ?side2 A2.out).mono ?_);(case side1=>repeat (first|exact (Kd.C_below HR0_0.out HB.out)|(with_reducible refine Kd.C_alloc ?_ _)|(with_reducible refine Kd.C_drewN ?_ _)|(with_reducible refine Kd.C_drew ?_)));(case side2=>exact HC0_0.out);rintro e w13 ⟨rfl,hb⟩;refine ⟨_,rfl,?_⟩;have n0_:=Aside0.mk (blk_below (g:=gb704) (o:=.cells #[.slice A0_0 l0_0.length c0_0] 27 (0,0)) (by (with_reducible repeat (first|refine kN ?_ _|refine kD ?_|refine kA ?_ _));exact BK704.out) hb);have n1_:=Aside0.mk (below_step (by repeat (first|(with_reducible first|exact HB.out|apply wA|apply wN|apply wD|refine wS ?_ GE704.out)|exact HB.out)) hb);clear BK704;clear HB;have BK704:=n0_;have HB:=n1_;clear n0_ n1_;(try clear hb);(try clear hb2);(try clear hk);(try clear hi)))
  go_ret2
  exact ⟨by first|rfl|(simp [errW_none,errW_some] <;> rfl)|(simp [*,errW_none,errW_some] <;> rfl),by repeat (first|(with_reducible first|exact HB.out|apply wA|apply wN|apply wD|refine wS ?_ GE704.out)|exact HB.out)⟩
def trustquorumlaw10_awake.f (k:Nat) :Option (Bool):=(trustquorumlaw10_same.f k 3 2).bind fun t709=>((quorums_Minimal.f k t709).bind fun bt712=>((trustquorumlaw10_same.f k 3 2).bind fun t716=>((quorums_Count.f k t716).bind fun bt719=>((trustquorumlaw10_same.f k 3 2).bind fun t721=>((quorums_Parts.f k t721).bind fun bt724=>(if bt712.2=0 then (if bt719.2=0 then (if bt724.2=0 then ((trustquorummake_Ints.f k bt712.1 (([3,5,6]:List Int))).bind fun t731=>(if t731=true then (if bt719.1=4 then ((trustquorummake_Ints.f k bt724.1 (([7]:List Int))).bind fun t735=>(some t735)) else (some false)) else (some false))) else (some false)) else (some false)) else (some false)))))))
set_option maxHeartbeats 8000000 in
set_option maxRecDepth 100000 in
theorem trustquorumlaw10_awake.calls (k:Nat)  (w:World) (h:trustquorumlaw10_awake.f k =some true) :
  Calls Try.prog 38 #[] w fun e w'=>e=.returned (.bool true)∧Below w.heap.size w w':=by
 have HB:=Aside0.mk (Below.refl w.heap.size w)
 have H:((trustquorumlaw10_same.f k 3 2).bind fun t709=>((quorums_Minimal.f k t709).bind fun bt712=>((trustquorumlaw10_same.f k 3 2).bind fun t716=>((quorums_Count.f k t716).bind fun bt719=>((trustquorumlaw10_same.f k 3 2).bind fun t721=>((quorums_Parts.f k t721).bind fun bt724=>(if bt712.2=0 then (if bt719.2=0 then (if bt724.2=0 then ((trustquorummake_Ints.f k bt712.1 (([3,5,6]:List Int))).bind fun t731=>(if t731=true then (if bt719.1=4 then ((trustquorummake_Ints.f k bt724.1 (([7]:List Int))).bind fun t735=>(some t735)) else (some false)) else (some false))) else (some false)) else (some false)) else (some false))))))))=some true:=h
 clear h
 replace H:=Option.bind_eq_some_iff.mp H
 obtain ⟨t709,A10,H⟩:=H
 replace H:((quorums_Minimal.f k t709).bind fun bt712=>((trustquorumlaw10_same.f k 3 2).bind fun t716=>((quorums_Count.f k t716).bind fun bt719=>((trustquorumlaw10_same.f k 3 2).bind fun t721=>((quorums_Parts.f k t721).bind fun bt724=>(if bt712.2=0 then (if bt719.2=0 then (if bt724.2=0 then ((trustquorummake_Ints.f k bt712.1 (([3,5,6]:List Int))).bind fun t731=>(if t731=true then (if bt719.1=4 then ((trustquorummake_Ints.f k bt724.1 (([7]:List Int))).bind fun t735=>(some t735)) else (some false)) else (some false))) else (some false)) else (some false)) else (some false)))))))=some true:=H
 have A1:=Aside0.mk A10
 clear A10
 replace H:=Option.bind_eq_some_iff.mp H
 obtain ⟨⟨t712,t715⟩,A20,H⟩:=H
 replace H:((trustquorumlaw10_same.f k 3 2).bind fun t716=>((quorums_Count.f k t716).bind fun bt719=>((trustquorumlaw10_same.f k 3 2).bind fun t721=>((quorums_Parts.f k t721).bind fun bt724=>(if t715=0 then (if bt719.2=0 then (if bt724.2=0 then ((trustquorummake_Ints.f k t712 (([3,5,6]:List Int))).bind fun t731=>(if t731=true then (if bt719.1=4 then ((trustquorummake_Ints.f k bt724.1 (([7]:List Int))).bind fun t735=>(some t735)) else (some false)) else (some false))) else (some false)) else (some false)) else (some false))))))=some true:=H
 have A2:=Aside0.mk A20
 clear A20
 replace H:=Option.bind_eq_some_iff.mp H
 obtain ⟨t716,A30,H⟩:=H
 replace H:((quorums_Count.f k t716).bind fun bt719=>((trustquorumlaw10_same.f k 3 2).bind fun t721=>((quorums_Parts.f k t721).bind fun bt724=>(if t715=0 then (if bt719.2=0 then (if bt724.2=0 then ((trustquorummake_Ints.f k t712 (([3,5,6]:List Int))).bind fun t731=>(if t731=true then (if bt719.1=4 then ((trustquorummake_Ints.f k bt724.1 (([7]:List Int))).bind fun t735=>(some t735)) else (some false)) else (some false))) else (some false)) else (some false)) else (some false)))))=some true:=H
 have A3:=Aside0.mk A30
 clear A30
 replace H:=Option.bind_eq_some_iff.mp H
 obtain ⟨⟨t719,t720⟩,A40,H⟩:=H
 replace H:((trustquorumlaw10_same.f k 3 2).bind fun t721=>((quorums_Parts.f k t721).bind fun bt724=>(if t715=0 then (if t720=0 then (if bt724.2=0 then ((trustquorummake_Ints.f k t712 (([3,5,6]:List Int))).bind fun t731=>(if t731=true then (if t719=4 then ((trustquorummake_Ints.f k bt724.1 (([7]:List Int))).bind fun t735=>(some t735)) else (some false)) else (some false))) else (some false)) else (some false)) else (some false))))=some true:=H
 have A4:=Aside0.mk A40
 clear A40
 replace H:=Option.bind_eq_some_iff.mp H
 obtain ⟨t721,A50,H⟩:=H
 replace H:((quorums_Parts.f k t721).bind fun bt724=>(if t715=0 then (if t720=0 then (if bt724.2=0 then ((trustquorummake_Ints.f k t712 (([3,5,6]:List Int))).bind fun t731=>(if t731=true then (if t719=4 then ((trustquorummake_Ints.f k bt724.1 (([7]:List Int))).bind fun t735=>(some t735)) else (some false)) else (some false))) else (some false)) else (some false)) else (some false)))=some true:=H
 have A5:=Aside0.mk A50
 clear A50
 replace H:=Option.bind_eq_some_iff.mp H
 obtain ⟨⟨t724,t727⟩,A60,H⟩:=H
 replace H:(if t715=0 then (if t720=0 then (if t727=0 then ((trustquorummake_Ints.f k t712 (([3,5,6]:List Int))).bind fun t731=>(if t731=true then (if t719=4 then ((trustquorummake_Ints.f k t724 (([7]:List Int))).bind fun t735=>(some t735)) else (some false)) else (some false))) else (some false)) else (some false)) else (some false))=some true:=H
 have A6:=Aside0.mk A60
 clear A60
 by_cases c7:t715=0
 ·rw [if_pos c7] at H
  have c7b0:(t715 == 0)=true:=beq_iff_eq.mpr c7
  have c7b1:(t715 != 0)=false:=bne_eq_false_iff_eq.mpr c7
  clear c7
  by_cases c8:t720=0
  ·rw [if_pos c8] at H
   have c8b0:(t720 == 0)=true:=beq_iff_eq.mpr c8
   have c8b1:(t720 != 0)=false:=bne_eq_false_iff_eq.mpr c8
   clear c8
   by_cases c9:t727=0
   ·rw [if_pos c9] at H
    have c9b0:(t727 == 0)=true:=beq_iff_eq.mpr c9
    have c9b1:(t727 != 0)=false:=bne_eq_false_iff_eq.mpr c9
    clear c9
    obtain ⟨y728,hy728⟩:∃ y_:List Int,y_=(([3,5,6]:List Int)):=⟨_,rfl⟩
    replace H:((trustquorummake_Ints.f k t712 y728).bind fun t731=>(if t731=true then (if t719=4 then ((trustquorummake_Ints.f k t724 (([7]:List Int))).bind fun t735=>(some t735)) else (some false)) else (some false)))=some true:=by first|(rw [hy728];with_reducible exact H)|(have H2_:=(Option.bind_some _ _).symm.trans H;rw [hy728];with_reducible exact H2_)|(have H2_:=(Option.bind_some _ _).symm.trans H;with_reducible exact H2_)|with_reducible exact H|(rw [hy728];exact H)|exact H
    have Ny728:=Aside0.mk hy728
    clear hy728
    replace H:=Option.bind_eq_some_iff.mp H
    obtain ⟨t731,A100,H⟩:=H
    replace H:(if t731=true then (if t719=4 then ((trustquorummake_Ints.f k t724 (([7]:List Int))).bind fun t735=>(some t735)) else (some false)) else (some false))=some true:=H
    have A10:=Aside0.mk A100
    clear A100
    by_cases c11:t731=true
    ·subst c11
     have H1:(if t719=4 then ((trustquorummake_Ints.f k t724 (([7]:List Int))).bind fun t735=>(some t735)) else (some false))=some true:=by rw [if_pos rfl] at H;exact H
     clear H
     have H:=H1
     clear H1
     by_cases c12:t719=4
     ·rw [if_pos c12] at H
      have c12b0:(t719 == 4)=true:=beq_iff_eq.mpr c12
      have c12b1:(t719 != 4)=false:=bne_eq_false_iff_eq.mpr c12
      clear c12
      obtain ⟨y732,hy732⟩:∃ y_:List Int,y_=(([7]:List Int)):=⟨_,rfl⟩
      replace H:((trustquorummake_Ints.f k t724 y732).bind fun t735=>(some t735))=some true:=by first|(rw [hy732];with_reducible exact H)|(have H2_:=(Option.bind_some _ _).symm.trans H;rw [hy732];with_reducible exact H2_)|(have H2_:=(Option.bind_some _ _).symm.trans H;with_reducible exact H2_)|with_reducible exact H|(rw [hy732];exact H)|exact H
      have Ny732:=Aside0.mk hy732
      clear hy732
      replace H:=Option.bind_eq_some_iff.mp H
      obtain ⟨t735,A130,H⟩:=H
      replace H:(some t735)=some true:=H
      have A13:=Aside0.mk A130
      clear A130
      have HT:=Aside0.mk (Option.some.inj H)
      clear H
      go_enter Try.func38,Try.ntmps38
      go_wp2_with (first|((with_reducible refine gate_callee (f:=40) rfl ?_);refine goesL_ (some 8) rfl rfl Try.func40 (by kernel_rfl) rfl #[.int .i64 3,.int .i64 2] rfl (by (try simp only [List.map_toArray,List.map_cons,List.map_nil]);first|done|rfl|(simp only [List.length_drop,List.length_take];rfl)) ?_;(with_reducible refine (trustquorumlaw10_same.calls k 3 2 t709 _ A1.out).mono ?_);rintro e w14 ⟨v710,rfl,ho0,hb⟩;refine ⟨_,rfl,?_⟩;have n0_:=Aside0.mk (Kd.R_lower ho0 (below_size (by repeat (first|(with_reducible first|exact HB.out|apply wA|apply wN|apply wD)|exact HB.out))));have n1_:=Aside0.mk (below_step (by repeat (first|(with_reducible first|exact HB.out|apply wA|apply wN|apply wD)|exact HB.out)) hb);clear HB;have HO711:=n0_;have HB:=n1_;clear n0_ n1_;(try clear hb);(try clear hb2);(try clear hk);(try clear hi);(try clear ho0);obtain ⟨Ao15,co15,eo15⟩:=Kd.R_slice HO711.out;subst eo15)|((with_reducible refine gate_callee (f:=36) rfl ?_);refine goesL_ (some 9) rfl rfl Try.func36 (by kernel_rfl) rfl #[.agg #[.slice Ao15 t709.length co15]] rfl (by (try simp only [List.map_toArray,List.map_cons,List.map_nil]);first|done|rfl|(simp only [List.length_drop,List.length_take];rfl)) ?_;(with_reducible refine (quorums_Minimal.calls k _ _ t709 t712 t715 _ ?side1 ?side2 A2.out).mono ?_);(case side1=>repeat (first|exact (Kd.R_reads' HO711.out).2.2|(with_reducible refine Kd.C_alloc ?_ _)|(with_reducible refine Kd.C_drewN ?_ _)|(with_reducible refine Kd.C_drew ?_)));(case side2=>exact (Kd.R_reads' HO711.out).2.1);rintro e w16 ⟨v713,rfl,ho0,hb⟩;refine ⟨_,rfl,?_⟩;have n0_:=Aside0.mk (Kd.R_elder' (by (with_reducible repeat (first|apply Kd.R_alloc|apply Kd.R_drewN|apply Kd.R_drew));exact HO711.out) (Kd.R_base ho0) hb);have n1_:=Aside0.mk (Kd.R_lower ho0 (below_size (by repeat (first|(with_reducible first|exact HB.out|apply wA|apply wN|apply wD)|exact HB.out))));have n2_:=Aside0.mk (below_step (by repeat (first|(with_reducible first|exact HB.out|apply wA|apply wN|apply wD)|exact HB.out)) hb);clear HO711;clear HB;have HO711:=n0_;have HO714:=n1_;have HB:=n2_;clear n0_ n1_ n2_;(try clear hb);(try clear hb2);(try clear hk);(try clear hi);(try clear ho0))|((with_reducible refine gate_callee (f:=40) rfl ?_);refine goesL_ (some 13) rfl rfl Try.func40 (by kernel_rfl) rfl #[.int .i64 3,.int .i64 2] rfl (by (try simp only [List.map_toArray,List.map_cons,List.map_nil]);first|done|rfl|(simp only [List.length_drop,List.length_take];rfl)) ?_;(with_reducible refine (trustquorumlaw10_same.calls k 3 2 t716 _ A3.out).mono ?_);rintro e w17 ⟨v717,rfl,ho0,hb⟩;refine ⟨_,rfl,?_⟩;have n0_:=Aside0.mk (Kd.R_elder' (by (with_reducible repeat (first|apply Kd.R_alloc|apply Kd.R_drewN|apply Kd.R_drew));exact HO711.out) (Kd.R_base ho0) hb);have n1_:=Aside0.mk (Kd.R_below (by (with_reducible repeat (first|apply Kd.R_alloc|apply Kd.R_drewN|apply Kd.R_drew));exact HO714.out) hb);have n2_:=Aside0.mk (Kd.R_lower (Kd.R_new' (Kd.R_new' ho0 (Kd.R_lt (by (with_reducible repeat (first|apply Kd.R_alloc|apply Kd.R_drewN|apply Kd.R_drew));exact HO711.out))) (Kd.R_lt (by (with_reducible repeat (first|apply Kd.R_alloc|apply Kd.R_drewN|apply Kd.R_drew));exact HO714.out))) (below_size (by repeat (first|(with_reducible first|exact HB.out|apply wA|apply wN|apply wD)|exact HB.out))));have n3_:=Aside0.mk (below_step (by repeat (first|(with_reducible first|exact HB.out|apply wA|apply wN|apply wD)|exact HB.out)) hb);clear HO711;clear HO714;clear HB;have HO711:=n0_;have HO714:=n1_;have HO718:=n2_;have HB:=n3_;clear n0_ n1_ n2_ n3_;(try clear hb);(try clear hb2);(try clear hk);(try clear hi);(try clear ho0);obtain ⟨Ao18,co18,eo18⟩:=Kd.R_slice HO718.out;subst eo18)|((with_reducible refine gate_callee (f:=41) rfl ?_);refine goesL_ (some 14) rfl rfl Try.func41 (by kernel_rfl) rfl #[.agg #[.slice Ao18 t716.length co18]] rfl (by (try simp only [List.map_toArray,List.map_cons,List.map_nil]);first|done|rfl|(simp only [List.length_drop,List.length_take];rfl)) ?_;(with_reducible refine (quorums_Count.calls k _ _ t716 t719 t720 _ ?side1 ?side2 A4.out).mono ?_);(case side1=>repeat (first|exact (Kd.R_reads' HO718.out).2.2|(with_reducible refine Kd.C_alloc ?_ _)|(with_reducible refine Kd.C_drewN ?_ _)|(with_reducible refine Kd.C_drew ?_)));(case side2=>exact (Kd.R_reads' HO718.out).2.1);rintro e w19 ⟨rfl,hb⟩;refine ⟨_,rfl,?_⟩;have n0_:=Aside0.mk (Kd.R_below (by (with_reducible repeat (first|apply Kd.R_alloc|apply Kd.R_drewN|apply Kd.R_drew));exact HO711.out) hb);have n1_:=Aside0.mk (Kd.R_below (by (with_reducible repeat (first|apply Kd.R_alloc|apply Kd.R_drewN|apply Kd.R_drew));exact HO714.out) hb);have n2_:=Aside0.mk (Kd.R_below (by (with_reducible repeat (first|apply Kd.R_alloc|apply Kd.R_drewN|apply Kd.R_drew));exact HO718.out) hb);have n3_:=Aside0.mk (below_step (by repeat (first|(with_reducible first|exact HB.out|apply wA|apply wN|apply wD)|exact HB.out)) hb);clear HO711;clear HO714;clear HO718;clear HB;have HO711:=n0_;have HO714:=n1_;have HO718:=n2_;have HB:=n3_;clear n0_ n1_ n2_ n3_;(try clear hb);(try clear hb2);(try clear hk);(try clear hi))|((with_reducible refine gate_callee (f:=40) rfl ?_);refine goesL_ (some 18) rfl rfl Try.func40 (by kernel_rfl) rfl #[.int .i64 3,.int .i64 2] rfl (by (try simp only [List.map_toArray,List.map_cons,List.map_nil]);first|done|rfl|(simp only [List.length_drop,List.length_take];rfl)) ?_;(with_reducible refine (trustquorumlaw10_same.calls k 3 2 t721 _ A5.out).mono ?_);rintro e w20 ⟨v722,rfl,ho0,hb⟩;refine ⟨_,rfl,?_⟩;have n0_:=Aside0.mk (Kd.R_elder' (by (with_reducible repeat (first|apply Kd.R_alloc|apply Kd.R_drewN|apply Kd.R_drew));exact HO711.out) (Kd.R_base ho0) hb);have n1_:=Aside0.mk (Kd.R_below (by (with_reducible repeat (first|apply Kd.R_alloc|apply Kd.R_drewN|apply Kd.R_drew));exact HO714.out) hb);have n2_:=Aside0.mk (Kd.R_elder' (by (with_reducible repeat (first|apply Kd.R_alloc|apply Kd.R_drewN|apply Kd.R_drew));exact HO718.out) (Kd.R_base ho0) hb);have n3_:=Aside0.mk (Kd.R_lower (Kd.R_new' (Kd.R_new' (Kd.R_new' ho0 (Kd.R_lt (by (with_reducible repeat (first|apply Kd.R_alloc|apply Kd.R_drewN|apply Kd.R_drew));exact HO711.out))) (Kd.R_lt (by (with_reducible repeat (first|apply Kd.R_alloc|apply Kd.R_drewN|apply Kd.R_drew));exact HO714.out))) (Kd.R_lt (by (with_reducible repeat (first|apply Kd.R_alloc|apply Kd.R_drewN|apply Kd.R_drew));exact HO718.out))) (below_size (by repeat (first|(with_reducible first|exact HB.out|apply wA|apply wN|apply wD)|exact HB.out))));have n4_:=Aside0.mk (below_step (by repeat (first|(with_reducible first|exact HB.out|apply wA|apply wN|apply wD)|exact HB.out)) hb);clear HO711;clear HO714;clear HO718;clear HB;have HO711:=n0_;have HO714:=n1_;have HO718:=n2_;have HO723:=n3_;have HB:=n4_;clear n0_ n1_ n2_ n3_ n4_;(try clear hb);(try clear hb2);(try clear hk);(try clear hi);(try clear ho0);obtain ⟨Ao21,co21,eo21⟩:=Kd.R_slice HO723.out;subst eo21)|((with_reducible refine gate_callee (f:=39) rfl ?_);refine goesL_ (some 19) rfl rfl Try.func39 (by kernel_rfl) rfl #[.agg #[.slice Ao21 t721.length co21]] rfl (by (try simp only [List.map_toArray,List.map_cons,List.map_nil]);first|done|rfl|(simp only [List.length_drop,List.length_take];rfl)) ?_;(with_reducible refine (quorums_Parts.calls k _ _ t721 t724 t727 _ ?side1 ?side2 A6.out).mono ?_);(case side1=>repeat (first|exact (Kd.R_reads' HO723.out).2.2|(with_reducible refine Kd.C_alloc ?_ _)|(with_reducible refine Kd.C_drewN ?_ _)|(with_reducible refine Kd.C_drew ?_)));(case side2=>exact (Kd.R_reads' HO723.out).2.1);rintro e w22 ⟨v725,rfl,ho0,hb⟩;refine ⟨_,rfl,?_⟩;have n0_:=Aside0.mk (Kd.R_elder' (by (with_reducible repeat (first|apply Kd.R_alloc|apply Kd.R_drewN|apply Kd.R_drew));exact HO711.out) (Kd.R_base ho0) hb);have n1_:=Aside0.mk (Kd.R_elder' (by (with_reducible repeat (first|apply Kd.R_alloc|apply Kd.R_drewN|apply Kd.R_drew));exact HO714.out) (Kd.R_base ho0) hb);have n2_:=Aside0.mk (Kd.R_elder' (by (with_reducible repeat (first|apply Kd.R_alloc|apply Kd.R_drewN|apply Kd.R_drew));exact HO718.out) (Kd.R_base ho0) hb);have n3_:=Aside0.mk (Kd.R_elder' (by (with_reducible repeat (first|apply Kd.R_alloc|apply Kd.R_drewN|apply Kd.R_drew));exact HO723.out) (Kd.R_base ho0) hb);have n4_:=Aside0.mk (Kd.R_lower (Kd.R_new' ho0 (Kd.R_lt (by (with_reducible repeat (first|apply Kd.R_alloc|apply Kd.R_drewN|apply Kd.R_drew));exact HO714.out))) (below_size (by repeat (first|(with_reducible first|exact HB.out|apply wA|apply wN|apply wD)|exact HB.out))));have n5_:=Aside0.mk (below_step (by repeat (first|(with_reducible first|exact HB.out|apply wA|apply wN|apply wD)|exact HB.out)) hb);clear HO711;clear HO714;clear HO718;clear HO723;clear HB;have HO711:=n0_;have HO714:=n1_;have HO718:=n2_;have HO723:=n3_;have HO726:=n4_;have HB:=n5_;clear n0_ n1_ n2_ n3_ n4_ n5_;(try clear hb);(try clear hb2);(try clear hk);(try clear hi);(try clear ho0))|((with_reducible refine gate_dst (N:=34) rfl ?_);(try (refine gate_guard (by rfl) ?_;dsimp only));refine Kd.R_lit (Kd.int .i64) _ 3 ?hg (N:=34) ?hd (xs:=([3,5,6]:List Int)) (inner:=[.int .i64 3,.int .i64 5,.int .i64 6]) (ok:=fun _=>True) (okp:=fun _=>True) ?hr ?hp (fun _ hk=>hk) trivial (Below.refl _ _) (Nat.le_refl _) (by simp) ?_;(case hd=>rfl);(case hg=>rfl);(case hr=>first|(go_simp;done)|(go_simp;rfl));(case hp=>exact (Reps.one (show Kd.M (Kd.int .i64) _ _ _ 3 [.int .i64 3] from rfl) (Reps.one (show Kd.M (Kd.int .i64) _ _ _ 5 [.int .i64 5] from rfl) (Reps.one (show Kd.M (Kd.int .i64) _ _ _ 6 [.int .i64 6] from rfl) (Reps.none _ _)))));intro v729 w23 ho24 hb hg_ hnew_;clear hg_ hnew_;(first|rw [← Ny728.out] at ho24|(simp only [Int.reduceToNat] at ho24;rw [← Ny728.out] at ho24));have n0_:=Aside0.mk (Kd.R_elder' (by (with_reducible repeat (first|apply Kd.R_alloc|apply Kd.R_drewN|apply Kd.R_drew));exact HO711.out) (Kd.R_base ho24) hb);have n1_:=Aside0.mk (Kd.R_elder' (by (with_reducible repeat (first|apply Kd.R_alloc|apply Kd.R_drewN|apply Kd.R_drew));exact HO714.out) (Kd.R_base ho24) hb);have n2_:=Aside0.mk (Kd.R_elder' (by (with_reducible repeat (first|apply Kd.R_alloc|apply Kd.R_drewN|apply Kd.R_drew));exact HO718.out) (Kd.R_base ho24) hb);have n3_:=Aside0.mk (Kd.R_elder' (by (with_reducible repeat (first|apply Kd.R_alloc|apply Kd.R_drewN|apply Kd.R_drew));exact HO723.out) (Kd.R_base ho24) hb);have n4_:=Aside0.mk (Kd.R_elder' (by (with_reducible repeat (first|apply Kd.R_alloc|apply Kd.R_drewN|apply Kd.R_drew));exact HO726.out) (Kd.R_base ho24) hb);have n5_:=Aside0.mk (Kd.R_lower (Kd.R_new' (Kd.R_new' ho24 (Kd.R_lt (by (with_reducible repeat (first|apply Kd.R_alloc|apply Kd.R_drewN|apply Kd.R_drew));exact HO714.out))) (Kd.R_lt (by (with_reducible repeat (first|apply Kd.R_alloc|apply Kd.R_drewN|apply Kd.R_drew));exact HO726.out))) (below_size (by repeat (first|(with_reducible first|exact HB.out|apply wA|apply wN|apply wD)|exact HB.out))));have n6_:=Aside0.mk (below_step (by repeat (first|(with_reducible first|exact HB.out|apply wA|apply wN|apply wD)|exact HB.out)) hb);clear HO711;clear HO714;clear HO718;clear HO723;clear HO726;clear HB;have HO711:=n0_;have HO714:=n1_;have HO718:=n2_;have HO723:=n3_;have HO726:=n4_;have HO730:=n5_;have HB:=n6_;clear n0_ n1_ n2_ n3_ n4_ n5_ n6_;clear hb ho24;obtain ⟨Ao25,co25,eo25⟩:=Kd.R_slice HO714.out;subst eo25;obtain ⟨Ao26,co26,eo26⟩:=Kd.R_slice HO730.out;subst eo26)|(go_at_call 22;(with_reducible refine (trustquorummake_Ints.calls k _ _ t712 _ _ y728 true _ ?side1 ?side2 ?side3 ?side4 A10.out).mono ?_);(case side1=>repeat (first|exact (Kd.R_reads' HO714.out).2.2|(with_reducible refine Kd.C_alloc ?_ _)|(with_reducible refine Kd.C_drewN ?_ _)|(with_reducible refine Kd.C_drew ?_)));(case side2=>exact (Kd.R_reads' HO714.out).2.1);(case side3=>repeat (first|exact (Kd.R_reads' HO730.out).2.2|(with_reducible refine Kd.C_alloc ?_ _)|(with_reducible refine Kd.C_drewN ?_ _)|(with_reducible refine Kd.C_drew ?_)));(case side4=>exact (Kd.R_reads' HO730.out).2.1);rintro e w' ⟨rfl,⟨nd,rfl⟩⟩)|((with_reducible refine gate_dst (N:=43) rfl ?_);(try (refine gate_guard (by rfl) ?_;dsimp only));refine Kd.R_lit (Kd.int .i64) _ 3 ?hg (N:=43) ?hd (xs:=([7]:List Int)) (inner:=[.int .i64 7]) (ok:=fun _=>True) (okp:=fun _=>True) ?hr ?hp (fun _ hk=>hk) trivial (Below.refl _ _) (Nat.le_refl _) (by simp) ?_;(case hd=>rfl);(case hg=>rfl);(case hr=>first|(go_simp;done)|(go_simp;rfl));(case hp=>exact (Reps.one (show Kd.M (Kd.int .i64) _ _ _ 7 [.int .i64 7] from rfl) (Reps.none _ _)));intro v733 w27 ho28 hb hg_ hnew_;clear hg_ hnew_;(first|rw [← Ny732.out] at ho28|(simp only [Int.reduceToNat] at ho28;rw [← Ny732.out] at ho28));have n0_:=Aside0.mk (Kd.R_elder' (by (with_reducible repeat (first|apply Kd.R_alloc|apply Kd.R_drewN|apply Kd.R_drew));exact HO711.out) (Kd.R_base ho28) hb);have n1_:=Aside0.mk (Kd.R_elder' (by (with_reducible repeat (first|apply Kd.R_alloc|apply Kd.R_drewN|apply Kd.R_drew));exact HO714.out) (Kd.R_base ho28) hb);have n2_:=Aside0.mk (Kd.R_elder' (by (with_reducible repeat (first|apply Kd.R_alloc|apply Kd.R_drewN|apply Kd.R_drew));exact HO718.out) (Kd.R_base ho28) hb);have n3_:=Aside0.mk (Kd.R_elder' (by (with_reducible repeat (first|apply Kd.R_alloc|apply Kd.R_drewN|apply Kd.R_drew));exact HO723.out) (Kd.R_base ho28) hb);have n4_:=Aside0.mk (Kd.R_elder' (by (with_reducible repeat (first|apply Kd.R_alloc|apply Kd.R_drewN|apply Kd.R_drew));exact HO726.out) (Kd.R_base ho28) hb);have n5_:=Aside0.mk (Kd.R_elder' (by (with_reducible repeat (first|apply Kd.R_alloc|apply Kd.R_drewN|apply Kd.R_drew));exact HO730.out) (Kd.R_base ho28) hb);have n6_:=Aside0.mk (Kd.R_lower (Kd.R_new' (Kd.R_new' (Kd.R_new' ho28 (Kd.R_lt (by (with_reducible repeat (first|apply Kd.R_alloc|apply Kd.R_drewN|apply Kd.R_drew));exact HO714.out))) (Kd.R_lt (by (with_reducible repeat (first|apply Kd.R_alloc|apply Kd.R_drewN|apply Kd.R_drew));exact HO726.out))) (Kd.R_lt (by (with_reducible repeat (first|apply Kd.R_alloc|apply Kd.R_drewN|apply Kd.R_drew));exact HO730.out))) (below_size (by repeat (first|(with_reducible first|exact HB.out|apply wA|apply wN|apply wD)|exact HB.out))));have n7_:=Aside0.mk (below_step (by repeat (first|(with_reducible first|exact HB.out|apply wA|apply wN|apply wD)|exact HB.out)) hb);clear HO711;clear HO714;clear HO718;clear HO723;clear HO726;clear HO730;clear HB;have HO711:=n0_;have HO714:=n1_;have HO718:=n2_;have HO723:=n3_;have HO726:=n4_;have HO730:=n5_;have HO734:=n6_;have HB:=n7_;clear n0_ n1_ n2_ n3_ n4_ n5_ n6_ n7_;clear hb ho28;obtain ⟨Ao29,co29,eo29⟩:=Kd.R_slice HO726.out;subst eo29;obtain ⟨Ao30,co30,eo30⟩:=Kd.R_slice HO734.out;subst eo30)|(go_at_call 22;(with_reducible refine (trustquorummake_Ints.calls k _ _ t724 _ _ y732 t735 _ ?side1 ?side2 ?side3 ?side4 A13.out).mono ?_);(case side1=>repeat (first|exact (Kd.R_reads' HO726.out).2.2|(with_reducible refine Kd.C_alloc ?_ _)|(with_reducible refine Kd.C_drewN ?_ _)|(with_reducible refine Kd.C_drew ?_)));(case side2=>exact (Kd.R_reads' HO726.out).2.1);(case side3=>repeat (first|exact (Kd.R_reads' HO734.out).2.2|(with_reducible refine Kd.C_alloc ?_ _)|(with_reducible refine Kd.C_drewN ?_ _)|(with_reducible refine Kd.C_drew ?_)));(case side4=>exact (Kd.R_reads' HO734.out).2.1);rintro e w' ⟨rfl,⟨nd,rfl⟩⟩))
      go_ret
      exact ⟨by first|rfl|exact congrArg (fun b_:Bool=>Ending.returned (Value.bool b_)) HT.out|(simp [errW_none,errW_some] <;> rfl)|(simp [*,errW_none,errW_some] <;> rfl),by repeat (first|(with_reducible first|exact HB.out|apply wA|apply wN|apply wD)|exact HB.out)⟩
     ·rw [if_neg c12] at H
      have c12b0:(t719 == 4)=false:=beq_eq_false_iff_ne.mpr c12
      have c12b1:(t719 != 4)=true:=bne_iff_ne.mpr c12
      exact absurd H (by simp)
    ·replace c11:=Bool.eq_false_iff.mpr c11
     subst c11
     have H1:(some false)=some true:=by rw [if_neg (show ¬ (false=true) by decide)] at H;exact H
     clear H
     have H:=H1
     clear H1
     exact absurd H (by simp)
   ·rw [if_neg c9] at H
    have c9b0:(t727 == 0)=false:=beq_eq_false_iff_ne.mpr c9
    have c9b1:(t727 != 0)=true:=bne_iff_ne.mpr c9
    exact absurd H (by simp)
  ·rw [if_neg c8] at H
   have c8b0:(t720 == 0)=false:=beq_eq_false_iff_ne.mpr c8
   have c8b1:(t720 != 0)=true:=bne_iff_ne.mpr c8
   exact absurd H (by simp)
 ·rw [if_neg c7] at H
  have c7b0:(t715 == 0)=false:=beq_eq_false_iff_ne.mpr c7
  have c7b1:(t715 != 0)=true:=bne_iff_ne.mpr c7
  exact absurd H (by simp)
mutual
def trustquorumlaw10_QuorumsParts.j0:Nat→List Int→List Int→Bool→List (S34)→Option (Bool)
 | 0,_,_,_,_=>none
 | k+1,x5,x7,x36,x764000=>if x36=true then (some false) else (trustquorumlaw10_QuorumsParts.l0 k x5 x7 0 x5 (x5.length:Int) 0 x764000)
def trustquorumlaw10_QuorumsParts.l0:Nat→List Int→List Int→Int→List Int→Int→Int→List (S34)→Option (Bool)
 | 0,_,_,_,_,_,_,_=>none
 | k+1,x5,x7,x9,x37,x38,x39,x764000=>if x39 < x38 then (if 0≤x39 then (if x39 < (x37.length:Int) then (if (rd x37 x39)=0 then (some false) else (if (Go.bits .and .i64 x9 (rd x37 x39))=0 then (trustquorumlaw10_QuorumsParts.l0 k x5 x7 (Go.bits .or .i64 x9 (rd x37 x39)) x37 x38 (wrap64 (x39+1)) x764000) else (some false))) else (none)) else (none)) else (trustquorumlaw10_QuorumsParts.l1 k x5 x9 x7 (x7.length:Int) 0 x764000)
def trustquorumlaw10_QuorumsParts.l1:Nat→List Int→Int→List Int→Int→Int→List (S34)→Option (Bool)
 | 0,_,_,_,_,_,_=>none
 | k+1,x5,x9,x55,x56,x57,x764000=>if x57 < x56 then (if 0≤x57 then (if x57 < (x55.length:Int) then (trustquorumlaw10_QuorumsParts.l2 k x5 x9 (rd x55 x57) false x55 x56 x57 x5 (x5.length:Int) 0 x764000) else (none)) else (none)) else ((trustquorumref06_Declared.f k x764000).bind fun t773=>(if x9=t773 then ((trustquorumlaw10_awake.f k).bind fun t774=>(some t774)) else (some false)))
def trustquorumlaw10_QuorumsParts.l2:Nat→List Int→Int→Int→Bool→List Int→Int→Int→List Int→Int→Int→List (S34)→Option (Bool)
 | 0,_,_,_,_,_,_,_,_,_,_,_=>none
 | k+1,x5,x9,x13,x14,x55,x56,x57,x61,x62,x63,x764000=>if x63 < x62 then (if 0≤x63 then (if x63 < (x61.length:Int) then (if x14=true then (trustquorumlaw10_QuorumsParts.l2 k x5 x9 x13 true x55 x56 x57 x61 x62 (wrap64 (x63+1)) x764000) else (trustquorumlaw10_QuorumsParts.l2 k x5 x9 x13 ((Go.bits .and .i64 x13 (rd x61 x63)) == x13) x55 x56 x57 x61 x62 (wrap64 (x63+1)) x764000)) else (none)) else (none)) else (if x14=true then (trustquorumlaw10_QuorumsParts.l1 k x5 x9 x55 x56 (wrap64 (x57+1)) x764000) else (some false))
end
def trustquorumlaw10_QuorumsParts.f (k:Nat) (l0:List Int):Option (Bool):=(trustquorummake_New.f l0).bind fun bt756=>((trustquorummake_Config.f k bt756.1 bt756.2 9).bind fun bt759=>((quorums_Parts.f k bt759.1).bind fun bt764=>((quorums_Minimal.f k bt759.1).bind fun bt768=>(if bt764.2=0 then (trustquorumlaw10_QuorumsParts.j0 k bt764.1 bt768.1 (bt768.2 != 0) bt759.1) else (trustquorumlaw10_QuorumsParts.j0 k bt764.1 bt768.1 true bt759.1)))))
set_option maxHeartbeats 8000000 in
set_option maxRecDepth 100000 in
theorem trustquorumlaw10_QuorumsParts.calls (k:Nat) (A0:Option Addr) (c0:Nat) (l0:List Int) (w:World) (hr0:Kd.C (Kd.int .i64) w A0 l0.length l0) (hc0:l0.length≤c0) (h:trustquorumlaw10_QuorumsParts.f k l0=some true) :
  Calls Try.prog 9 #[.slice A0 l0.length c0] w fun e w'=>e=.returned (.bool true)∧Below w.heap.size w w':=by
 have hu27:=Try.underlying27
 have HR0:=Aside0.mk hr0
 have HC0:=Aside0.mk hc0
 clear hr0 hc0
 have HB:=Aside0.mk (Below.refl w.heap.size w)
 have H:((trustquorummake_New.f l0).bind fun bt756=>((trustquorummake_Config.f k bt756.1 bt756.2 9).bind fun bt759=>((quorums_Parts.f k bt759.1).bind fun bt764=>((quorums_Minimal.f k bt759.1).bind fun bt768=>(if bt764.2=0 then (trustquorumlaw10_QuorumsParts.j0 k bt764.1 bt768.1 (bt768.2 != 0) bt759.1) else (trustquorumlaw10_QuorumsParts.j0 k bt764.1 bt768.1 true bt759.1))))))=some true:=h
 clear h
 replace H:=Option.bind_eq_some_iff.mp H
 obtain ⟨⟨t756,t757⟩,A20,H⟩:=H
 replace H:((trustquorummake_Config.f k t756 t757 9).bind fun bt759=>((quorums_Parts.f k bt759.1).bind fun bt764=>((quorums_Minimal.f k bt759.1).bind fun bt768=>(if bt764.2=0 then (trustquorumlaw10_QuorumsParts.j0 k bt764.1 bt768.1 (bt768.2 != 0) bt759.1) else (trustquorumlaw10_QuorumsParts.j0 k bt764.1 bt768.1 true bt759.1)))))=some true:=H
 have A2:=Aside0.mk A20
 clear A20
 replace H:=Option.bind_eq_some_iff.mp H
 obtain ⟨⟨t759,t762⟩,A30,H⟩:=H
 replace H:((quorums_Parts.f k t759).bind fun bt764=>((quorums_Minimal.f k t759).bind fun bt768=>(if bt764.2=0 then (trustquorumlaw10_QuorumsParts.j0 k bt764.1 bt768.1 (bt768.2 != 0) t759) else (trustquorumlaw10_QuorumsParts.j0 k bt764.1 bt768.1 true t759))))=some true:=H
 have A3:=Aside0.mk A30
 clear A30
 replace H:=Option.bind_eq_some_iff.mp H
 obtain ⟨⟨t764,t767⟩,A40,H⟩:=H
 replace H:((quorums_Minimal.f k t759).bind fun bt768=>(if t767=0 then (trustquorumlaw10_QuorumsParts.j0 k t764 bt768.1 (bt768.2 != 0) t759) else (trustquorumlaw10_QuorumsParts.j0 k t764 bt768.1 true t759)))=some true:=H
 have A4:=Aside0.mk A40
 clear A40
 replace H:=Option.bind_eq_some_iff.mp H
 obtain ⟨⟨t768,t771⟩,A50,H⟩:=H
 replace H:(if t767=0 then (trustquorumlaw10_QuorumsParts.j0 k t764 t768 (t771 != 0) t759) else (trustquorumlaw10_QuorumsParts.j0 k t764 t768 true t759))=some true:=H
 have A5:=Aside0.mk A50
 clear A50
 have HC6:=Aside0.mk H
 clear H
 go_enter Try.func9,Try.ntmps9
 go_upto_region 5 with (first|((with_reducible refine gate_callee (f:=14) rfl ?_);refine goesL_ (some 18) rfl rfl Try.func14 (by kernel_rfl) rfl #[.slice A0 l0.length c0] rfl (by (try simp only [List.map_toArray,List.map_cons,List.map_nil]);first|done|rfl|(simp only [List.length_drop,List.length_take];rfl)) ?_;(with_reducible refine (trustquorummake_New.calls _ _ l0 t756 t757 w _ ?side1 ?side2 ?side3 A2.out).mono ?_);(case side1=>repeat (first|(with_reducible first|exact HB.out|apply wA|apply wN|apply wD)|exact HB.out));(case side2=>exact HR0.out);(case side3=>exact HC0.out);rintro e w7 ⟨g758,rfl,hi,hb,hb2⟩;refine ⟨_,rfl,?_⟩;have n0_:=Aside0.mk (hb);have n1_:=Aside0.mk (hi);clear HB;have HB:=n0_;have HI758:=n1_;clear n0_ n1_;(try clear hb);(try clear hb2);(try clear hk);(try clear hi))|((with_reducible refine gate_callee (f:=15) rfl ?_);refine goesL_ (some 20) rfl rfl Try.func15 (by kernel_rfl) rfl #[.pointer (some ⟨g758,0,none⟩),.int .i64 9] rfl (by (try simp only [List.map_toArray,List.map_cons,List.map_nil]);first|done|rfl|(simp only [List.length_drop,List.length_take];rfl)) ?_;(with_reducible refine (trustquorummake_Config.calls k g758 t756 t757 9 t759 t762 w _ ?side1 ?side2 A3.out).mono ?_);(case side1=>repeat (first|(with_reducible first|exact HI758.out|apply IsS71.alloc|apply IsS71.drewN|apply IsS71.drew|apply IsS71.set_1)|exact HI758.out));(case side2=>repeat (first|(with_reducible first|exact HB.out|apply wA|apply wN|apply wD|refine wS ?_ (IsS71.ge HI758.out))|exact HB.out));rintro e w8 ⟨v760,rfl,ho0,hi,hb,hk⟩;refine ⟨_,rfl,?_⟩;have n0_:=Aside0.mk (Kd.R_lower ho0 (below_size (by repeat (first|(with_reducible first|exact HB.out|apply wA|apply wN|apply wD|refine wS ?_ (IsS71.ge HI758.out))|exact HB.out))));have n1_:=Aside0.mk (hb);have n2_:=Aside0.mk (hi);clear HB;clear HI758;have HO761:=n0_;have HB:=n1_;have HI758:=n2_;clear n0_ n1_ n2_;(try clear hb);(try clear hb2);(try clear hk);(try clear hi);(try clear ho0))|((with_reducible refine gate_dst (N:=4) rfl ?_);refine box_event ?hg (N:=4) ?hd (cs:=#[.slice none 0 0]) (t:=27) ?hr ?_;(case hd=>rfl);(case hg=>rfl);(case hr=>first|(go_simp;done)|(go_simp;rfl));intro gb763 hg w9 hbox hb;have n0_:=Aside0.mk (Kd.R_below (by (with_reducible repeat (first|apply Kd.R_alloc|apply Kd.R_drewN|apply Kd.R_drew));exact HO761.out) hb);have n1_:=Aside0.mk (IsS71.below (by repeat (first|(with_reducible first|exact HI758.out|apply IsS71.alloc|apply IsS71.drewN|apply IsS71.drew|apply IsS71.set_1)|exact HI758.out)) hb);have n2_:=Aside0.mk (below_step (by repeat (first|(with_reducible first|exact HB.out|apply wA|apply wN|apply wD|refine wS ?_ (IsS71.ge HI758.out))|exact HB.out)) hb);have n3_:=Aside0.mk (hbox);have n4_:=Aside0.mk ((by rw [hg];exact (below_size (by repeat (first|(with_reducible first|exact HB.out|apply wA|apply wN|apply wD|refine wS ?_ (IsS71.ge HI758.out))|exact HB.out))):w.heap.size≤gb763));have n5_:=Aside0.mk ((by rw [hg];exact (below_size (by repeat (first|(with_reducible first|exact HB.out|apply wA|apply wN|apply wD|refine wS ?_ (IsS71.ge HI758.out))|exact HB.out))):w.heap.size≤gb763));have n6_:=Aside0.mk ((by rw [hg];exact Nat.ne_of_lt (IsS71.lt (show IsS71 w _ g758 t756 t762 from by repeat (first|(with_reducible first|exact HI758.out|apply IsS71.alloc|apply IsS71.drewN|apply IsS71.drew|apply IsS71.set_1)|exact HI758.out))):g758 ≠ gb763));have n7_:=Aside0.mk ((by rw [hg];exact Nat.ne_of_gt (IsS71.lt (show IsS71 w _ g758 t756 t762 from by repeat (first|(with_reducible first|exact HI758.out|apply IsS71.alloc|apply IsS71.drewN|apply IsS71.drew|apply IsS71.set_1)|exact HI758.out))):gb763 ≠ g758));clear HO761;clear HI758;clear HB;have HO761:=n0_;have HI758:=n1_;have HB:=n2_;have BK763:=n3_;have GW763:=n4_;have GE763:=n5_;have NB758_763:=n6_;have NB763_758:=n7_;clear n0_ n1_ n2_ n3_ n4_ n5_ n6_ n7_;clear hb hbox hg;obtain ⟨Ao10,co10,eo10⟩:=Kd.R_slice HO761.out;subst eo10;have hnb11:=NB763_758.out;have hnc11:=NB758_763.out;have hcz12_0:w9.cell? ⟨gb763,0,none⟩=some (.slice none 0 0):=(kC BK763.out 0).trans rfl;have hfz12_0:=kF BK763.out 0)|((with_reducible refine gate_callee (f:=39) rfl ?_);refine goesL_ (some 23) rfl rfl Try.func39 (by kernel_rfl) rfl #[.agg #[.slice Ao10 t759.length co10]] rfl (by (try simp only [List.map_toArray,List.map_cons,List.map_nil]);first|done|rfl|(simp only [List.length_drop,List.length_take];rfl)) ?_;(with_reducible refine (quorums_Parts.calls k _ _ t759 t764 t767 _ ?side1 ?side2 A4.out).mono ?_);(case side1=>refine (Kd.R_reads' (e:=34) (base:=w.heap.size) (ok:=fun k_=>True) (n:=t759.length) (c:=co10) ?_).2.2;exact (by (with_reducible repeat (first|apply Kd.R_alloc|apply Kd.R_drewN|apply Kd.R_drew));exact (Kd.R_mono (Kd.R_far (p:=⟨gb763,0,none⟩) (Kd.R_types HO761.out BK763.out (by decide)) (fun _ hk=>hk.2) (.slice Ao10 t759.length co10)) (fun _ h_=>h_.1))));(case side2=>exact (Kd.R_reads' HO761.out).2.1);rintro e w13 ⟨v765,rfl,ho0,hb⟩;refine ⟨_,rfl,?_⟩;have n0_:=Aside0.mk (Kd.R_elder' (by (with_reducible repeat (first|apply Kd.R_alloc|apply Kd.R_drewN|apply Kd.R_drew));exact (Kd.R_mono (Kd.R_far (p:=⟨gb763,0,none⟩) (Kd.R_types HO761.out BK763.out (by decide)) (fun _ hk=>hk.2) (.slice Ao10 t759.length co10)) (fun _ h_=>h_.1))) (Kd.R_base ho0) hb);have n1_:=Aside0.mk (Kd.R_lower ho0 (below_size (by repeat (first|(with_reducible first|exact HB.out|apply wA|apply wN|apply wD|refine wS ?_ (IsS71.ge HI758.out)|refine wS ?_ GE763.out)|exact HB.out))));have n2_:=Aside0.mk (IsS71.below (show IsS71 w (w9.setCell ⟨gb763,0,none⟩ (.slice Ao10 t759.length co10)) g758 t756 t762 from by repeat (first|(with_reducible first|exact HI758.out|apply IsS71.alloc|apply IsS71.drewN|apply IsS71.drew|apply IsS71.set_1|refine IsS71.far ?_ NB758_763.out _)|exact HI758.out)) hb);have n3_:=Aside0.mk (blk_below (g:=gb763) (o:=.cells #[.slice Ao10 t759.length co10] 27 (0,0)) (by (with_reducible repeat (first|refine kN ?_ _|refine kD ?_|refine kA ?_ _));refine blk_put (cs:=#[.slice none 0 0]) ?_ 0 _ rfl;(with_reducible repeat (first|refine kN ?_ _|refine kD ?_|refine kA ?_ _));exact BK763.out) hb);have n4_:=Aside0.mk (below_step (by repeat (first|(with_reducible first|exact HB.out|apply wA|apply wN|apply wD|refine wS ?_ (IsS71.ge HI758.out)|refine wS ?_ GE763.out)|exact HB.out)) hb);clear HO761;clear HI758;clear BK763;clear HB;have HO761:=n0_;have HO766:=n1_;have HI758:=n2_;have BK763:=n3_;have HB:=n4_;clear n0_ n1_ n2_ n3_ n4_;(try clear hb);(try clear hb2);(try clear hk);(try clear hi);(try clear ho0);have hcz14_0:w13.cell? ⟨gb763,0,none⟩=some (.slice Ao10 t759.length co10):=(kC BK763.out 0).trans rfl;have hfz14_0:=kF BK763.out 0)|((with_reducible refine gate_callee (f:=36) rfl ?_);refine goesL_ (some 28) rfl rfl Try.func36 (by kernel_rfl) rfl #[.agg #[.slice Ao10 t759.length co10]] rfl (by (try simp only [List.map_toArray,List.map_cons,List.map_nil]);first|done|rfl|(simp only [List.length_drop,List.length_take];rfl)) ?_;(with_reducible refine (quorums_Minimal.calls k _ _ t759 t768 t771 _ ?side1 ?side2 A5.out).mono ?_);(case side1=>repeat (first|exact (Kd.R_reads' HO761.out).2.2|(with_reducible refine Kd.C_alloc ?_ _)|(with_reducible refine Kd.C_drewN ?_ _)|(with_reducible refine Kd.C_drew ?_)));(case side2=>exact (Kd.R_reads' HO761.out).2.1);rintro e w15 ⟨v769,rfl,ho0,hb⟩;refine ⟨_,rfl,?_⟩;have n0_:=Aside0.mk (Kd.R_elder' (by (with_reducible repeat (first|apply Kd.R_alloc|apply Kd.R_drewN|apply Kd.R_drew));exact HO761.out) (Kd.R_base ho0) hb);have n1_:=Aside0.mk (Kd.R_elder' (by (with_reducible repeat (first|apply Kd.R_alloc|apply Kd.R_drewN|apply Kd.R_drew));exact HO766.out) (Kd.R_base ho0) hb);have n2_:=Aside0.mk (Kd.R_lower (Kd.R_new' ho0 (Kd.R_lt (by (with_reducible repeat (first|apply Kd.R_alloc|apply Kd.R_drewN|apply Kd.R_drew));exact HO766.out))) (below_size (by repeat (first|(with_reducible first|exact HB.out|apply wA|apply wN|apply wD|refine wS ?_ (IsS71.ge HI758.out)|refine wS ?_ GE763.out)|exact HB.out))));have n3_:=Aside0.mk (IsS71.below (by repeat (first|(with_reducible first|exact HI758.out|apply IsS71.alloc|apply IsS71.drewN|apply IsS71.drew|apply IsS71.set_1|refine IsS71.far ?_ NB758_763.out _)|exact HI758.out)) hb);have n4_:=Aside0.mk (blk_below (g:=gb763) (o:=.cells #[.slice Ao10 t759.length co10] 27 (0,0)) (by (with_reducible repeat (first|refine kN ?_ _|refine kD ?_|refine kA ?_ _));exact BK763.out) hb);have n5_:=Aside0.mk (below_step (by repeat (first|(with_reducible first|exact HB.out|apply wA|apply wN|apply wD|refine wS ?_ (IsS71.ge HI758.out)|refine wS ?_ GE763.out)|exact HB.out)) hb);clear HO761;clear HO766;clear HI758;clear BK763;clear HB;have HO761:=n0_;have HO766:=n1_;have HO770:=n2_;have HI758:=n3_;have BK763:=n4_;have HB:=n5_;clear n0_ n1_ n2_ n3_ n4_ n5_;(try clear hb);(try clear hb2);(try clear hk);(try clear hi);(try clear ho0)))
 (try simp only [Act.put,List.setIfInBounds_toArray,List.set_cons_zero,List.set_cons_succ])
 go_cut [36] (fun v36 wc=>∃ (kq:Nat) (x36_5:Bool),v36=.bool x36_5∧Aside0 (trustquorumlaw10_QuorumsParts.j0 kq t764 t768 x36_5 t759=some true)∧Aside0 (kq≤k)∧Aside0 (Kd.R (Kd.int .i64) 3 wc w.heap.size (fun k_=>some k_ ≠ (v769:Value).ownBlock) v765 t764)∧Aside0 (Kd.R (Kd.int .i64) 3 wc w.heap.size (fun k_=>some k_ ≠ (v765:Value).ownBlock) v769 t768)∧Aside0 (Kd.R k34 34 wc w.heap.size (fun k_=>some k_ ≠ (v765:Value).ownBlock∧some k_ ≠ (v769:Value).ownBlock) (.slice Ao10 t759.length co10) t759)∧Aside0 (wc.heap[gb763]?=some (.cells #[(.slice Ao10 t759.length co10)] 27 (0,0)))∧Aside0 (Below w.heap.size w wc))
 case first =>
  have H:=HC6.out
  clear HC6
  by_cases c16:t767=0
  ·rw [if_pos c16] at H
   have c16b0:(t767 == 0)=true:=beq_iff_eq.mpr c16
   have c16b1:(t767 != 0)=false:=bne_eq_false_iff_eq.mpr c16
   clear c16
   (first|rw [c16b0]|(simp only [i64_w,i32_w];rw [c16b0])|skip)
   have H':=Aside0.mk H
   clear H
   go_wp2
   go_meet
   case rel=>exact ⟨_,((t771 != 0)),(by first|rfl|(simp;done)|(simp [*];done)),H',⟨by first|omega|exact Nat.le_refl _⟩,⟨by (with_reducible repeat (first|apply Kd.R_alloc|apply Kd.R_drewN|apply Kd.R_drew));exact Kd.R_mono HO766.out (fun _ hk=>hk.2)⟩,⟨by (with_reducible repeat (first|apply Kd.R_alloc|apply Kd.R_drewN|apply Kd.R_drew));exact Kd.R_mono HO770.out (fun _ hk=>hk.2)⟩,⟨by (with_reducible repeat (first|apply Kd.R_alloc|apply Kd.R_drewN|apply Kd.R_drew));exact Kd.R_mono HO761.out (fun _ hk=>⟨hk.1.2,hk.2⟩)⟩,⟨by (with_reducible repeat (first|refine kN ?_ _|refine kD ?_|refine kA ?_ _));exact BK763.out⟩,⟨by repeat (first|(with_reducible first|exact HB.out|apply wA|apply wN|apply wD|refine wS ?_ (IsS71.ge HI758.out)|refine wS ?_ GE763.out)|exact HB.out)⟩⟩
  ·rw [if_neg c16] at H
   have c16b0:(t767 == 0)=false:=beq_eq_false_iff_ne.mpr c16
   have c16b1:(t767 != 0)=true:=bne_iff_ne.mpr c16
   (first|rw [c16b0]|(simp only [i64_w,i32_w];rw [c16b0])|skip)
   have H':=Aside0.mk H
   clear H
   go_wp2
   go_meet
   case rel=>exact ⟨_,(true),(by first|rfl|(simp;done)|(simp [*];done)),H',⟨by first|omega|exact Nat.le_refl _⟩,⟨by (with_reducible repeat (first|apply Kd.R_alloc|apply Kd.R_drewN|apply Kd.R_drew));exact Kd.R_mono HO766.out (fun _ hk=>hk.2)⟩,⟨by (with_reducible repeat (first|apply Kd.R_alloc|apply Kd.R_drewN|apply Kd.R_drew));exact Kd.R_mono HO770.out (fun _ hk=>hk.2)⟩,⟨by (with_reducible repeat (first|apply Kd.R_alloc|apply Kd.R_drewN|apply Kd.R_drew));exact Kd.R_mono HO761.out (fun _ hk=>⟨hk.1.2,hk.2⟩)⟩,⟨by (with_reducible repeat (first|refine kN ?_ _|refine kD ?_|refine kA ?_ _));exact BK763.out⟩,⟨by repeat (first|(with_reducible first|exact HB.out|apply wA|apply wN|apply wD|refine wS ?_ (IsS71.ge HI758.out)|refine wS ?_ GE763.out)|exact HB.out)⟩⟩
 case rest =>
  clear HC6
  try clear c1
  try clear p2
  try clear c3
  try clear c9
  try clear c11
  try clear c14
  try clear c15
  try clear c16
  try clear c16b0
  try clear c16b1
  try clear hcz12_0
  try clear hcz14_0
  try clear hfz12_0
  try clear hfz14_0
  obtain ⟨kq,x36_5,rfl,HA,HJ5,HO_5,HO_7,HO_764000,BK763,HB⟩:=hcut
  cases kq with
  | zero=>exact absurd HA.out (by simp [trustquorumlaw10_QuorumsParts.j0])
  | succ kj5 =>
   have H:=HA.out
   clear HA
   simp only [trustquorumlaw10_QuorumsParts.j0] at H
   by_cases c17:x36_5=true
   ·subst c17
    have H1:(some false)=some true:=by rw [if_pos rfl] at H;exact H
    clear H
    have H:=H1
    clear H1
    exact absurd H (by simp)
   ·replace c17:=Bool.eq_false_iff.mpr c17
    subst c17
    have H1:(trustquorumlaw10_QuorumsParts.l0 kj5 t764 t768 0 t764 (t764.length:Int) 0 t759)=some true:=by rw [if_neg (show ¬ (false=true) by decide)] at H;exact H
    clear H
    have H:=H1
    clear H1
    have H':=Aside0.mk H
    clear H
    obtain ⟨Ao18,co18,eo18⟩:=Kd.R_slice HO_5.out
    subst eo18
    go_wp2
    go_loopg [9,39] kj5 (fun kq v9 v39 w'=>∃ (x9_2:Int) (x39_2:Int),v9=.int .i64 x9_2∧v39=.int .i64 x39_2∧Aside0 (trustquorumlaw10_QuorumsParts.l0 kq t764 t768 x9_2 t764 (t764.length:Int) x39_2 t759=some true)∧Aside0 (kq≤kj5)∧Aside0 (Kd.R (Kd.int .i64) 3 w' w.heap.size (fun k_=>some k_ ≠ (v769:Value).ownBlock) (.slice Ao18 t764.length co18) t764)∧Aside0 (Kd.R (Kd.int .i64) 3 w' w.heap.size (fun k_=>some k_ ≠ ((.slice Ao18 t764.length co18):Value).ownBlock∧some k_ ≠ ((.slice Ao18 t764.length co18):Value).ownBlock) v769 t768)∧Aside0 (Kd.R (Kd.int .i64) 3 w' w.heap.size (fun k_=>some k_ ≠ (v769:Value).ownBlock) (.slice Ao18 t764.length co18) t764)∧Aside0 (Kd.R k34 34 w' w.heap.size (fun k_=>some k_ ≠ ((.slice Ao18 t764.length co18):Value).ownBlock∧some k_ ≠ (v769:Value).ownBlock∧some k_ ≠ ((.slice Ao18 t764.length co18):Value).ownBlock) (.slice Ao10 t759.length co10) t759)∧Aside0 (w'.heap[gb763]?=some (.cells #[(.slice Ao10 t759.length co10)] 27 (0,0)))∧Aside0 (Below w.heap.size w w'))
    case atStart=>exact ⟨(0),(0),(by first|rfl|(simp;done)|(simp [*];done)),(by first|rfl|(simp;done)|(simp [*];done)),H',⟨Nat.le_refl _⟩,⟨by (with_reducible repeat (first|apply Kd.R_alloc|apply Kd.R_drewN|apply Kd.R_drew));exact HO_5.out⟩,⟨by (with_reducible repeat (first|apply Kd.R_alloc|apply Kd.R_drewN|apply Kd.R_drew));exact Kd.R_mono HO_7.out (fun _ hk=>⟨hk,hk⟩)⟩,⟨by (with_reducible repeat (first|apply Kd.R_alloc|apply Kd.R_drewN|apply Kd.R_drew));exact HO_5.out⟩,⟨by (with_reducible repeat (first|apply Kd.R_alloc|apply Kd.R_drewN|apply Kd.R_drew));exact Kd.R_mono HO_764000.out (fun _ hk=>⟨hk.1,⟨hk.2,hk.1⟩⟩)⟩,⟨by (with_reducible repeat (first|refine kN ?_ _|refine kD ?_|refine kA ?_ _));exact BK763.out⟩,⟨by repeat (first|(with_reducible first|exact HB.out|apply wA|apply wN|apply wD|refine wS ?_ GE763.out)|exact HB.out)⟩⟩
    case round =>
     clear H'
     try clear c1
     try clear p2
     try clear c3
     try clear c9
     try clear c11
     try clear c14
     try clear c15
     try clear c16
     try clear c16b0
     try clear c16b1
     try clear c17
     try clear hcz12_0
     try clear hcz14_0
     try clear hfz12_0
     try clear hfz14_0
     try clear p2
     obtain ⟨x9_2,x39_2,rfl,rfl,HA,HK2,HO_5,HO_7,HO_37,HO_764000,BK763,HB⟩:=hrel
     cases gk with
     | zero=>exact absurd HA.out (by simp [trustquorumlaw10_QuorumsParts.l0])
     | succ k2 =>
      have H:=HA.out
      clear HA
      simp only [trustquorumlaw10_QuorumsParts.l0] at H
      by_cases c19:x39_2 < (t764.length:Int)
      ·rw [if_pos c19] at H
       have c19b0:decide (x39_2 < (t764.length:Int))=true:=decide_eq_true c19
       clear c19
       by_cases c20:0≤x39_2
       ·rw [if_pos c20] at H
        have c20b0:decide (0≤x39_2)=true:=decide_eq_true c20
        clear c20
        by_cases c21:x39_2 < (t764.length:Int)
        ·rw [if_pos c21] at H
         have c21b0:decide (x39_2 < (t764.length:Int))=true:=decide_eq_true c21
         clear c21
         by_cases c22:(rd t764 x39_2)=0
         ·rw [if_pos c22] at H
          have c22b0:((rd t764 x39_2) == 0)=true:=beq_iff_eq.mpr c22
          have c22b1:((rd t764 x39_2) != 0)=false:=bne_eq_false_iff_eq.mpr c22
          clear c22
          exact absurd H (by simp)
         ·rw [if_neg c22] at H
          have c22b0:((rd t764 x39_2) == 0)=false:=beq_eq_false_iff_ne.mpr c22
          have c22b1:((rd t764 x39_2) != 0)=true:=bne_iff_ne.mpr c22
          by_cases c23:(Go.bits .and .i64 x9_2 (rd t764 x39_2))=0
          ·rw [if_pos c23] at H
           have c23b0:((Go.bits .and .i64 x9_2 (rd t764 x39_2)) == 0)=true:=beq_iff_eq.mpr c23
           have c23b1:((Go.bits .and .i64 x9_2 (rd t764 x39_2)) != 0)=false:=bne_eq_false_iff_eq.mpr c23
           clear c23
           have H':=Aside0.mk H
           clear H
           have p772:0≤(x39_2:Int):=of_decide_eq_true (by first|(with_reducible assumption)|assumption)
           have q772:x39_2 < (t764.length:Int):=of_decide_eq_true (by first|(with_reducible assumption)|assumption)
           obtain ⟨ad772,e772,hx772_0⟩:=Kd.at_int (Kd.R_reads' HO_37.out).2.2 x39_2 p772 q772
           cases e772
           replace p772:=eq_true p772
           replace q772:=eq_true q772
           go_wp2
           go_roundg k2
           case measure=>have:=HJ5.out;have:=HK2.out;omega
           case rel=>exact ⟨(Go.bits .or .i64 x9_2 (rd t764 x39_2)),(wrap64 (x39_2+1)),(by first|rfl|(simp;done)|(simp [*];done)),(by first|rfl|(simp;done)|(simp [*];done)),H',⟨by have:=HJ5.out;have:=HK2.out;omega⟩,⟨by (with_reducible repeat (first|apply Kd.R_alloc|apply Kd.R_drewN|apply Kd.R_drew));exact HO_5.out⟩,⟨by (with_reducible repeat (first|apply Kd.R_alloc|apply Kd.R_drewN|apply Kd.R_drew));exact HO_7.out⟩,⟨by (with_reducible repeat (first|apply Kd.R_alloc|apply Kd.R_drewN|apply Kd.R_drew));exact HO_37.out⟩,⟨by (with_reducible repeat (first|apply Kd.R_alloc|apply Kd.R_drewN|apply Kd.R_drew));exact HO_764000.out⟩,⟨by (with_reducible repeat (first|refine kN ?_ _|refine kD ?_|refine kA ?_ _));exact BK763.out⟩,⟨by repeat (first|(with_reducible first|exact HB.out|apply wA|apply wN|apply wD|refine wS ?_ GE763.out)|exact HB.out)⟩⟩
          ·rw [if_neg c23] at H
           have c23b0:((Go.bits .and .i64 x9_2 (rd t764 x39_2)) == 0)=false:=beq_eq_false_iff_ne.mpr c23
           have c23b1:((Go.bits .and .i64 x9_2 (rd t764 x39_2)) != 0)=true:=bne_iff_ne.mpr c23
           exact absurd H (by simp)
        ·rw [if_neg c21] at H
         exact absurd H (by simp)
       ·rw [if_neg c20] at H
        exact absurd H (by simp)
      ·rw [if_neg c19] at H
       have c19b0:decide (x39_2 < (t764.length:Int))=false:=decide_eq_false c19
       clear c19
       have H':=Aside0.mk H
       clear H
       obtain ⟨Ao24,co24,eo24⟩:=Kd.R_slice HO_7.out
       subst eo24
       go_wp2
       go_loopg [57] k2 (fun kq v57 w'=>∃ (x57_3:Int),v57=.int .i64 x57_3∧Aside0 (trustquorumlaw10_QuorumsParts.l1 kq t764 x9_2 t768 (t768.length:Int) x57_3 t759=some true)∧Aside0 (kq≤k2)∧Aside0 (Kd.R (Kd.int .i64) 3 w' w.heap.size (fun k_=>some k_ ≠ ((.slice Ao24 t768.length co24):Value).ownBlock) (.slice Ao18 t764.length co18) t764)∧Aside0 (Kd.R (Kd.int .i64) 3 w' w.heap.size (fun k_=>some k_ ≠ ((.slice Ao18 t764.length co18):Value).ownBlock) (.slice Ao24 t768.length co24) t768)∧Aside0 (Kd.R k34 34 w' w.heap.size (fun k_=>some k_ ≠ ((.slice Ao18 t764.length co18):Value).ownBlock∧some k_ ≠ ((.slice Ao24 t768.length co24):Value).ownBlock) (.slice Ao10 t759.length co10) t759)∧Aside0 (w'.heap[gb763]?=some (.cells #[(.slice Ao10 t759.length co10)] 27 (0,0)))∧Aside0 (Below w.heap.size w w'))
       case atStart=>exact ⟨(0),(by first|rfl|(simp;done)|(simp [*];done)),H',⟨Nat.le_refl _⟩,⟨by (with_reducible repeat (first|apply Kd.R_alloc|apply Kd.R_drewN|apply Kd.R_drew));exact HO_5.out⟩,⟨by (with_reducible repeat (first|apply Kd.R_alloc|apply Kd.R_drewN|apply Kd.R_drew));exact Kd.R_mono HO_7.out (fun _ hk=>hk.1)⟩,⟨by (with_reducible repeat (first|apply Kd.R_alloc|apply Kd.R_drewN|apply Kd.R_drew));exact Kd.R_mono HO_764000.out (fun _ hk=>⟨hk.1,hk.2.1⟩)⟩,⟨by (with_reducible repeat (first|refine kN ?_ _|refine kD ?_|refine kA ?_ _));exact BK763.out⟩,⟨by repeat (first|(with_reducible first|exact HB.out|apply wA|apply wN|apply wD|refine wS ?_ GE763.out)|exact HB.out)⟩⟩
       case round =>
        clear H'
        try clear c1
        try clear c2
        try clear p2
        try clear c3
        try clear p6
        try clear p7
        try clear q7
        try clear hx7
        try clear c9
        try clear c11
        try clear c14
        try clear c15
        try clear c16
        try clear c16b0
        try clear c16b1
        try clear c17
        try clear c19
        try clear c19b0
        try clear c20
        try clear c20b0
        try clear c21
        try clear c21b0
        try clear c22
        try clear c22b0
        try clear c22b1
        try clear c23
        try clear c23b0
        try clear c23b1
        try clear hcz12_0
        try clear hcz14_0
        try clear hfz12_0
        try clear hfz14_0
        try clear hx772_0
        try clear p2
        try clear p772
        try clear q772
        obtain ⟨x57_3,rfl,HA,HK3,HO_5,HO_55,HO_764000,BK763,HB⟩:=hrel
        cases gk with
        | zero=>exact absurd HA.out (by simp [trustquorumlaw10_QuorumsParts.l1])
        | succ k3 =>
         have H:=HA.out
         clear HA
         simp only [trustquorumlaw10_QuorumsParts.l1] at H
         by_cases c25:x57_3 < (t768.length:Int)
         ·rw [if_pos c25] at H
          have c25b0:decide (x57_3 < (t768.length:Int))=true:=decide_eq_true c25
          clear c25
          by_cases c26:0≤x57_3
          ·rw [if_pos c26] at H
           have c26b0:decide (0≤x57_3)=true:=decide_eq_true c26
           clear c26
           by_cases c27:x57_3 < (t768.length:Int)
           ·rw [if_pos c27] at H
            have c27b0:decide (x57_3 < (t768.length:Int))=true:=decide_eq_true c27
            clear c27
            have H':=Aside0.mk H
            clear H
            have p775:0≤(x57_3:Int):=of_decide_eq_true (by first|(with_reducible assumption)|assumption)
            have q775:x57_3 < (t768.length:Int):=of_decide_eq_true (by first|(with_reducible assumption)|assumption)
            obtain ⟨ad775,e775,hx775_0⟩:=Kd.at_int (Kd.R_reads' HO_55.out).2.2 x57_3 p775 q775
            cases e775
            replace p775:=eq_true p775
            replace q775:=eq_true q775
            go_wp2
            go_loopg [14,63] k3 (fun kq v14 v63 w'=>∃ (x14_4:Bool) (x63_4:Int),v14=.bool x14_4∧v63=.int .i64 x63_4∧Aside0 (trustquorumlaw10_QuorumsParts.l2 kq t764 x9_2 (rd t768 x57_3) x14_4 t768 (t768.length:Int) x57_3 t764 (t764.length:Int) x63_4 t759=some true)∧Aside0 (kq≤k3)∧Aside0 (Kd.R (Kd.int .i64) 3 w' w.heap.size (fun k_=>some k_ ≠ ((.slice (some ad775) t768.length co24):Value).ownBlock) (.slice Ao18 t764.length co18) t764)∧Aside0 (Kd.R (Kd.int .i64) 3 w' w.heap.size (fun k_=>some k_ ≠ ((.slice Ao18 t764.length co18):Value).ownBlock∧some k_ ≠ ((.slice Ao18 t764.length co18):Value).ownBlock) (.slice (some ad775) t768.length co24) t768)∧Aside0 (Kd.R (Kd.int .i64) 3 w' w.heap.size (fun k_=>some k_ ≠ ((.slice (some ad775) t768.length co24):Value).ownBlock) (.slice Ao18 t764.length co18) t764)∧Aside0 (Kd.R k34 34 w' w.heap.size (fun k_=>some k_ ≠ ((.slice Ao18 t764.length co18):Value).ownBlock∧some k_ ≠ ((.slice (some ad775) t768.length co24):Value).ownBlock∧some k_ ≠ ((.slice Ao18 t764.length co18):Value).ownBlock) (.slice Ao10 t759.length co10) t759)∧Aside0 (w'.heap[gb763]?=some (.cells #[(.slice Ao10 t759.length co10)] 27 (0,0)))∧Aside0 (Below w.heap.size w w'))
            case atStart=>exact ⟨(false),(0),(by first|rfl|(simp;done)|(simp [*];done)),(by first|rfl|(simp;done)|(simp [*];done)),H',⟨Nat.le_refl _⟩,⟨by (with_reducible repeat (first|apply Kd.R_alloc|apply Kd.R_drewN|apply Kd.R_drew));exact HO_5.out⟩,⟨by (with_reducible repeat (first|apply Kd.R_alloc|apply Kd.R_drewN|apply Kd.R_drew));exact Kd.R_mono HO_55.out (fun _ hk=>⟨hk,hk⟩)⟩,⟨by (with_reducible repeat (first|apply Kd.R_alloc|apply Kd.R_drewN|apply Kd.R_drew));exact HO_5.out⟩,⟨by (with_reducible repeat (first|apply Kd.R_alloc|apply Kd.R_drewN|apply Kd.R_drew));exact Kd.R_mono HO_764000.out (fun _ hk=>⟨hk.1,⟨hk.2,hk.1⟩⟩)⟩,⟨by (with_reducible repeat (first|refine kN ?_ _|refine kD ?_|refine kA ?_ _));exact BK763.out⟩,⟨by repeat (first|(with_reducible first|exact HB.out|apply wA|apply wN|apply wD|refine wS ?_ GE763.out)|exact HB.out)⟩⟩
            case round =>
             clear H'
             try clear c1
             try clear c2
             try clear p2
             try clear c3
             try clear p6
             try clear p7
             try clear q7
             try clear hx7
             try clear c9
             try clear c11
             try clear c14
             try clear c15
             try clear c16
             try clear c16b0
             try clear c16b1
             try clear c17
             try clear c19
             try clear c19b0
             try clear c20
             try clear c20b0
             try clear c21
             try clear c21b0
             try clear c22
             try clear c22b0
             try clear c22b1
             try clear c23
             try clear c23b0
             try clear c23b1
             try clear c25
             try clear c25b0
             try clear c26
             try clear c26b0
             try clear c27
             try clear c27b0
             try clear hcz12_0
             try clear hcz14_0
             try clear hfz12_0
             try clear hfz14_0
             try clear hx772_0
             try clear hx775_0
             try clear p2
             try clear p6
             try clear p7
             try clear p772
             try clear p775
             try clear q7
             try clear q772
             try clear q775
             obtain ⟨x14_4,x63_4,rfl,rfl,HA,HK4,HO_5,HO_55,HO_61,HO_764000,BK763,HB⟩:=hrel
             cases gk with
             | zero=>exact absurd HA.out (by simp [trustquorumlaw10_QuorumsParts.l2])
             | succ k4 =>
              have H:=HA.out
              clear HA
              simp only [trustquorumlaw10_QuorumsParts.l2] at H
              by_cases c28:x63_4 < (t764.length:Int)
              ·rw [if_pos c28] at H
               have c28b0:decide (x63_4 < (t764.length:Int))=true:=decide_eq_true c28
               clear c28
               by_cases c29:0≤x63_4
               ·rw [if_pos c29] at H
                have c29b0:decide (0≤x63_4)=true:=decide_eq_true c29
                clear c29
                by_cases c30:x63_4 < (t764.length:Int)
                ·rw [if_pos c30] at H
                 have c30b0:decide (x63_4 < (t764.length:Int))=true:=decide_eq_true c30
                 clear c30
                 by_cases c31:x14_4=true
                 ·subst c31
                  have H1:(trustquorumlaw10_QuorumsParts.l2 k4 t764 x9_2 (rd t768 x57_3) true t768 (t768.length:Int) x57_3 t764 (t764.length:Int) (wrap64 (x63_4+1)) t759)=some true:=by rw [if_pos rfl] at H;exact H
                  clear H
                  have H:=H1
                  clear H1
                  have H':=Aside0.mk H
                  clear H
                  have p776:0≤(x63_4:Int):=of_decide_eq_true (by first|(with_reducible assumption)|assumption)
                  have q776:x63_4 < (t764.length:Int):=of_decide_eq_true (by first|(with_reducible assumption)|assumption)
                  obtain ⟨ad776,e776,hx776_0⟩:=Kd.at_int (Kd.R_reads' HO_61.out).2.2 x63_4 p776 q776
                  cases e776
                  replace p776:=eq_true p776
                  replace q776:=eq_true q776
                  go_wp2
                  go_roundg k4
                  case measure=>have:=HJ5.out;have:=HK2.out;have:=HK3.out;have:=HK4.out;omega
                  case rel=>exact ⟨(true),(wrap64 (x63_4+1)),(by first|rfl|(simp;done)|(simp [*];done)),(by first|rfl|(simp;done)|(simp [*];done)),H',⟨by have:=HJ5.out;have:=HK2.out;have:=HK3.out;have:=HK4.out;omega⟩,⟨by (with_reducible repeat (first|apply Kd.R_alloc|apply Kd.R_drewN|apply Kd.R_drew));exact HO_5.out⟩,⟨by (with_reducible repeat (first|apply Kd.R_alloc|apply Kd.R_drewN|apply Kd.R_drew));exact HO_55.out⟩,⟨by (with_reducible repeat (first|apply Kd.R_alloc|apply Kd.R_drewN|apply Kd.R_drew));exact HO_61.out⟩,⟨by (with_reducible repeat (first|apply Kd.R_alloc|apply Kd.R_drewN|apply Kd.R_drew));exact HO_764000.out⟩,⟨by (with_reducible repeat (first|refine kN ?_ _|refine kD ?_|refine kA ?_ _));exact BK763.out⟩,⟨by repeat (first|(with_reducible first|exact HB.out|apply wA|apply wN|apply wD|refine wS ?_ GE763.out)|exact HB.out)⟩⟩
                 ·replace c31:=Bool.eq_false_iff.mpr c31
                  subst c31
                  have H1:(trustquorumlaw10_QuorumsParts.l2 k4 t764 x9_2 (rd t768 x57_3) ((Go.bits .and .i64 (rd t768 x57_3) (rd t764 x63_4)) == (rd t768 x57_3)) t768 (t768.length:Int) x57_3 t764 (t764.length:Int) (wrap64 (x63_4+1)) t759)=some true:=by rw [if_neg (show ¬ (false=true) by decide)] at H;exact H
                  clear H
                  have H:=H1
                  clear H1
                  have H':=Aside0.mk H
                  clear H
                  have p776:0≤(x63_4:Int):=of_decide_eq_true (by first|(with_reducible assumption)|assumption)
                  have q776:x63_4 < (t764.length:Int):=of_decide_eq_true (by first|(with_reducible assumption)|assumption)
                  obtain ⟨ad776,e776,hx776_0⟩:=Kd.at_int (Kd.R_reads' HO_61.out).2.2 x63_4 p776 q776
                  cases e776
                  replace p776:=eq_true p776
                  replace q776:=eq_true q776
                  go_wp2
                  go_roundg k4
                  case measure=>have:=HJ5.out;have:=HK2.out;have:=HK3.out;have:=HK4.out;omega
                  case rel=>exact ⟨(((Go.bits .and .i64 (rd t768 x57_3) (rd t764 x63_4)) == (rd t768 x57_3))),(wrap64 (x63_4+1)),(by first|rfl|(simp;done)|(simp [*];done)),(by first|rfl|(simp;done)|(simp [*];done)),H',⟨by have:=HJ5.out;have:=HK2.out;have:=HK3.out;have:=HK4.out;omega⟩,⟨by (with_reducible repeat (first|apply Kd.R_alloc|apply Kd.R_drewN|apply Kd.R_drew));exact HO_5.out⟩,⟨by (with_reducible repeat (first|apply Kd.R_alloc|apply Kd.R_drewN|apply Kd.R_drew));exact HO_55.out⟩,⟨by (with_reducible repeat (first|apply Kd.R_alloc|apply Kd.R_drewN|apply Kd.R_drew));exact HO_61.out⟩,⟨by (with_reducible repeat (first|apply Kd.R_alloc|apply Kd.R_drewN|apply Kd.R_drew));exact HO_764000.out⟩,⟨by (with_reducible repeat (first|refine kN ?_ _|refine kD ?_|refine kA ?_ _));exact BK763.out⟩,⟨by repeat (first|(with_reducible first|exact HB.out|apply wA|apply wN|apply wD|refine wS ?_ GE763.out)|exact HB.out)⟩⟩
                ·rw [if_neg c30] at H
                 exact absurd H (by simp)
               ·rw [if_neg c29] at H
                exact absurd H (by simp)
              ·rw [if_neg c28] at H
               have c28b0:decide (x63_4 < (t764.length:Int))=false:=decide_eq_false c28
               clear c28
               by_cases c32:x14_4=true
               ·subst c32
                have H1:(trustquorumlaw10_QuorumsParts.l1 k4 t764 x9_2 t768 (t768.length:Int) (wrap64 (x57_3+1)) t759)=some true:=by rw [if_pos rfl] at H;exact H
                clear H
                have H:=H1
                clear H1
                have H':=Aside0.mk H
                clear H
                go_wp2
                go_roundg k4
                case measure=>have:=HJ5.out;have:=HK2.out;have:=HK3.out;have:=HK4.out;omega
                case rel=>exact ⟨(wrap64 (x57_3+1)),(by first|rfl|(simp;done)|(simp [*];done)),H',⟨by have:=HJ5.out;have:=HK2.out;have:=HK3.out;have:=HK4.out;omega⟩,⟨by (with_reducible repeat (first|apply Kd.R_alloc|apply Kd.R_drewN|apply Kd.R_drew));exact HO_5.out⟩,⟨by (with_reducible repeat (first|apply Kd.R_alloc|apply Kd.R_drewN|apply Kd.R_drew));exact Kd.R_mono HO_55.out (fun _ hk=>hk.1)⟩,⟨by (with_reducible repeat (first|apply Kd.R_alloc|apply Kd.R_drewN|apply Kd.R_drew));exact Kd.R_mono HO_764000.out (fun _ hk=>⟨hk.1,hk.2.1⟩)⟩,⟨by (with_reducible repeat (first|refine kN ?_ _|refine kD ?_|refine kA ?_ _));exact BK763.out⟩,⟨by repeat (first|(with_reducible first|exact HB.out|apply wA|apply wN|apply wD|refine wS ?_ GE763.out)|exact HB.out)⟩⟩
               ·replace c32:=Bool.eq_false_iff.mpr c32
                subst c32
                have H1:(some false)=some true:=by rw [if_neg (show ¬ (false=true) by decide)] at H;exact H
                clear H
                have H:=H1
                clear H1
                exact absurd H (by simp)
           ·rw [if_neg c27] at H
            exact absurd H (by simp)
          ·rw [if_neg c26] at H
           exact absurd H (by simp)
         ·rw [if_neg c25] at H
          have c25b0:decide (x57_3 < (t768.length:Int))=false:=decide_eq_false c25
          clear c25
          replace H:=Option.bind_eq_some_iff.mp H
          obtain ⟨t773,A330,H⟩:=H
          replace H:(if x9_2=t773 then ((trustquorumlaw10_awake.f k3).bind fun t774=>(some t774)) else (some false))=some true:=H
          have A33:=Aside0.mk A330
          clear A330
          by_cases c34:x9_2=t773
          ·rw [if_pos c34] at H
           have c34b0:(x9_2 == t773)=true:=beq_iff_eq.mpr c34
           have c34b1:(x9_2 != t773)=false:=bne_eq_false_iff_eq.mpr c34
           clear c34
           replace H:=Option.bind_eq_some_iff.mp H
           obtain ⟨t774,A350,H⟩:=H
           replace H:(some t774)=some true:=H
           have A35:=Aside0.mk A350
           clear A350
           obtain rfl:=Option.some.inj H
           have hcz36_0:wr.cell? ⟨gb763,0,none⟩=some (.slice Ao10 t759.length co10):=(kC BK763.out 0).trans rfl
           have hfz36_0:=kF BK763.out 0
           go_wp2_with (first|((with_reducible refine gate_callee (f:=24) rfl ?_);refine goesL_ (some 81) rfl rfl Try.func24 (by kernel_rfl) rfl #[.agg #[.slice Ao10 t759.length co10]] rfl (by (try simp only [List.map_toArray,List.map_cons,List.map_nil]);first|done|rfl|(simp only [List.length_drop,List.length_take];rfl)) ?_;(with_reducible refine (trustquorumref06_Declared.calls k3 _ _ t759 t773 _ ?side1 ?side2 A33.out).mono ?_);(case side1=>repeat (first|exact (Kd.R_reads' HO_764000.out).2.2|(with_reducible refine Kd.C_alloc ?_ _)|(with_reducible refine Kd.C_drewN ?_ _)|(with_reducible refine Kd.C_drew ?_)));(case side2=>exact (Kd.R_reads' HO_764000.out).2.1);rintro e w37 ⟨rfl,hb⟩;refine ⟨_,rfl,?_⟩;have n0_:=Aside0.mk (Kd.R_below (by (with_reducible repeat (first|apply Kd.R_alloc|apply Kd.R_drewN|apply Kd.R_drew));exact HO_5.out) hb);have n1_:=Aside0.mk (Kd.R_below (by (with_reducible repeat (first|apply Kd.R_alloc|apply Kd.R_drewN|apply Kd.R_drew));exact HO_55.out) hb);have n2_:=Aside0.mk (Kd.R_below (by (with_reducible repeat (first|apply Kd.R_alloc|apply Kd.R_drewN|apply Kd.R_drew));exact HO_764000.out) hb);have n3_:=Aside0.mk (blk_below (g:=gb763) (o:=.cells #[.slice Ao10 t759.length co10] 27 (0,0)) (by (with_reducible repeat (first|refine kN ?_ _|refine kD ?_|refine kA ?_ _));exact BK763.out) hb);have n4_:=Aside0.mk (below_step (by repeat (first|(with_reducible first|exact HB.out|apply wA|apply wN|apply wD|refine wS ?_ GE763.out)|exact HB.out)) hb);clear HO_5;clear HO_55;clear HO_764000;clear BK763;clear HB;have HO_5:=n0_;have HO_55:=n1_;have HO_764000:=n2_;have BK763:=n3_;have HB:=n4_;clear n0_ n1_ n2_ n3_ n4_;(try clear hb);(try clear hb2);(try clear hk);(try clear hi))|(go_at_call 38;(with_reducible refine (trustquorumlaw10_awake.calls k3   _ A35.out).mono ?_);rintro e w38 ⟨rfl,hb⟩;have n0_:=Aside0.mk (Kd.R_below (by (with_reducible repeat (first|apply Kd.R_alloc|apply Kd.R_drewN|apply Kd.R_drew));exact HO_5.out) hb);have n1_:=Aside0.mk (Kd.R_below (by (with_reducible repeat (first|apply Kd.R_alloc|apply Kd.R_drewN|apply Kd.R_drew));exact HO_55.out) hb);have n2_:=Aside0.mk (Kd.R_below (by (with_reducible repeat (first|apply Kd.R_alloc|apply Kd.R_drewN|apply Kd.R_drew));exact HO_764000.out) hb);have n3_:=Aside0.mk (blk_below (g:=gb763) (o:=.cells #[.slice Ao10 t759.length co10] 27 (0,0)) (by (with_reducible repeat (first|refine kN ?_ _|refine kD ?_|refine kA ?_ _));exact BK763.out) hb);have n4_:=Aside0.mk (below_step (by repeat (first|(with_reducible first|exact HB.out|apply wA|apply wN|apply wD|refine wS ?_ GE763.out)|exact HB.out)) hb);clear HO_5;clear HO_55;clear HO_764000;clear BK763;clear HB;have HO_5:=n0_;have HO_55:=n1_;have HO_764000:=n2_;have BK763:=n3_;have HB:=n4_;clear n0_ n1_ n2_ n3_ n4_;(try clear hb);(try clear hb2);(try clear hk);(try clear hi)))
           go_ret
           exact ⟨by first|rfl|exact congrArg (fun b_:Bool=>Ending.returned (Value.bool b_)) HT.out|(simp [errW_none,errW_some] <;> rfl)|(simp [*,errW_none,errW_some] <;> rfl),by repeat (first|(with_reducible first|exact HB.out|apply wA|apply wN|apply wD|refine wS ?_ GE763.out)|exact HB.out)⟩
          ·rw [if_neg c34] at H
           have c34b0:(x9_2 == t773)=false:=beq_eq_false_iff_ne.mpr c34
           have c34b1:(x9_2 != t773)=true:=bne_iff_ne.mpr c34
           exact absurd H (by simp)
def trustquorumlaw10_QuorumsParts.Pure:Prop:=∀ (l0:List Int),l0.length≤maxLen→l0.length * 8≤140737488351232→(∀ x∈l0,(Lit.int .i64 x).wf=true)→∃ k,trustquorumlaw10_QuorumsParts.f k l0=some true
theorem trustquorumlaw10_QuorumsParts.walk (P:trustquorumlaw10_QuorumsParts.Pure) (a0:Option Addr) (len0 cap0:Nat) (z0:List Int) (w:World) (w0:(a0=none∧len0=0∧cap0=0∧z0=[]) ∨ ∃ x,a0=some x∧len0≤cap0∧cap0≤maxLen∧z0.length=cap0∧(∀ i,i < z0.length→w.cell? (x.add i)=some (.int .i64 (z0.getD i 0)))∧∀ n∈z0,(Lit.int .i64 n).wf=true) (y0:len0 * 8≤140737488351232) :
  Calls Try.prog 9 #[.slice a0 len0 cap0] w fun e w'=>e=.returned (.bool true)∧Below w.heap.size w w':=by
 obtain ⟨l0,rfl,hr0,hm0,hw0,hc0⟩:=ReadsInt.ofRowC w0
 obtain ⟨k,h⟩:=P l0 hm0 y0 hw0
 refine (trustquorumlaw10_QuorumsParts.calls k _ _ l0 w (Kd.C_of_reads (d:=(0:Int)) (h1:=fun _=>rfl) hr0) hc0 h).mono ?_
 rintro e w' ⟨rfl,hd⟩
 exact ⟨rfl,hd⟩
end Go.Proofs.Ytkjlcbfjllpcnaa.X
namespace Go.Proofs.Ytkjlcbfjllpcnaa.X
open Go.RowKit Go.Proofs.YtkjlcbfjllpcnaaW.PrintWords Go.Proofs.YtkjlcbfjllpcnaaW.PrintLast Go.Proofs.YtkjlcbfjllpcnaaW.PrintMore
set_option linter.unusedVariables false
mutual
def depL : List S32 → Nat
  | [] => 0
  | t :: ts => max (dep t) (depL ts)
def dep : S32 → Nat
  | ⟨_, _, ts⟩ => depL ts + 1
end
mutual
def sizL : List S32 → Nat
  | [] => 0
  | t :: ts => siz t + sizL ts
def siz : S32 → Nat
  | ⟨_, l, ts⟩ => l.length + ts.length + sizL ts
end
mutual
def useL : List S32 → Nat
  | [] => 0
  | t :: ts => uses t ||| useL ts
def uses : S32 → Nat
  | ⟨_, l, ts⟩ => l.foldl (fun a x => if noNode x = true then a else a ||| 2 ^ x.toNat) 0 ||| useL ts
end
def ofS (a : Nat) : List Int → Nat × Int
  | [] => (a, 0)
  | x :: xs => if noNode x = true then (0, 5) else if inS a x = true then (0, 6) else ofS (a ||| 2 ^ x.toNat) xs
mutual
def chkL : List S32 → Int
  | [] => 0
  | t :: ts => if chk t = 0 then chkL ts else chk t
def chk : S32 → Int
  | ⟨n, l, ts⟩ => if n < 1 ∨ n > ((l.length + ts.length : Nat) : Int) then 4 else if (l.any noNode) = true then 5 else if (ofS 0 l).2 = 0 then chkL ts else (ofS 0 l).2
end
def validT (t : S32) : Int := if dep t > 4 then 3 else if siz t > 200 then 3 else chk t
theorem dep_eq (t : S32) : dep t = depL t.f2 + 1 := by cases t; rw [dep]
theorem siz_eq (t : S32) : siz t = t.f1.length + t.f2.length + sizL t.f2 := by cases t; rw [siz]
theorem chk_eq (t : S32) : chk t = if t.f0 < 1 ∨ t.f0 > ((t.f1.length + t.f2.length : Nat) : Int) then 4 else if (t.f1.any noNode) = true then 5 else if (ofS 0 t.f1).2 = 0 then chkL t.f2 else (ofS 0 t.f1).2 := by cases t; rw [chk]
theorem uses_eq (t : S32) : uses t = t.f1.foldl (fun a x => if noNode x = true then a else a ||| 2 ^ x.toNat) 0 ||| useL t.f2 := by cases t; rw [uses]
mutual
theorem dep_le : ∀ t : S32, dep t ≤ wt t
  | ⟨_, l, ts⟩ => by rw [dep, wt]; have := depL_le ts; omega
theorem depL_le : ∀ l : List S32, depL l ≤ wtL l
  | [] => Nat.le_refl _
  | t :: ts => by rw [depL, wtL]; have := dep_le t; have := depL_le ts; omega
end
mutual
theorem siz_le : ∀ t : S32, siz t ≤ 2 * wt t
  | ⟨_, l, ts⟩ => by rw [siz, wt]; have := sizL_le ts; omega
theorem sizL_le : ∀ l : List S32, l.length + sizL l ≤ 2 * wtL l
  | [] => Nat.le_refl _
  | t :: ts => by rw [sizL, wtL, List.length_cons]; have := siz_le t; have := sizL_le ts; have := wt_pos t; have : 1 + siz t ≤ 2 * wt t := by
                    cases t with | mk n l xs => rw [siz, wt]; have := sizL_le xs; omega
                  omega
end
theorem or_lt {a b n : Nat} (ha : a < 2 ^ n) (hb : b < 2 ^ n) : a ||| b < 2 ^ n := Nat.or_lt_two_pow ha hb
theorem or_lt10 {a b : Nat} (ha : a < 1024) (hb : b < 1024) : a ||| b < 1024 := or_lt (n := 10) ha hb
theorem two_lt10 {k : Nat} (h : k < 10) : 2 ^ k < 1024 := Nat.pow_lt_pow_right (a := 2) (by decide) h
theorem noNode_not {x : Int} (h : noNode x = false) : 0 ≤ x ∧ x < 10 := by simp [noNode] at h; omega
theorem foldUse_lt (l : List Int) : ∀ a, a < 1024 → l.foldl (fun a x => if noNode x = true then a else a ||| 2 ^ x.toNat) a < 1024 := by
  induction l with
  | nil => intro a h; exact h
  | cons x xs ih =>
    intro a h
    rw [List.foldl_cons]
    refine ih _ ?_
    cases hx : noNode x
    · have := noNode_not hx
      exact or_lt10 h (two_lt10 (by omega))
    · exact h
mutual
theorem uses_lt : ∀ t : S32, uses t < 1024
  | ⟨_, l, ts⟩ => by rw [uses]; exact or_lt10 (foldUse_lt l 0 (by decide)) (useL_lt ts)
theorem useL_lt : ∀ l : List S32, useL l < 1024
  | [] => by rw [useL]; decide
  | t :: ts => by rw [useL]; exact or_lt10 (uses_lt t) (useL_lt ts)
end
theorem mx_nat (a b : Nat) : mx (a : Int) (b : Int) = ((max a b : Nat) : Int) := by unfold mx; split <;> omega
theorem Depth_ev : ∀ (n : Nat) (t : S32), wt t < n → n < 1152921504606846976 → Ev (fun k => threshold_Depth.f k t.f0 t.f1 t.f2) (dep t : Int)
  | 0, t, h, _ => absurd h (by omega)
  | n + 1, t, h, hn => by
    rw [wt_eq] at h
    have hl := len_wtL t.f2
    have hd := depL_le t.f2
    rw [dep_eq]
    (refine Ev.shift ?_; simp only [threshold_Depth.f, Option.bind_some, ↓reduceIte, Bool.false_eq_true, reduceCtorEq, decide_eq_true_eq, Go.Proofs.YtkjlcbfjllpcnaaW.PrintWords.rd, rd_T32, rd_T34])
    refine Ev.fold (xs := t.f2) (L := fun (c : Nat) i k => threshold_Depth.l0 k (c : Int) t.f2 (t.f2.length : Int) i) (by omega) (fun pre ys c => max c (depL ys) = depL t.f2) ?_ ?_ 0 (by omega)
    · intro c i hI hi
      rw [depL] at hI
      (refine Ev.shift ?_; simp only [threshold_Depth.l0, hi, Option.bind_some, ↓reduceIte, Bool.false_eq_true, reduceCtorEq, decide_eq_true_eq, Go.Proofs.YtkjlcbfjllpcnaaW.PrintWords.rd, rd_T32, rd_T34])
      rw [show wrap64 ((c : Int) + 1) = ((depL t.f2 + 1 : Nat) : Int) by rw [w64 (by omega) (by omega)]; omega]
      exact Ev.now _
    · intro pre y ys c i e hI hi h0 hlt hw hrd
      rw [depL] at hI
      refine Or.inl ⟨max c (dep y), by omega, fun k => ?_⟩
      (refine Ev.shift ?_; simp only [threshold_Depth.l0, h0, hlt, hw, hrd, Option.bind_some, ↓reduceIte, Bool.false_eq_true, reduceCtorEq, decide_eq_true_eq, Go.Proofs.YtkjlcbfjllpcnaaW.PrintWords.rd, rd_T32, rd_T34])
      refine Ev.bind1 (Depth_ev n y (by have := wt_mem (show y ∈ t.f2 by rw [e]; simp); omega) (by omega)) ?_
      rw [mx_nat]
      exact k
theorem Size_ev : ∀ (n : Nat) (t : S32), wt t < n → n < 1152921504606846976 → Ev (fun k => threshold_Size.f k t.f0 t.f1 t.f2) (siz t : Int)
  | 0, t, h, _ => absurd h (by omega)
  | n + 1, t, h, hn => by
    have hs := siz_le t
    have hw := h
    rw [wt_eq] at h
    have hl := len_wtL t.f2
    rw [siz_eq] at hs ⊢
    (refine Ev.shift ?_; simp only [threshold_Size.f, Option.bind_some, ↓reduceIte, Bool.false_eq_true, reduceCtorEq, decide_eq_true_eq, Go.Proofs.YtkjlcbfjllpcnaaW.PrintWords.rd, rd_T32, rd_T34])
    rw [show wrap64 ((t.f1.length : Int) + (t.f2.length : Int)) = ((t.f1.length + t.f2.length : Nat) : Int) by rw [w64 (by omega) (by omega)]; omega]
    refine Ev.fold (L := fun (c : Nat) i k => threshold_Size.l0 k (c : Int) t.f2 (t.f2.length : Int) i) (by omega) (fun pre ys c => c + sizL ys = t.f1.length + t.f2.length + sizL t.f2) ?_ ?_ (t.f1.length + t.f2.length) rfl
    · intro c i hI hi
      rw [sizL] at hI
      (refine Ev.shift ?_; simp only [threshold_Size.l0, hi, Option.bind_some, ↓reduceIte, Bool.false_eq_true, reduceCtorEq, decide_eq_true_eq, Go.Proofs.YtkjlcbfjllpcnaaW.PrintWords.rd, rd_T32, rd_T34])
      rw [← hI]
      exact Ev.now _
    · intro pre y ys c i e hI hi h0 hlt hw hrd
      rw [sizL] at hI
      refine Or.inl ⟨c + siz y, by omega, fun k => ?_⟩
      (refine Ev.shift ?_; simp only [threshold_Size.l0, h0, hlt, hw, hrd, Option.bind_some, ↓reduceIte, Bool.false_eq_true, reduceCtorEq, decide_eq_true_eq, Go.Proofs.YtkjlcbfjllpcnaaW.PrintWords.rd, rd_T32, rd_T34])
      refine Ev.bind1 (Size_ev n y (by have := wt_mem (show y ∈ t.f2 by rw [e]; simp); omega) (by omega)) ?_
      rw [show wrap64 ((c : Int) + (siz y : Int)) = ((c + siz y : Nat) : Int) by rw [w64 (by omega) (by omega)]; omega]
      exact k
theorem Of_ev (l : List Int) (hl : l.length < 1152921504606846976) : Ev (fun k => nodeset_Of.f k l) (((ofS 0 l).1 : Int), (ofS 0 l).2) := by
  refine Ev.congr (f := fun k => nodeset_Of.l0 k ((0 : Nat) : Int) l (l.length : Int) 0) (fun k => rfl) ?_
  refine Ev.fold (L := fun (c : Nat) i k => nodeset_Of.l0 k (c : Int) l (l.length : Int) i) (by omega) (fun pre ys c => ofS c ys = ofS 0 l ∧ c < 1024) ?_ ?_ 0 ⟨rfl, by decide⟩
  · rintro c i ⟨hI, hc⟩ hi
    (refine Ev.shift ?_; simp only [nodeset_Of.l0, hi, Option.bind_some, ↓reduceIte, Bool.false_eq_true, reduceCtorEq, decide_eq_true_eq, Go.Proofs.YtkjlcbfjllpcnaaW.PrintWords.rd, rd_T32, rd_T34])
    rw [← hI]
    exact Ev.now _
  · rintro pre y ys c i e ⟨hI, hc⟩ hi h0 hlt hw hrd
    rw [ofS] at hI
    cases hn : noNode y
    · have hb := noNode_not hn
      simp only [hn, Bool.false_eq_true, if_false] at hI
      cases hs : inS c y
      · refine Or.inl ⟨c ||| 2 ^ y.toNat, ⟨by simpa [hs] using hI, or_lt10 hc (two_lt10 (by omega))⟩, fun k => ?_⟩
        have h2 := two_lt10 (show y.toNat < 10 by omega)
        have e2 : Go.bits .or .i64 (c : Int) (shl .i64 1 y) = ((c ||| 2 ^ y.toNat : Nat) : Int) := by
          rw [show y = (y.toNat : Int) by omega, shl_nat (by omega), Int.toNat_natCast, or_nat (by omega) (by omega)]
        have h1 : ¬ y < 0 := by omega
        have h3 : decide (y ≥ 10) = false := by simp; omega
        (refine Ev.shift ?_; simp only [nodeset_Of.l0, h0, hlt, hw, hrd, h1, h3, Option.bind_some, ↓reduceIte, Bool.false_eq_true, reduceCtorEq, decide_eq_true_eq, Go.Proofs.YtkjlcbfjllpcnaaW.PrintWords.rd, rd_T32, rd_T34])
        (refine Ev.shift ?_; simp only [nodeset_Of.j1, Has_eq hc, hs, hb.1, hw, Option.bind_some, ↓reduceIte, Bool.false_eq_true, reduceCtorEq, decide_eq_true_eq, Go.Proofs.YtkjlcbfjllpcnaaW.PrintWords.rd, rd_T32, rd_T34])
        rw [e2]
        exact k
      · refine Or.inr ?_
        simp only [hs, if_true] at hI
        have h1 : ¬ y < 0 := by omega
        have h3 : decide (y ≥ 10) = false := by simp; omega
        (refine Ev.shift ?_; simp only [nodeset_Of.l0, h0, hlt, hw, hrd, h1, h3, Option.bind_some, ↓reduceIte, Bool.false_eq_true, reduceCtorEq, decide_eq_true_eq, Go.Proofs.YtkjlcbfjllpcnaaW.PrintWords.rd, rd_T32, rd_T34])
        (refine Ev.shift ?_; simp only [nodeset_Of.j1, Has_eq hc, hs, Option.bind_some, ↓reduceIte, Bool.false_eq_true, reduceCtorEq, decide_eq_true_eq, Go.Proofs.YtkjlcbfjllpcnaaW.PrintWords.rd, rd_T32, rd_T34])
        rw [← hI]
        exact Ev.now _
    · refine Or.inr ?_
      simp only [hn, if_true] at hI
      rw [← hI]
      by_cases h1 : y < 0
      · (refine Ev.shift ?_; simp only [nodeset_Of.l0, h0, hlt, hw, hrd, h1, Option.bind_some, ↓reduceIte, Bool.false_eq_true, reduceCtorEq, decide_eq_true_eq, Go.Proofs.YtkjlcbfjllpcnaaW.PrintWords.rd, rd_T32, rd_T34])
        (refine Ev.shift ?_; simp only [nodeset_Of.j1, Option.bind_some, ↓reduceIte, Bool.false_eq_true, reduceCtorEq, decide_eq_true_eq, Go.Proofs.YtkjlcbfjllpcnaaW.PrintWords.rd, rd_T32, rd_T34])
        exact Ev.now _
      · have h3 : decide (y ≥ 10) = true := by simp [noNode] at hn ⊢; omega
        (refine Ev.shift ?_; simp only [nodeset_Of.l0, h0, hlt, hw, hrd, h1, h3, Option.bind_some, ↓reduceIte, Bool.false_eq_true, reduceCtorEq, decide_eq_true_eq, Go.Proofs.YtkjlcbfjllpcnaaW.PrintWords.rd, rd_T32, rd_T34])
        (refine Ev.shift ?_; simp only [nodeset_Of.j1, Option.bind_some, ↓reduceIte, Bool.false_eq_true, reduceCtorEq, decide_eq_true_eq, Go.Proofs.YtkjlcbfjllpcnaaW.PrintWords.rd, rd_T32, rd_T34])
        exact Ev.now _
theorem Uses_ev : ∀ (n : Nat) (t : S32), wt t < n → n < 1152921504606846976 → Ev (fun k => threshold_Uses.f k t.f0 t.f1 t.f2) (uses t : Int)
  | 0, t, h, _ => absurd h (by omega)
  | n + 1, t, h, hn => by
    rw [wt_eq] at h
    have hl := len_wtL t.f2
    have hU := uses_lt t
    rw [uses_eq] at hU ⊢
    generalize hT : (t.f1.foldl (fun a x => if noNode x = true then a else a ||| 2 ^ x.toNat) 0 ||| useL t.f2) = T at hU
    have l1 : ∀ c, c < 1024 → c ||| useL t.f2 = T → Ev (fun k => threshold_Uses.l1 k (c : Int) t.f2 (t.f2.length : Int) 0) (T : Int) := by
      intro c hc hcT
      refine Ev.fold (L := fun (c : Nat) i k => threshold_Uses.l1 k (c : Int) t.f2 (t.f2.length : Int) i) (by omega) (fun pre ys c => c ||| useL ys = T ∧ c < 1024) ?_ ?_ c ⟨hcT, hc⟩
      · rintro c i ⟨hI, hc⟩ hi
        rw [useL, Nat.or_zero] at hI
        (refine Ev.shift ?_; simp only [threshold_Uses.l1, hi, Option.bind_some, ↓reduceIte, Bool.false_eq_true, reduceCtorEq, decide_eq_true_eq, Go.Proofs.YtkjlcbfjllpcnaaW.PrintWords.rd, rd_T32, rd_T34])
        rw [← hI]
        exact Ev.now _
      · rintro pre y ys c i e ⟨hI, hc⟩ hi h0 hlt hw hrd
        rw [useL] at hI
        refine Or.inl ⟨c ||| uses y, ⟨by rw [Nat.or_assoc]; exact hI, or_lt10 hc (uses_lt y)⟩, fun k => ?_⟩
        (refine Ev.shift ?_; simp only [threshold_Uses.l1, h0, hlt, hw, hrd, Option.bind_some, ↓reduceIte, Bool.false_eq_true, reduceCtorEq, decide_eq_true_eq, Go.Proofs.YtkjlcbfjllpcnaaW.PrintWords.rd, rd_T32, rd_T34])
        refine Ev.bind1 (Uses_ev n y (by have := wt_mem (show y ∈ t.f2 by rw [e]; simp); omega) (by omega)) ?_
        have := uses_lt y
        rw [or_nat (by omega) (by omega)]
        exact k
    (refine Ev.shift ?_; simp only [threshold_Uses.f, Option.bind_some, ↓reduceIte, Bool.false_eq_true, reduceCtorEq, decide_eq_true_eq, Go.Proofs.YtkjlcbfjllpcnaaW.PrintWords.rd, rd_T32, rd_T34])
    refine Ev.fold (L := fun (c : Nat) i k => threshold_Uses.l0 k (c : Int) t.f1 (t.f1.length : Int) i t.f0 t.f1 t.f2) (by omega) (fun pre ys c => (ys.foldl (fun a x => if noNode x = true then a else a ||| 2 ^ x.toNat) c) ||| useL t.f2 = T ∧ c < 1024) ?_ ?_ 0 ⟨hT, by decide⟩
    · rintro c i ⟨hI, hc⟩ hi
      (refine Ev.shift ?_; simp only [threshold_Uses.l0, hi, Option.bind_some, ↓reduceIte, Bool.false_eq_true, reduceCtorEq, decide_eq_true_eq, Go.Proofs.YtkjlcbfjllpcnaaW.PrintWords.rd, rd_T32, rd_T34])
      exact l1 c hc hI
    · rintro pre y ys c i e ⟨hI, hc⟩ hi h0 hlt hw hrd
      rw [List.foldl_cons] at hI
      cases hn : noNode y
      · have hb := noNode_not hn
        have h2 := two_lt10 (show y.toNat < 10 by omega)
        refine Or.inl ⟨c ||| 2 ^ y.toNat, ⟨by simpa [hn] using hI, or_lt10 hc h2⟩, fun k => ?_⟩
        have e2 : Go.bits .or .i64 (c : Int) (shl .i64 1 y) = ((c ||| 2 ^ y.toNat : Nat) : Int) := by
          rw [show y = (y.toNat : Int) by omega, shl_nat (by omega), Int.toNat_natCast, or_nat (by omega) (by omega)]
        have h3 : y ≥ 0 := by omega
        have h4 : y < 10 := by omega
        (refine Ev.shift ?_; simp only [threshold_Uses.l0, threshold_node.f, h0, hlt, hw, hrd, h3, h4, decide_true, hb.1, Option.bind_some, ↓reduceIte, Bool.false_eq_true, reduceCtorEq, decide_eq_true_eq, Go.Proofs.YtkjlcbfjllpcnaaW.PrintWords.rd, rd_T32, rd_T34])
        rw [e2]
        exact k
      · refine Or.inl ⟨c, ⟨by simpa [hn] using hI, hc⟩, fun k => ?_⟩
        by_cases h3 : y ≥ 0
        · have h4 : ¬ y < 10 := by simp [noNode] at hn; omega
          (refine Ev.shift ?_; simp only [threshold_Uses.l0, threshold_node.f, h0, hlt, hw, hrd, h3, h4, decide_false, Option.bind_some, ↓reduceIte, Bool.false_eq_true, reduceCtorEq, decide_eq_true_eq, Go.Proofs.YtkjlcbfjllpcnaaW.PrintWords.rd, rd_T32, rd_T34])
          exact k
        · (refine Ev.shift ?_; simp only [threshold_Uses.l0, threshold_node.f, h0, hlt, hw, hrd, h3, Option.bind_some, ↓reduceIte, Bool.false_eq_true, reduceCtorEq, decide_eq_true_eq, Go.Proofs.YtkjlcbfjllpcnaaW.PrintWords.rd, rd_T32, rd_T34])
          exact k
theorem level_ev : ∀ (n : Nat) (t : S32), wt t < n → n < 1152921504606846976 → Ev (fun k => threshold_level.f k t.f0 t.f1 t.f2) (chk t)
  | 0, t, h, _ => absurd h (by omega)
  | n + 1, t, h, hn => by
    rw [wt_eq] at h
    have hl := len_wtL t.f2
    rw [chk_eq]
    have el : wrap64 ((t.f1.length : Int) + (t.f2.length : Int)) = ((t.f1.length + t.f2.length : Nat) : Int) := by rw [w64 (by omega) (by omega)]; omega
    by_cases h1 : t.f0 < 1
    · (refine Ev.shift ?_; simp only [threshold_level.f, h1, true_or, Option.bind_some, ↓reduceIte, Bool.false_eq_true, reduceCtorEq, decide_eq_true_eq, Go.Proofs.YtkjlcbfjllpcnaaW.PrintWords.rd, rd_T32, rd_T34])
      (refine Ev.shift ?_; simp only [threshold_level.j0, Option.bind_some, ↓reduceIte, Bool.false_eq_true, reduceCtorEq, decide_eq_true_eq, Go.Proofs.YtkjlcbfjllpcnaaW.PrintWords.rd, rd_T32, rd_T34])
      exact Ev.now _
    by_cases h2 : t.f0 > ((t.f1.length + t.f2.length : Nat) : Int)
    · (refine Ev.shift ?_; simp only [threshold_level.f, h1, h2, el, or_true, decide_true, Option.bind_some, ↓reduceIte, Bool.false_eq_true, reduceCtorEq, decide_eq_true_eq, Go.Proofs.YtkjlcbfjllpcnaaW.PrintWords.rd, rd_T32, rd_T34])
      (refine Ev.shift ?_; simp only [threshold_level.j0, Option.bind_some, ↓reduceIte, Bool.false_eq_true, reduceCtorEq, decide_eq_true_eq, Go.Proofs.YtkjlcbfjllpcnaaW.PrintWords.rd, rd_T32, rd_T34])
      exact Ev.now _
    (refine Ev.shift ?_; simp only [threshold_level.f, h1, h2, el, or_false, decide_false, Option.bind_some, ↓reduceIte, Bool.false_eq_true, reduceCtorEq, decide_eq_true_eq, Go.Proofs.YtkjlcbfjllpcnaaW.PrintWords.rd, rd_T32, rd_T34])
    (refine Ev.shift ?_; simp only [threshold_level.j0, containsFunc_level.f, Option.bind_some, ↓reduceIte, Bool.false_eq_true, reduceCtorEq, decide_eq_true_eq, Go.Proofs.YtkjlcbfjllpcnaaW.PrintWords.rd, rd_T32, rd_T34])
    cases hn : t.f1.any noNode
    · simp only [Bool.false_eq_true, if_false]
      refine Ev.bind1 (Of_ev t.f1 (by omega)) ?_
      by_cases h3 : (ofS 0 t.f1).2 = 0
      · simp only [h3, if_true]
        refine Ev.fold (L := fun (c : Unit) i k => threshold_level.l0 k t.f2 (t.f2.length : Int) i) (by omega) (fun pre ys c => chkL ys = chkL t.f2) ?_ ?_ () rfl
        · intro c i hI hi
          rw [chkL] at hI
          (refine Ev.shift ?_; simp only [threshold_level.l0, hi, Option.bind_some, ↓reduceIte, Bool.false_eq_true, reduceCtorEq, decide_eq_true_eq, Go.Proofs.YtkjlcbfjllpcnaaW.PrintWords.rd, rd_T32, rd_T34])
          rw [← hI]
          exact Ev.now _
        · intro pre y ys c i e hI hi h0 hlt hw hrd
          rw [chkL] at hI
          have hy := level_ev n y (by have := wt_mem (show y ∈ t.f2 by rw [e]; simp); omega) (by omega)
          by_cases h4 : chk y = 0
          · refine Or.inl ⟨(), by rw [← hI, if_pos h4], fun k => ?_⟩
            (refine Ev.shift ?_; simp only [threshold_level.l0, h0, hlt, hw, hrd, Option.bind_some, ↓reduceIte, Bool.false_eq_true, reduceCtorEq, decide_eq_true_eq, Go.Proofs.YtkjlcbfjllpcnaaW.PrintWords.rd, rd_T32, rd_T34])
            refine Ev.bind1 hy ?_
            simp only [h4, if_true]
            exact k
          · refine Or.inr ?_
            rw [← hI, if_neg h4]
            (refine Ev.shift ?_; simp only [threshold_level.l0, h0, hlt, hw, hrd, Option.bind_some, ↓reduceIte, Bool.false_eq_true, reduceCtorEq, decide_eq_true_eq, Go.Proofs.YtkjlcbfjllpcnaaW.PrintWords.rd, rd_T32, rd_T34])
            refine Ev.bind1 hy ?_
            simp only [h4, if_false]
            exact Ev.now _
      · simp only [h3, if_false]
        exact Ev.now _
    · simp only [if_true]
      exact Ev.now _
theorem Valid_ev (t : S32) (h : wt t < 1000000) : Ev (fun k => threshold_Valid.f k t.f0 t.f1 t.f2) (validT t) := by
  simp only [threshold_Valid.f, validT, Option.bind_some, ↓reduceIte, Bool.false_eq_true, reduceCtorEq, decide_eq_true_eq, Go.Proofs.YtkjlcbfjllpcnaaW.PrintWords.rd, rd_T32, rd_T34]
  refine Ev.bind1 (Depth_ev 1000000 t h (by decide)) ?_
  by_cases h1 : dep t > 4
  · have : (dep t : Int) > 4 := by omega
    simp only [h1, this, Option.bind_some, ↓reduceIte, Bool.false_eq_true, reduceCtorEq, decide_eq_true_eq, Go.Proofs.YtkjlcbfjllpcnaaW.PrintWords.rd, rd_T32, rd_T34]
    exact Ev.now _
  have h2 : ¬ (dep t : Int) > 4 := by omega
  simp only [h1, h2, Option.bind_some, ↓reduceIte, Bool.false_eq_true, reduceCtorEq, decide_eq_true_eq, Go.Proofs.YtkjlcbfjllpcnaaW.PrintWords.rd, rd_T32, rd_T34]
  refine Ev.bind1 (Size_ev 1000000 t h (by decide)) ?_
  by_cases h3 : siz t > 200
  · have : (siz t : Int) > 200 := by omega
    simp only [h3, this, Option.bind_some, ↓reduceIte, Bool.false_eq_true, reduceCtorEq, decide_eq_true_eq, Go.Proofs.YtkjlcbfjllpcnaaW.PrintWords.rd, rd_T32, rd_T34]
    exact Ev.now _
  have h4 : ¬ (siz t : Int) > 200 := by omega
  simp only [h3, h4, Option.bind_some, ↓reduceIte, Bool.false_eq_true, reduceCtorEq, decide_eq_true_eq, Go.Proofs.YtkjlcbfjllpcnaaW.PrintWords.rd, rd_T32, rd_T34]
  refine Ev.bind1 (level_ev 1000000 t h (by decide)) ?_
  exact Ev.now _
theorem ref_Depth_ev : ∀ (n : Nat) (t : S32), wt t < n → n < 1152921504606846976 → Ev (fun k => trustquorumref02_Depth.f k t.f0 t.f1 t.f2) (dep t : Int)
  | 0, t, h, _ => absurd h (by omega)
  | n + 1, t, h, hn => by
    rw [wt_eq] at h
    have hl := len_wtL t.f2
    have hd := depL_le t.f2
    rw [dep_eq]
    (refine Ev.shift ?_; simp only [trustquorumref02_Depth.f, Option.bind_some, ↓reduceIte, Bool.false_eq_true, reduceCtorEq, decide_eq_true_eq, Go.Proofs.YtkjlcbfjllpcnaaW.PrintWords.rd, rd_T32, rd_T34])
    refine Ev.fold (xs := t.f2) (L := fun (c : Nat) i k => trustquorumref02_Depth.l0 k (c : Int) t.f2 (t.f2.length : Int) i) (by omega) (fun pre ys c => max c (depL ys) = depL t.f2) ?_ ?_ 0 (by omega)
    · intro c i hI hi
      rw [depL] at hI
      (refine Ev.shift ?_; simp only [trustquorumref02_Depth.l0, hi, Option.bind_some, ↓reduceIte, Bool.false_eq_true, reduceCtorEq, decide_eq_true_eq, Go.Proofs.YtkjlcbfjllpcnaaW.PrintWords.rd, rd_T32, rd_T34])
      rw [show wrap64 ((c : Int) + 1) = ((depL t.f2 + 1 : Nat) : Int) by rw [w64 (by omega) (by omega)]; omega]
      exact Ev.now _
    · intro pre y ys c i e hI hi h0 hlt hw hrd
      rw [depL] at hI
      refine Or.inl ⟨max c (dep y), by omega, fun k => ?_⟩
      (refine Ev.shift ?_; simp only [trustquorumref02_Depth.l0, h0, hlt, hw, hrd, Option.bind_some, ↓reduceIte, Bool.false_eq_true, reduceCtorEq, decide_eq_true_eq, Go.Proofs.YtkjlcbfjllpcnaaW.PrintWords.rd, rd_T32, rd_T34])
      refine Ev.bind1 (ref_Depth_ev n y (by have := wt_mem (show y ∈ t.f2 by rw [e]; simp); omega) (by omega)) ?_
      rw [mx_nat]
      exact k
theorem ref_Size_ev : ∀ (n : Nat) (t : S32), wt t < n → n < 1152921504606846976 → Ev (fun k => trustquorumref02_Size.f k t.f0 t.f1 t.f2) (siz t : Int)
  | 0, t, h, _ => absurd h (by omega)
  | n + 1, t, h, hn => by
    have hs := siz_le t
    have hw := h
    rw [wt_eq] at h
    have hl := len_wtL t.f2
    rw [siz_eq] at hs ⊢
    (refine Ev.shift ?_; simp only [trustquorumref02_Size.f, Option.bind_some, ↓reduceIte, Bool.false_eq_true, reduceCtorEq, decide_eq_true_eq, Go.Proofs.YtkjlcbfjllpcnaaW.PrintWords.rd, rd_T32, rd_T34])
    rw [show wrap64 ((t.f1.length : Int) + (t.f2.length : Int)) = ((t.f1.length + t.f2.length : Nat) : Int) by rw [w64 (by omega) (by omega)]; omega]
    refine Ev.fold (L := fun (c : Nat) i k => trustquorumref02_Size.l0 k (c : Int) t.f2 (t.f2.length : Int) i) (by omega) (fun pre ys c => c + sizL ys = t.f1.length + t.f2.length + sizL t.f2) ?_ ?_ (t.f1.length + t.f2.length) rfl
    · intro c i hI hi
      rw [sizL] at hI
      (refine Ev.shift ?_; simp only [trustquorumref02_Size.l0, hi, Option.bind_some, ↓reduceIte, Bool.false_eq_true, reduceCtorEq, decide_eq_true_eq, Go.Proofs.YtkjlcbfjllpcnaaW.PrintWords.rd, rd_T32, rd_T34])
      rw [← hI]
      exact Ev.now _
    · intro pre y ys c i e hI hi h0 hlt hw hrd
      rw [sizL] at hI
      refine Or.inl ⟨c + siz y, by omega, fun k => ?_⟩
      (refine Ev.shift ?_; simp only [trustquorumref02_Size.l0, h0, hlt, hw, hrd, Option.bind_some, ↓reduceIte, Bool.false_eq_true, reduceCtorEq, decide_eq_true_eq, Go.Proofs.YtkjlcbfjllpcnaaW.PrintWords.rd, rd_T32, rd_T34])
      refine Ev.bind1 (ref_Size_ev n y (by have := wt_mem (show y ∈ t.f2 by rw [e]; simp); omega) (by omega)) ?_
      rw [show wrap64 ((c : Int) + (siz y : Int)) = ((c + siz y : Nat) : Int) by rw [w64 (by omega) (by omega)]; omega]
      exact k
theorem ref_Of_ev (l : List Int) (hl : l.length < 1152921504606846976) : Ev (fun k => trustquorumref01_Of.f k l) (((ofS 0 l).1 : Int), (ofS 0 l).2) := by
  refine Ev.congr (f := fun k => trustquorumref01_Of.l0 k ((0 : Nat) : Int) l (l.length : Int) 0) (fun k => rfl) ?_
  refine Ev.fold (L := fun (c : Nat) i k => trustquorumref01_Of.l0 k (c : Int) l (l.length : Int) i) (by omega) (fun pre ys c => ofS c ys = ofS 0 l ∧ c < 1024) ?_ ?_ 0 ⟨rfl, by decide⟩
  · rintro c i ⟨hI, hc⟩ hi
    (refine Ev.shift ?_; simp only [trustquorumref01_Of.l0, hi, Option.bind_some, ↓reduceIte, Bool.false_eq_true, reduceCtorEq, decide_eq_true_eq, Go.Proofs.YtkjlcbfjllpcnaaW.PrintWords.rd, rd_T32, rd_T34])
    rw [← hI]
    exact Ev.now _
  · rintro pre y ys c i e ⟨hI, hc⟩ hi h0 hlt hw hrd
    rw [ofS] at hI
    cases hn : noNode y
    · have hb := noNode_not hn
      simp only [hn, Bool.false_eq_true, if_false] at hI
      cases hs : inS c y
      · refine Or.inl ⟨c ||| 2 ^ y.toNat, ⟨by simpa [hs] using hI, or_lt10 hc (two_lt10 (by omega))⟩, fun k => ?_⟩
        have h2 := two_lt10 (show y.toNat < 10 by omega)
        have e2 : Go.bits .or .i64 (c : Int) (shl .i64 1 y) = ((c ||| 2 ^ y.toNat : Nat) : Int) := by
          rw [show y = (y.toNat : Int) by omega, shl_nat (by omega), Int.toNat_natCast, or_nat (by omega) (by omega)]
        have h1 : ¬ y < 0 := by omega
        have h3 : decide (y ≥ 10) = false := by simp; omega
        (refine Ev.shift ?_; simp only [trustquorumref01_Of.l0, h0, hlt, hw, hrd, h1, h3, Option.bind_some, ↓reduceIte, Bool.false_eq_true, reduceCtorEq, decide_eq_true_eq, Go.Proofs.YtkjlcbfjllpcnaaW.PrintWords.rd, rd_T32, rd_T34])
        (refine Ev.shift ?_; simp only [trustquorumref01_Of.j1, ref01_Has_eq hc, hs, hb.1, hw, Option.bind_some, ↓reduceIte, Bool.false_eq_true, reduceCtorEq, decide_eq_true_eq, Go.Proofs.YtkjlcbfjllpcnaaW.PrintWords.rd, rd_T32, rd_T34])
        rw [e2]
        exact k
      · refine Or.inr ?_
        simp only [hs, if_true] at hI
        have h1 : ¬ y < 0 := by omega
        have h3 : decide (y ≥ 10) = false := by simp; omega
        (refine Ev.shift ?_; simp only [trustquorumref01_Of.l0, h0, hlt, hw, hrd, h1, h3, Option.bind_some, ↓reduceIte, Bool.false_eq_true, reduceCtorEq, decide_eq_true_eq, Go.Proofs.YtkjlcbfjllpcnaaW.PrintWords.rd, rd_T32, rd_T34])
        (refine Ev.shift ?_; simp only [trustquorumref01_Of.j1, ref01_Has_eq hc, hs, Option.bind_some, ↓reduceIte, Bool.false_eq_true, reduceCtorEq, decide_eq_true_eq, Go.Proofs.YtkjlcbfjllpcnaaW.PrintWords.rd, rd_T32, rd_T34])
        rw [← hI]
        exact Ev.now _
    · refine Or.inr ?_
      simp only [hn, if_true] at hI
      rw [← hI]
      by_cases h1 : y < 0
      · (refine Ev.shift ?_; simp only [trustquorumref01_Of.l0, h0, hlt, hw, hrd, h1, Option.bind_some, ↓reduceIte, Bool.false_eq_true, reduceCtorEq, decide_eq_true_eq, Go.Proofs.YtkjlcbfjllpcnaaW.PrintWords.rd, rd_T32, rd_T34])
        (refine Ev.shift ?_; simp only [trustquorumref01_Of.j1, Option.bind_some, ↓reduceIte, Bool.false_eq_true, reduceCtorEq, decide_eq_true_eq, Go.Proofs.YtkjlcbfjllpcnaaW.PrintWords.rd, rd_T32, rd_T34])
        exact Ev.now _
      · have h3 : decide (y ≥ 10) = true := by simp [noNode] at hn ⊢; omega
        (refine Ev.shift ?_; simp only [trustquorumref01_Of.l0, h0, hlt, hw, hrd, h1, h3, Option.bind_some, ↓reduceIte, Bool.false_eq_true, reduceCtorEq, decide_eq_true_eq, Go.Proofs.YtkjlcbfjllpcnaaW.PrintWords.rd, rd_T32, rd_T34])
        (refine Ev.shift ?_; simp only [trustquorumref01_Of.j1, Option.bind_some, ↓reduceIte, Bool.false_eq_true, reduceCtorEq, decide_eq_true_eq, Go.Proofs.YtkjlcbfjllpcnaaW.PrintWords.rd, rd_T32, rd_T34])
        exact Ev.now _
theorem ref_level_ev : ∀ (n : Nat) (t : S32), wt t < n → n < 1152921504606846976 → Ev (fun k => trustquorumref02_check.f k t.f0 t.f1 t.f2) (chk t)
  | 0, t, h, _ => absurd h (by omega)
  | n + 1, t, h, hn => by
    rw [wt_eq] at h
    have hl := len_wtL t.f2
    rw [chk_eq]
    have el : wrap64 ((t.f1.length : Int) + (t.f2.length : Int)) = ((t.f1.length + t.f2.length : Nat) : Int) := by rw [w64 (by omega) (by omega)]; omega
    by_cases h1 : t.f0 < 1
    · (refine Ev.shift ?_; simp only [trustquorumref02_check.f, h1, true_or, Option.bind_some, ↓reduceIte, Bool.false_eq_true, reduceCtorEq, decide_eq_true_eq, Go.Proofs.YtkjlcbfjllpcnaaW.PrintWords.rd, rd_T32, rd_T34])
      (refine Ev.shift ?_; simp only [trustquorumref02_check.j0, Option.bind_some, ↓reduceIte, Bool.false_eq_true, reduceCtorEq, decide_eq_true_eq, Go.Proofs.YtkjlcbfjllpcnaaW.PrintWords.rd, rd_T32, rd_T34])
      exact Ev.now _
    by_cases h2 : t.f0 > ((t.f1.length + t.f2.length : Nat) : Int)
    · (refine Ev.shift ?_; simp only [trustquorumref02_check.f, h1, h2, el, or_true, decide_true, Option.bind_some, ↓reduceIte, Bool.false_eq_true, reduceCtorEq, decide_eq_true_eq, Go.Proofs.YtkjlcbfjllpcnaaW.PrintWords.rd, rd_T32, rd_T34])
      (refine Ev.shift ?_; simp only [trustquorumref02_check.j0, Option.bind_some, ↓reduceIte, Bool.false_eq_true, reduceCtorEq, decide_eq_true_eq, Go.Proofs.YtkjlcbfjllpcnaaW.PrintWords.rd, rd_T32, rd_T34])
      exact Ev.now _
    (refine Ev.shift ?_; simp only [trustquorumref02_check.f, h1, h2, el, or_false, decide_false, Option.bind_some, ↓reduceIte, Bool.false_eq_true, reduceCtorEq, decide_eq_true_eq, Go.Proofs.YtkjlcbfjllpcnaaW.PrintWords.rd, rd_T32, rd_T34])
    (refine Ev.shift ?_; simp only [trustquorumref02_check.j0, Option.bind_some, ↓reduceIte, Bool.false_eq_true, reduceCtorEq, decide_eq_true_eq, Go.Proofs.YtkjlcbfjllpcnaaW.PrintWords.rd, rd_T32, rd_T34])
    have l1 : Ev (fun k => trustquorumref02_check.l1 k t.f2 (t.f2.length : Int) 0) (chkL t.f2) := by
        refine Ev.fold (L := fun (c : Unit) i k => trustquorumref02_check.l1 k t.f2 (t.f2.length : Int) i) (by omega) (fun pre ys c => chkL ys = chkL t.f2) ?_ ?_ () rfl
        · intro c i hI hi
          rw [chkL] at hI
          (refine Ev.shift ?_; simp only [trustquorumref02_check.l1, hi, Option.bind_some, ↓reduceIte, Bool.false_eq_true, reduceCtorEq, decide_eq_true_eq, Go.Proofs.YtkjlcbfjllpcnaaW.PrintWords.rd, rd_T32, rd_T34])
          rw [← hI]
          exact Ev.now _
        · intro pre y ys c i e hI hi h0 hlt hw hrd
          rw [chkL] at hI
          have hy := ref_level_ev n y (by have := wt_mem (show y ∈ t.f2 by rw [e]; simp); omega) (by omega)
          by_cases h4 : chk y = 0
          · refine Or.inl ⟨(), by rw [← hI, if_pos h4], fun k => ?_⟩
            (refine Ev.shift ?_; simp only [trustquorumref02_check.l1, h0, hlt, hw, hrd, Option.bind_some, ↓reduceIte, Bool.false_eq_true, reduceCtorEq, decide_eq_true_eq, Go.Proofs.YtkjlcbfjllpcnaaW.PrintWords.rd, rd_T32, rd_T34])
            refine Ev.bind1 hy ?_
            simp only [h4, if_true]
            exact k
          · refine Or.inr ?_
            rw [← hI, if_neg h4]
            (refine Ev.shift ?_; simp only [trustquorumref02_check.l1, h0, hlt, hw, hrd, Option.bind_some, ↓reduceIte, Bool.false_eq_true, reduceCtorEq, decide_eq_true_eq, Go.Proofs.YtkjlcbfjllpcnaaW.PrintWords.rd, rd_T32, rd_T34])
            refine Ev.bind1 hy ?_
            simp only [h4, if_false]
            exact Ev.now _
    generalize hT : (if (t.f1.any noNode) = true then 5 else if (ofS 0 t.f1).2 = 0 then chkL t.f2 else (ofS 0 t.f1).2) = T
    refine Ev.fold (L := fun (c : Unit) i k => trustquorumref02_check.l0 k t.f1 (t.f1.length : Int) i t.f0 t.f1 t.f2) (by omega) (fun pre ys c => (if (ys.any noNode) = true then 5 else if (ofS 0 t.f1).2 = 0 then chkL t.f2 else (ofS 0 t.f1).2) = T) ?_ ?_ () hT
    · intro c i hI hi
      simp only [List.any_nil, Bool.false_eq_true, if_false] at hI
      (refine Ev.shift ?_; simp only [trustquorumref02_check.l0, hi, Option.bind_some, ↓reduceIte, Bool.false_eq_true, reduceCtorEq, decide_eq_true_eq, Go.Proofs.YtkjlcbfjllpcnaaW.PrintWords.rd, rd_T32, rd_T34])
      refine Ev.bind1 (ref_Of_ev t.f1 (by omega)) ?_
      rw [← hI]
      by_cases h3 : (ofS 0 t.f1).2 = 0
      · simp only [h3, if_true]
        exact l1
      · simp only [h3, if_false]
        exact Ev.now _
    · intro pre y ys c i e hI hi h0 hlt hw hrd
      rw [List.any_cons] at hI
      cases hn : noNode y
      · have hb := noNode_not hn
        have h3 : ¬ y < 0 := by omega
        have h4 : ¬ y ≥ 10 := by omega
        refine Or.inl ⟨(), by simpa [hn] using hI, fun k => ?_⟩
        (refine Ev.shift ?_; simp only [trustquorumref02_check.l0, h0, hlt, hw, hrd, h3, h4, Option.bind_some, ↓reduceIte, Bool.false_eq_true, reduceCtorEq, decide_eq_true_eq, Go.Proofs.YtkjlcbfjllpcnaaW.PrintWords.rd, rd_T32, rd_T34])
        exact k
      · refine Or.inr ?_
        simp only [hn, Bool.true_or, if_true] at hI
        rw [← hI]
        by_cases h3 : y < 0
        · (refine Ev.shift ?_; simp only [trustquorumref02_check.l0, h0, hlt, hw, hrd, h3, Option.bind_some, ↓reduceIte, Bool.false_eq_true, reduceCtorEq, decide_eq_true_eq, Go.Proofs.YtkjlcbfjllpcnaaW.PrintWords.rd, rd_T32, rd_T34])
          exact Ev.now _
        · have h4 : y ≥ 10 := by simp [noNode] at hn; omega
          (refine Ev.shift ?_; simp only [trustquorumref02_check.l0, h0, hlt, hw, hrd, h3, h4, Option.bind_some, ↓reduceIte, Bool.false_eq_true, reduceCtorEq, decide_eq_true_eq, Go.Proofs.YtkjlcbfjllpcnaaW.PrintWords.rd, rd_T32, rd_T34])
          exact Ev.now _
theorem ref_Valid_ev (t : S32) (h : wt t < 1000000) : Ev (fun k => trustquorumref02_Valid.f k t.f0 t.f1 t.f2) (validT t) := by
  simp only [trustquorumref02_Valid.f, validT, Option.bind_some, ↓reduceIte, Bool.false_eq_true, reduceCtorEq, decide_eq_true_eq, Go.Proofs.YtkjlcbfjllpcnaaW.PrintWords.rd, rd_T32, rd_T34]
  refine Ev.bind1 (ref_Depth_ev 1000000 t h (by decide)) ?_
  by_cases h1 : dep t > 4
  · have : (dep t : Int) > 4 := by omega
    simp only [h1, this, Option.bind_some, ↓reduceIte, Bool.false_eq_true, reduceCtorEq, decide_eq_true_eq, Go.Proofs.YtkjlcbfjllpcnaaW.PrintWords.rd, rd_T32, rd_T34]
    exact Ev.now _
  have h2 : ¬ (dep t : Int) > 4 := by omega
  simp only [h1, h2, Option.bind_some, ↓reduceIte, Bool.false_eq_true, reduceCtorEq, decide_eq_true_eq, Go.Proofs.YtkjlcbfjllpcnaaW.PrintWords.rd, rd_T32, rd_T34]
  refine Ev.bind1 (ref_Size_ev 1000000 t h (by decide)) ?_
  by_cases h3 : siz t > 200
  · have : (siz t : Int) > 200 := by omega
    simp only [h3, this, Option.bind_some, ↓reduceIte, Bool.false_eq_true, reduceCtorEq, decide_eq_true_eq, Go.Proofs.YtkjlcbfjllpcnaaW.PrintWords.rd, rd_T32, rd_T34]
    exact Ev.now _
  have h4 : ¬ (siz t : Int) > 200 := by omega
  simp only [h3, h4, Option.bind_some, ↓reduceIte, Bool.false_eq_true, reduceCtorEq, decide_eq_true_eq, Go.Proofs.YtkjlcbfjllpcnaaW.PrintWords.rd, rd_T32, rd_T34]
  refine Ev.bind1 (ref_level_ev 1000000 t h (by decide)) ?_
  exact Ev.now _
def EvP {α : Type} (g : Nat → Option α) (P : α → Prop) : Prop := ∃ r, P r ∧ Ev g r
theorem EvP.now {α : Type} {P : α → Prop} {r : α} (h : P r) : EvP (fun _ => some r) P := ⟨r, h, Ev.now r⟩
theorem EvP.shift {α : Type} {g : Nat → Option α} {P : α → Prop} (h : EvP (fun k => g (k + 1)) P) : EvP g P := by
  obtain ⟨r, h1, h2⟩ := h
  exact ⟨r, h1, Ev.shift h2⟩
theorem EvP.bind {α β : Type} {g : Nat → Option α} {f : Nat → α → Option β} {P : α → Prop} {Q : β → Prop} (h : EvP g P) (k : ∀ a, P a → EvP (fun n => f n a) Q) : EvP (fun n => (g n).bind (f n)) Q := by
  obtain ⟨a, h1, h2⟩ := h
  obtain ⟨r, k1, k2⟩ := k a h1
  exact ⟨r, k1, Ev.bind h2 k2⟩
theorem EvP.imp {α : Type} {g : Nat → Option α} {P Q : α → Prop} (h : EvP g P) (k : ∀ a, P a → Q a) : EvP g Q := by
  obtain ⟨r, h1, h2⟩ := h
  exact ⟨r, k r h1, h2⟩
theorem EvP.ofEv {α : Type} {g : Nat → Option α} {r : α} (h : Ev g r) : EvP g (fun x => x = r) := ⟨r, rfl, h⟩
theorem EvP.loop {σ ρ : Type} {L : σ → Nat → Option ρ} {Q : ρ → Prop} (I : σ → Prop) (m : σ → Nat)
    (hstep : ∀ c, I c → (∀ c', I c' → m c' < m c → EvP (L c') Q) → EvP (L c) Q) (c0 : σ) (h0 : I c0) : EvP (L c0) Q := by
  have key : ∀ n c, m c < n → I c → EvP (L c) Q := by
    intro n
    induction n with
    | zero => intro c h; exact absurd h (by omega)
    | succ n ih => intro c h hc; exact hstep c hc fun c' h' hm => ih c' (by omega) h'
  exact key (m c0 + 1) c0 (by omega) h0
theorem tN {s : List Int} (hs : s.length < 4611686018427387904) {s1 a : Int} (h1 : 0 ≤ s1) (ha : 0 < a) (ha2 : a < 4611686018427387904) :
    EvP (fun _ => trustquorummake_Tape_N.f s s1 a) (fun r => (0 ≤ r.1 ∧ r.1 < a) ∧ 0 ≤ r.2) := by
  unfold trustquorummake_Tape_N.f
  by_cases h : s1 ≥ (s.length : Int)
  · simp only [h, if_true]
    exact EvP.now ⟨⟨by simp, by simpa using ha⟩, h1⟩
  have h2 : s1 < (s.length : Int) := by omega
  have h3 : ¬ a = 0 := by omega
  have hb1 := Int.tmod_lt_of_pos (rd s s1) ha
  have hb2 : - a < Int.tmod (rd s s1) a := by
    have := Int.lt_tmod_of_pos (rd s s1) ha
    omega
  simp only [h, if_false, h1, if_true, h2, h3]
  by_cases h4 : Int.tmod (rd s s1) a < 0
  · simp only [h4, if_true]
    refine EvP.now ?_
    show (0 ≤ wrap64 _ ∧ wrap64 _ < a) ∧ 0 ≤ wrap64 _
    rw [w64 (by omega) (by omega), w64 (by omega) (by omega)]
    omega
  · simp only [h4, if_false]
    refine EvP.now ?_
    show (0 ≤ Int.tmod (rd s s1) a ∧ Int.tmod (rd s s1) a < a) ∧ 0 ≤ wrap64 _
    rw [w64 (by omega) (by omega)]
    omega
theorem tRange {s : List Int} (hs : s.length < 4611686018427387904) {s1 a b : Int} (h1 : 0 ≤ s1) (ha : 0 ≤ a) (hb : a ≤ b) (hb2 : b < 4611686018427387) :
    EvP (fun _ => trustquorummake_Tape_Range.f s s1 a b) (fun r => (a ≤ r.1 ∧ r.1 ≤ b) ∧ 0 ≤ r.2) := by
  unfold trustquorummake_Tape_Range.f
  rw [w64 (n := b - a) (by omega) (by omega), w64 (by omega) (by omega)]
  refine EvP.bind (tN hs h1 (by omega) (by omega)) ?_
  rintro ⟨v, s'⟩ ⟨⟨h2, h3⟩, h4⟩
  refine EvP.now ?_
  show (a ≤ wrap64 _ ∧ wrap64 _ ≤ b) ∧ 0 ≤ s'
  simp only at h2 h3 h4 ⊢
  rw [w64 (by omega) (by omega)]
  omega
theorem tPick {s : List Int} (hs : s.length < 4611686018427387904) {s1 : Int} {l : List Int} (h1 : 0 ≤ s1) (ha : 0 < l.length) (hl : l.length < 4611686018427387904) :
    EvP (fun _ => trustquorummake_Tape_Pick.f s s1 l) (fun r => r.1 ∈ l ∧ 0 ≤ r.2) := by
  unfold trustquorummake_Tape_Pick.f
  refine EvP.bind (tN hs h1 (by omega) (by omega)) ?_
  rintro ⟨v, s'⟩ ⟨⟨h2, h3⟩, h4⟩
  simp only at h2 h3 h4 ⊢
  simp only [h2, h3, if_true]
  refine EvP.now ⟨?_, h4⟩
  simp only [rd]
  have h5 : v.toNat < l.length := by omega
  rw [List.getD_eq_getElem?_getD, List.getElem?_eq_getElem h5]
  exact List.getElem_mem h5
theorem tOrder {s : List Int} (hs : s.length < 4611686018427387904) {s1 : Int} {n : Nat} (h1 : 0 ≤ s1) (hn : n ≤ 1000) :
    EvP (fun k => trustquorummake_Tape_Order.f k s s1 (n : Int)) (fun r => (r.1.length = n ∧ ∀ x ∈ r.1, 0 ≤ x ∧ x < (n : Int)) ∧ 0 ≤ r.2) := by
  simp only [trustquorummake_Tape_Order.f]
  have l1 : ∀ (l : List Int) (i : Int) (s1 : Int), 0 ≤ s1 → l.length = n → (∀ x ∈ l, 0 ≤ x ∧ x < (n : Int)) → i < n →
      EvP (fun k => trustquorummake_Tape_Order.l1 k l i s s1) (fun r => (r.1.length = n ∧ ∀ x ∈ r.1, 0 ≤ x ∧ x < (n : Int)) ∧ 0 ≤ r.2) := by
    intro l i s1 h1 hl hx hi
    refine EvP.loop (L := fun (c : List Int × Int × Int) k => trustquorummake_Tape_Order.l1 k c.1 c.2.1 s c.2.2) (fun c => 0 ≤ c.2.2 ∧ c.1.length = n ∧ (∀ x ∈ c.1, 0 ≤ x ∧ x < (n : Int)) ∧ c.2.1 < n) (fun c => c.2.1.toNat) ?_ (l, i, s1) ⟨h1, hl, hx, hi⟩
    rintro ⟨l, i, s1⟩ ⟨h1, hl, hx, hi⟩ ih
    simp only at h1 hl hx hi ih ⊢
    by_cases h0 : i > 0
    · have e1 : wrap64 (i + 1) = i + 1 := w64 (by omega) (by omega)
      have e2 : wrap64 (i - 1) = i - 1 := w64 (by omega) (by omega)
      have h3 : 0 ≤ i := by omega
      have h4 : i < (l.length : Int) := by omega
      (refine EvP.shift ?_; simp only [trustquorummake_Tape_Order.l1, h0, e1, e2, h3, h4, Option.bind_some, ↓reduceIte, Bool.false_eq_true, reduceCtorEq, decide_eq_true_eq, Go.Proofs.YtkjlcbfjllpcnaaW.PrintWords.rd, rd_T32, rd_T34])
      refine EvP.bind (tN hs h1 (by omega) (by omega)) ?_
      rintro ⟨v, s'⟩ ⟨⟨h5, h6⟩, h7⟩
      simp only at h5 h6 h7 ⊢
      have h8 : v < (l.length : Int) := by omega
      simp only [h5, h8, if_true]
      have hm : ∀ j : Nat, j < l.length → l.getD j 0 ∈ l := fun j hj => by
        rw [List.getD_eq_getElem?_getD, List.getElem?_eq_getElem hj]; exact List.getElem_mem hj
      refine ih (_, i - 1, s') ⟨h7, by simpa using hl, ?_, by show i - 1 < n; omega⟩ (by show (i - 1).toNat < i.toNat; omega)
      intro x hx'
      rcases List.mem_or_eq_of_mem_set hx' with h | h
      · rcases List.mem_or_eq_of_mem_set h with h | h
        · exact hx x h
        · rw [h]; exact hx _ (hm _ (by omega))
      · rw [h]; exact hx _ (hm _ (by omega))
    · (refine EvP.shift ?_; simp only [trustquorummake_Tape_Order.l1, h0, Option.bind_some, ↓reduceIte, Bool.false_eq_true, reduceCtorEq, decide_eq_true_eq, Go.Proofs.YtkjlcbfjllpcnaaW.PrintWords.rd, rd_T32, rd_T34])
      exact EvP.now ⟨⟨hl, hx⟩, h1⟩
  refine EvP.loop (L := fun (c : List Int × Int) k => trustquorummake_Tape_Order.l0 k (n : Int) c.1 c.2 s s1) (fun c => c.2 = (c.1.length : Int) ∧ c.2 ≤ n ∧ (∀ x ∈ c.1, 0 ≤ x ∧ x < (n : Int))) (fun c => n - c.1.length) ?_ ([], 0) ⟨rfl, by show (0 : Int) ≤ n; omega, by simp⟩
  rintro ⟨l, i⟩ ⟨h2, h3, hx⟩ ih
  simp only at h2 h3 hx ih ⊢
  by_cases h0 : i < (n : Int)
  · have e1 : wrap64 (i + 1) = i + 1 := w64 (by omega) (by omega)
    have h4 : l.length < 17592186044416 := by omega
    (refine EvP.shift ?_; simp only [trustquorummake_Tape_Order.l0, h0, e1, h4, Option.bind_some, ↓reduceIte, Bool.false_eq_true, reduceCtorEq, decide_eq_true_eq, Go.Proofs.YtkjlcbfjllpcnaaW.PrintWords.rd, rd_T32, rd_T34])
    refine ih (l ++ [i], i + 1) ⟨by simp; omega, by show i + 1 ≤ n; omega, ?_⟩ (by simp; omega)
    intro x hx'
    rcases List.mem_append.1 hx' with h | h
    · exact hx x h
    · rw [List.mem_singleton.1 h]; omega
  · (refine EvP.shift ?_; simp only [trustquorummake_Tape_Order.l0, h0, Option.bind_some, ↓reduceIte, Bool.false_eq_true, reduceCtorEq, decide_eq_true_eq, Go.Proofs.YtkjlcbfjllpcnaaW.PrintWords.rd, rd_T32, rd_T34])
    exact l1 l _ s1 h1 (by omega) hx (by rw [w64 (by omega) (by omega)]; omega)
def foldU (l : List Int) (a : Nat) : Nat := l.foldl (fun a x => if noNode x = true then a else a ||| 2 ^ x.toNat) a
theorem foldU_lt {n : Nat} (hn : n ≤ 10) : ∀ (l : List Int) (a : Nat), a < 2 ^ n → (∀ x ∈ l, 0 ≤ x ∧ x < (n : Int)) → foldU l a < 2 ^ n := by
  intro l
  induction l with
  | nil => intro a h _; exact h
  | cons x xs ih =>
    intro a h hx
    have h1 := hx x (by simp)
    show foldU xs (if noNode x = true then a else a ||| 2 ^ x.toNat) < 2 ^ n
    refine ih _ ?_ fun y hy => hx y (by simp [hy])
    split
    · exact h
    · exact or_lt h (Nat.pow_lt_pow_right (by decide) (by omega))
theorem useL_lt2 {n : Nat} : ∀ (l : List S32), (∀ t ∈ l, uses t < 2 ^ n) → useL l < 2 ^ n
  | [], _ => by rw [useL]; exact Nat.two_pow_pos n
  | t :: ts, h => by rw [useL]; exact or_lt (h t (by simp)) (useL_lt2 ts fun y hy => h y (by simp [hy]))
theorem wtL_le {b : Nat} : ∀ (l : List S32), (∀ t ∈ l, wt t ≤ b) → wtL l ≤ l.length * b
  | [], _ => by rw [wtL]; omega
  | t :: ts, h => by
    rw [wtL, List.length_cons, Nat.add_mul]
    have := h t (by simp)
    have := wtL_le ts fun y hy => h y (by simp [hy])
    omega
def In (n b : Nat) (t : S32) : Prop := wt t ≤ b ∧ uses t < 2 ^ n
theorem In_mk {n b : Nat} (hn : n ≤ 10) {v : Int} {l : List Int} {ts : List S32} (h2 : ∀ x ∈ l, 0 ≤ x ∧ x < (n : Int)) (h4 : ∀ t ∈ ts, In n b t) (B : Nat) (hB : 1 + l.length + ts.length * b ≤ B) : In n B ⟨v, l, ts⟩ := by
  constructor
  · rw [wt_eq]
    have := wtL_le ts fun t ht => (h4 t ht).1
    simp only
    omega
  · rw [uses_eq]
    exact or_lt (foldU_lt hn l 0 (Nat.two_pow_pos n) h2) (useL_lt2 ts fun t ht => (h4 t ht).2)
abbrev toT (r : Int × List Int × List S32 × Int) : S32 := ⟨r.1, r.2.1, r.2.2.1⟩
theorem trust_row {s : List Int} (hs : s.length < 4611686018427387904) {n b : Nat} (hn : n ≤ 10) (hn1 : 1 ≤ n) (hb : b ≤ 100) (a2 : Int) (h2 : a2 ≤ 10)
    (hrec : a2 > 1 → ∀ s1, 0 ≤ s1 → EvP (fun k => trustquorummake_trust.f k s s1 (n : Int) (wrap64 (a2 - 1))) (fun r => In n b (toT r) ∧ 0 ≤ r.2.2.2)) {s1 : Int} (h1 : 0 ≤ s1) :
    EvP (fun k => trustquorummake_trust.f k s s1 (n : Int) a2) (fun r => In n (6 + 3 * b) (toT r) ∧ 0 ≤ r.2.2.2) := by
  have fin : ∀ (v : Int) (l : List Int) (ts : List S32), l.length ≤ 5 → (∀ x ∈ l, 0 ≤ x ∧ x < (n : Int)) → ts.length ≤ 3 → (∀ t ∈ ts, In n b t) → In n (6 + 3 * b) ⟨v, l, ts⟩ := by
    intro v l ts h1 h2 h3 h4
    refine In_mk hn h2 h4 _ ?_
    have : ts.length * b ≤ 3 * b := Nat.mul_le_mul_right b h3
    omega
  have fine : ∀ (v : Int) (l : List Int) (ts : List S32) (s2 : Int), l.length ≤ 5 → (∀ x ∈ l, 0 ≤ x ∧ x < (n : Int)) → ts.length ≤ 3 → (∀ t ∈ ts, In n b t) → 0 ≤ s2 → EvP (fun _ => some (v, l, ts, s2)) (fun r => In n (6 + 3 * b) (toT r) ∧ 0 ≤ r.2.2.2) :=
    fun v l ts s2 h1 h2 h3 h4 h5 => EvP.now ⟨fin v l ts h1 h2 h3 h4, h5⟩
  clear fin
  generalize 6 + 3 * b = B at fine ⊢
  have L1 : ∀ (l : List Int), 1 ≤ l.length → l.length ≤ 5 → (∀ x ∈ l, 0 ≤ x ∧ x < (n : Int)) → a2 > 1 → ∀ (m : Nat), m ≤ 3 → ∀ (s1 : Int), 0 ≤ s1 →
      EvP (fun k => trustquorummake_trust.l1 k (n : Int) a2 (m : Int) s s1 0 l ([] : List S32)) (fun r => In n B (toT r) ∧ 0 ≤ r.2.2.2) := by
    intro l hl0 hl hx ha m hm s1 h1
    refine EvP.loop (L := fun (c : Nat × Int × List S32) k => trustquorummake_trust.l1 k (n : Int) a2 (c.1 : Int) s c.2.1 0 l c.2.2) (fun c => 0 ≤ c.2.1 ∧ c.1 + c.2.2.length ≤ 3 ∧ ∀ t ∈ c.2.2, In n b t) (fun c => c.1) ?_ (m, s1, []) ⟨h1, by simp; omega, by simp⟩
    rintro ⟨m, s1, ts⟩ ⟨h1, h3, h4⟩ ih
    simp only at h1 h3 h4 ih ⊢
    by_cases h0 : (m : Int) > 0
    · have e1 : wrap64 ((m : Int) - 1) = ((m - 1 : Nat) : Int) := by rw [w64 (by omega) (by omega)]; omega
      have h6 : ts.length < 2513169434916 := by omega
      (refine EvP.shift ?_; simp only [trustquorummake_trust.l1, h0, e1, h6, Option.bind_some, ↓reduceIte, Bool.false_eq_true, reduceCtorEq, decide_eq_true_eq, Go.Proofs.YtkjlcbfjllpcnaaW.PrintWords.rd, rd_T32, rd_T34])
      refine EvP.bind (hrec ha s1 h1) ?_
      rintro ⟨v, l', ts', s'⟩ ⟨h7, h8⟩
      refine ih (m - 1, s', ts ++ [⟨v, l', ts'⟩]) ⟨h8, by simp; omega, ?_⟩ (by show m - 1 < m; omega)
      intro t ht
      rcases List.mem_append.1 ht with h | h
      · exact h4 t h
      · rw [List.mem_singleton.1 h]; exact h7
    · clear ih
      have ew : wrap64 ((l.length : Int) + (ts.length : Int)) = (l.length : Int) + (ts.length : Int) := w64 (by omega) (by omega)
      by_cases h5 : (ts.length : Int) > 0
      · (refine EvP.shift ?_; simp only [trustquorummake_trust.l1, h0, h5, ew, Option.bind_some, ↓reduceIte, Bool.false_eq_true, reduceCtorEq, decide_eq_true_eq, Go.Proofs.YtkjlcbfjllpcnaaW.PrintWords.rd, rd_T32, rd_T34])
        clear ew
        refine EvP.bind (tN hs h1 (by omega) (by omega)) ?_
        rintro ⟨v, s'⟩ ⟨⟨h6, h7⟩, h8⟩
        simp only at h6 h7 h8 ⊢
        split
        · rw [show wrap64 ((([] : List Int).length : Int) + (ts.length : Int)) = (ts.length : Int) by rw [List.length_nil, w64 (by omega) (by omega)]; omega]
          refine EvP.bind (tRange hs h8 (by omega) (by omega) (by omega)) ?_
          rintro ⟨v2, s2⟩ ⟨h9, h10⟩
          exact fine v2 [] ts s2 (by simp) (by simp) (by omega) h4 h10
        · refine EvP.bind (tRange hs h8 (by omega) (by omega) (by omega)) ?_
          rintro ⟨v2, s2⟩ ⟨h9, h10⟩
          exact fine v2 l ts s2 hl hx (by omega) h4 h10
      · (refine EvP.shift ?_; simp only [trustquorummake_trust.l1, h0, h5, ew, Option.bind_some, ↓reduceIte, Bool.false_eq_true, reduceCtorEq, decide_eq_true_eq, Go.Proofs.YtkjlcbfjllpcnaaW.PrintWords.rd, rd_T32, rd_T34])
        clear ew
        refine EvP.bind (tRange hs h1 (by omega) (by omega) (by omega)) ?_
        rintro ⟨v2, s2⟩ ⟨h9, h10⟩
        exact fine v2 l ts s2 hl hx (by omega) h4 h10
  have mnv : mn (n : Int) 5 ≤ n ∧ 1 ≤ mn (n : Int) 5 ∧ mn (n : Int) 5 ≤ 5 := by unfold mn; split <;> omega
  (refine EvP.shift ?_; simp only [trustquorummake_trust.f, Option.bind_some, ↓reduceIte, Bool.false_eq_true, reduceCtorEq, decide_eq_true_eq, Go.Proofs.YtkjlcbfjllpcnaaW.PrintWords.rd, rd_T32, rd_T34])
  refine EvP.bind (tOrder hs h1 (by omega)) ?_
  rintro ⟨o, s2⟩ ⟨⟨ho, hox⟩, h2'⟩
  simp only at ho hox h2' ⊢
  refine EvP.bind (tRange hs h2' (by omega) mnv.2.1 (by omega)) ?_
  rintro ⟨q, s3⟩ ⟨⟨hq1, hq2⟩, h3'⟩
  simp only at hq1 hq2 h3' ⊢
  have hq3 : 0 ≤ q := by omega
  have hq4 : q ≤ (o.length : Int) := by omega
  simp only [hq3, hq4, if_true, Option.bind_some]
  generalize hy : o.take q.toNat = y
  have hyl : y.length = q.toNat := by rw [← hy, List.length_take]; omega
  have hyx : ∀ x ∈ y, 0 ≤ x ∧ x < (n : Int) := fun x hx => hox x (by rw [← hy] at hx; exact List.mem_of_mem_take hx)
  refine EvP.loop (L := fun (c : List Int × Int) k => trustquorummake_trust.l0 k (n : Int) a2 y (y.length : Int) c.2 s s3 0 c.1) (fun c => c.2 = (c.1.length : Int) ∧ c.1.length ≤ y.length ∧ (∀ x ∈ c.1, 0 ≤ x ∧ x < (n : Int))) (fun c => y.length - c.1.length) ?_ ([], 0) ⟨rfl, by simp, by simp⟩
  rintro ⟨l, i⟩ ⟨h3, h4, hx⟩ ih
  simp only at h3 h4 hx ih ⊢
  by_cases h0 : i < (y.length : Int)
  · have e1 : wrap64 (i + 1) = i + 1 := w64 (by omega) (by omega)
    have h6 : l.length < 17592186044416 := by omega
    have h7 : 0 ≤ i := by omega
    (refine EvP.shift ?_; simp only [trustquorummake_trust.l0, h0, e1, h6, h7, Option.bind_some, ↓reduceIte, Bool.false_eq_true, reduceCtorEq, decide_eq_true_eq, Go.Proofs.YtkjlcbfjllpcnaaW.PrintWords.rd, rd_T32, rd_T34])
    refine ih (l ++ [y.getD i.toNat 0], i + 1) ⟨by simp; omega, by simp; omega, ?_⟩ (by simp; omega)
    intro x hx'
    rcases List.mem_append.1 hx' with h | h
    · exact hx x h
    · rw [List.mem_singleton.1 h, List.getD_eq_getElem?_getD, List.getElem?_eq_getElem (show i.toNat < y.length by omega)]
      exact hyx _ (List.getElem_mem _)
  · by_cases ha : a2 > 1
    · (refine EvP.shift ?_; simp only [trustquorummake_trust.l0, h0, ha, Option.bind_some, ↓reduceIte, Bool.false_eq_true, reduceCtorEq, decide_eq_true_eq, Go.Proofs.YtkjlcbfjllpcnaaW.PrintWords.rd, rd_T32, rd_T34])
      refine EvP.bind (tPick hs h3' (by decide) (by decide)) ?_
      rintro ⟨p, s4⟩ ⟨hp, h4'⟩
      simp only at hp h4' ⊢
      have hp2 : 0 ≤ p ∧ p ≤ 3 := by
        simp only [List.mem_cons, List.not_mem_nil, or_false] at hp
        omega
      have := L1 l (by omega) (by omega) hx ha p.toNat (by omega) s4 h4'
      rw [show ((p.toNat : Nat) : Int) = p by omega] at this
      exact this
    · (refine EvP.shift ?_; simp only [trustquorummake_trust.l0, h0, ha, Option.bind_some, ↓reduceIte, Bool.false_eq_true, reduceCtorEq, decide_eq_true_eq, Go.Proofs.YtkjlcbfjllpcnaaW.PrintWords.rd, rd_T32, rd_T34])
      rw [show wrap64 ((l.length : Int) + (([] : List S32).length : Int)) = (l.length : Int) by rw [List.length_nil, w64 (by omega) (by omega)]; omega]
      refine EvP.bind (tRange hs h3' (by omega) (by omega) (by omega)) ?_
      rintro ⟨v2, s2⟩ ⟨h9, h10⟩
      exact fine v2 l [] s2 (by omega) hx (by simp) (by simp) h10
theorem trust_ev {s : List Int} (hs : s.length < 4611686018427387904) {n : Nat} (hn : n ≤ 10) (hn1 : 1 ≤ n) {s1 : Int} (h1 : 0 ≤ s1) :
    EvP (fun k => trustquorummake_trust.f k s s1 (n : Int) 2) (fun r => In n 24 (toT r) ∧ 0 ≤ r.2.2.2) :=
  trust_row hs (b := 6) hn hn1 (by decide) 2 (by decide) (fun _ s1 h1 => by
    rw [show wrap64 ((2 : Int) - 1) = 1 from w64 (by decide) (by decide)]
    exact trust_row hs (b := 0) hn hn1 (by decide) 1 (by decide) (fun h => absurd h (by decide)) h1) h1
def Okt (n : Nat) (t : S32) : Prop := validT t = 0 ∧ In n 100 t
theorem one_ok {n : Nat} {v : Int} (h0 : 0 ≤ v) (h1 : v < (n : Int)) (hn : n ≤ 10) : Okt n ⟨1, [v], []⟩ := by
  constructor
  · have hv : noNode v = false := by simp [noNode]; omega
    have : (ofS 0 [v]).2 = 0 := by
      rw [ofS, hv, ofS]; simp [inS]
    simp [validT, dep, siz, depL, sizL, chk, chkL, hv, this]
  · exact In_mk hn (b := 0) (by simp; omega) (by simp) _ (by simp)
theorem Trust_ev {s : List Int} (hs : s.length < 4611686018427387904) {n : Nat} (hn : n ≤ 10) (hn1 : 1 ≤ n) {s1 : Int} (h1 : 0 ≤ s1) :
    EvP (fun k => trustquorummake_Trust.f k s s1 (n : Int) 2) (fun r => Okt n (toT r) ∧ 0 ≤ r.2.2.2) := by
  simp only [trustquorummake_Trust.f]
  refine EvP.bind (trust_ev hs hn hn1 h1) ?_
  rintro ⟨v, l, ts, s'⟩ ⟨h2, h3⟩
  simp only at h2 h3 ⊢
  refine EvP.bind (EvP.ofEv (ref_Valid_ev (toT (v, l, ts, s')) (by have := h2.1; omega))) ?_
  rintro r rfl
  by_cases h : validT (toT (v, l, ts, s')) = 0
  · simp only [h, if_true]
    exact EvP.now ⟨⟨h, Nat.le_trans h2.1 (by decide), h2.2⟩, h3⟩
  · simp only [h, if_false]
    refine EvP.bind (tN hs h3 (by omega) (by omega)) ?_
    rintro ⟨v, s'⟩ ⟨⟨h2, h3⟩, h4⟩
    exact EvP.now ⟨one_ok h2 h3 hn, h4⟩
theorem ofS_snoc (l : List Int) (x : Int) : ∀ a, (ofS a l).2 = 0 → ofS a (l ++ [x]) = if noNode x = true then (0, 5) else if inS (ofS a l).1 x = true then (0, 6) else ((ofS a l).1 ||| 2 ^ x.toNat, 0) := by
  induction l with
  | nil => intro a _; rw [List.nil_append, ofS, ofS, ofS]
  | cons y ys ih =>
    intro a h
    rw [List.cons_append, ofS]
    rw [ofS] at h ⊢
    split at h
    · cases h
    · split at h
      · cases h
      · rename_i h1 h2
        simp only [h1, h2, if_false]
        exact ih _ h
def Asc (n : Nat) (l : List Int) : Prop := l.length ≤ n ∧ (ofS 0 l).2 = 0 ∧ (ofS 0 l).1 < 2 ^ n ∧ ∀ x ∈ l, 0 ≤ x ∧ x < (n : Int)
theorem Asc_nil (n : Nat) : Asc n [] := ⟨by simp, rfl, Nat.two_pow_pos n, by simp⟩
theorem Asc_snoc {n m : Nat} {l : List Int} (h : Asc n l) (hm : m ≤ 10) (hnm : n < m) : Asc m (l ++ [(n : Int)]) := by
  obtain ⟨h1, h2, h3, h4⟩ := h
  have hv : noNode (n : Int) = false := by simp [noNode]; omega
  have hi : inS (ofS 0 l).1 (n : Int) = false := by rw [inS_nat _ _ (by omega)]; exact bit_lt h3 (Nat.le_refl _)
  have e := ofS_snoc l (n : Int) 0 h2
  rw [hv, hi] at e
  simp only [Bool.false_eq_true, if_false] at e
  refine ⟨by simp; omega, by rw [e], ?_, ?_⟩
  · rw [e]
    exact or_lt (Nat.lt_of_lt_of_le h3 (Nat.pow_le_pow_right (by decide) (by omega))) (by rw [Int.toNat_natCast]; exact Nat.pow_lt_pow_right (by decide) hnm)
  · intro x hx
    rcases List.mem_append.1 hx with h | h
    · have := h4 x h; omega
    · rw [List.mem_singleton.1 h]; omega
theorem Asc.mono {n m : Nat} {l : List Int} (h : Asc n l) (hnm : n ≤ m) : Asc m l := by
  obtain ⟨h1, h2, h3, h4⟩ := h
  exact ⟨by omega, h2, Nat.lt_of_lt_of_le h3 (Nat.pow_le_pow_right (by decide) hnm), fun x hx => by have := h4 x hx; omega⟩
theorem Asc.any {n : Nat} {l : List Int} (h : Asc n l) (hn : n ≤ 10) : l.any noNode = false := by
  rw [List.any_eq_false]
  intro x hx
  have := h.2.2.2 x hx
  simp [noNode]; omega
def Flat (n : Nat) (t : S32) : Prop := Asc n t.f1 ∧ t.f2 = [] ∧ 1 ≤ t.f0 ∧ t.f0 ≤ (t.f1.length : Int)
theorem flat_chk {n : Nat} {t : S32} (hn : n ≤ 10) (h : Flat n t) : chk t = 0 := by
  obtain ⟨h1, h2, h3, h4⟩ := h
  rw [chk_eq, h2, h1.any hn, h1.2.1, if_neg (by simp; omega)]
  simp [chkL]
theorem flat_in {n : Nat} {t : S32} (hn : n ≤ 10) (h : Flat n t) : In n 11 t := by
  obtain ⟨h1, h2, h3, h4⟩ := h
  have e : t = ⟨t.f0, t.f1, []⟩ := by cases t; simp only at h2; subst h2; rfl
  rw [e]
  have := h1.1
  exact In_mk hn (b := 0) h1.2.2.2 (by simp) _ (by simp; omega)
theorem flat_ok {n : Nat} {t : S32} (hn : n ≤ 10) (h : Flat n t) : Okt n t := by
  constructor
  · have := h.1.1
    rw [validT, dep_eq, siz_eq, h.2.1, flat_chk hn h, depL, sizL]
    simp; omega
  · have := flat_in hn h
    exact ⟨Nat.le_trans this.1 (by decide), this.2⟩
theorem most_ev {s : List Int} (hs : s.length < 4611686018427387904) {n : Nat} (hn : n ≤ 10) (hn1 : 1 ≤ n) {s1 : Int} (h1 : 0 ≤ s1) :
    EvP (fun k => trustquorummake_most.f k s s1 (n : Int)) (fun r => Okt n (toT r) ∧ 0 ≤ r.2.2.2) := by
  simp only [trustquorummake_most.f]
  have thr : ∀ (l : List Int) (d : Int), 1 ≤ l.length → l.length ≤ 10 → -1 ≤ d ∧ d ≤ 1 → 1 ≤ mn (l.length : Int) (mx 1 (wrap64 ((wrap64 (Int.tdiv (wrap64 ((wrap64 (2 * (l.length : Int))) + 2)) 3)) + d))) ∧ mn (l.length : Int) (mx 1 (wrap64 ((wrap64 (Int.tdiv (wrap64 ((wrap64 (2 * (l.length : Int))) + 2)) 3)) + d))) ≤ (l.length : Int) := by
    intro l d h1 h2 h3
    unfold mn mx
    split <;> split <;> omega
  have pk : ∀ d ∈ ([0, 0, 0, 1, (-1)] : List Int), -1 ≤ d ∧ d ≤ 1 := by decide
  refine EvP.loop (L := fun (c : Nat × Int × List Int) k => trustquorummake_most.l0 k (n : Int) (c.1 : Int) s c.2.1 0 c.2.2) (fun c => 0 ≤ c.2.1 ∧ c.1 ≤ n ∧ Asc c.1 c.2.2) (fun c => n - c.1) ?_ (0, s1, []) ⟨h1, by simp, Asc_nil 0⟩
  rintro ⟨i, s1, l⟩ ⟨h1, h3, h4⟩ ih
  simp only at h1 h3 h4 ih ⊢
  have hl := h4.1
  by_cases h0 : (i : Int) < (n : Int)
  · have e1 : wrap64 ((i : Int) + 1) = ((i + 1 : Nat) : Int) := w64 (by omega) (by omega)
    have h6 : l.length < 17592186044416 := by omega
    (refine EvP.shift ?_; simp only [trustquorummake_most.l0, h0, e1, h6, Option.bind_some, ↓reduceIte, Bool.false_eq_true, reduceCtorEq, decide_eq_true_eq, Go.Proofs.YtkjlcbfjllpcnaaW.PrintWords.rd, rd_T32, rd_T34])
    refine EvP.bind (tN hs h1 (by omega) (by omega)) ?_
    rintro ⟨v, s'⟩ ⟨⟨h7, h8⟩, h9⟩
    simp only at h7 h8 h9 ⊢
    split
    · exact ih (i + 1, s', l ++ [(i : Int)]) ⟨h9, by show i + 1 ≤ n; omega, Asc_snoc h4 (by omega) (by omega)⟩ (by show n - (i + 1) < n - i; omega)
    · exact ih (i + 1, s', l) ⟨h9, by show i + 1 ≤ n; omega, h4.mono (by omega)⟩ (by show n - (i + 1) < n - i; omega)
  · have e : i = n := by omega
    subst e
    by_cases h5 : (l.length : Int) = 0
    · (refine EvP.shift ?_; simp only [trustquorummake_most.l0, h0, h5, Option.bind_some, ↓reduceIte, Bool.false_eq_true, reduceCtorEq, decide_eq_true_eq, Go.Proofs.YtkjlcbfjllpcnaaW.PrintWords.rd, rd_T32, rd_T34])
      refine EvP.bind (tPick hs h1 (by decide) (by decide)) ?_
      rintro ⟨d, s'⟩ ⟨h7, h8⟩
      simp only at h7 h8 ⊢
      have ht := thr [0] d (by decide) (by decide) (pk d h7)
      refine EvP.now ⟨flat_ok hn ⟨?_, rfl, ht.1, ht.2⟩, h8⟩
      exact (Asc_snoc (Asc_nil 0) (by decide) (show 0 < 1 by decide)).mono hn1
    · (refine EvP.shift ?_; simp only [trustquorummake_most.l0, h0, h5, Option.bind_some, ↓reduceIte, Bool.false_eq_true, reduceCtorEq, decide_eq_true_eq, Go.Proofs.YtkjlcbfjllpcnaaW.PrintWords.rd, rd_T32, rd_T34])
      refine EvP.bind (tPick hs h1 (by decide) (by decide)) ?_
      rintro ⟨d, s'⟩ ⟨h7, h8⟩
      simp only at h7 h8 ⊢
      have ht := thr l d (by omega) (by omega) (pk d h7)
      exact EvP.now ⟨flat_ok hn ⟨h4, rfl, ht.1, ht.2⟩, h8⟩
theorem depL_flat {n : Nat} : ∀ (l : List S32), (∀ t ∈ l, Flat n t) → depL l ≤ 1
  | [], _ => by rw [depL]; omega
  | t :: ts, h => by
    rw [depL, dep_eq, (h t (by simp)).2.1, depL]
    have := depL_flat ts fun y hy => h y (by simp [hy])
    omega
theorem sizL_flat {n : Nat} : ∀ (l : List S32), (∀ t ∈ l, Flat n t) → sizL l ≤ l.length * n
  | [], _ => by rw [sizL]; omega
  | t :: ts, h => by
    have := sizL_flat ts fun y hy => h y (by simp [hy])
    have h1 := (h t (by simp)).1.1
    rw [sizL, siz_eq, (h t (by simp)).2.1, List.length_cons, Nat.add_mul, sizL, List.length_nil]
    omega
theorem chkL_flat {n : Nat} (hn : n ≤ 10) : ∀ (l : List S32), (∀ t ∈ l, Flat n t) → chkL l = 0
  | [], _ => by rw [chkL]
  | t :: ts, h => by rw [chkL, if_pos (flat_chk hn (h t (by simp)))]; exact chkL_flat hn ts fun y hy => h y (by simp [hy])
theorem group_ok {n : Nat} (hn : n ≤ 10) {v : Int} {ts : List S32} (h1 : 1 ≤ v) (h2 : v ≤ (ts.length : Int)) (h3 : ts.length ≤ 3) (h4 : ∀ t ∈ ts, Flat n t) : Okt n ⟨v, [], ts⟩ := by
  constructor
  · have hd := depL_flat ts h4
    have hs := sizL_flat ts h4
    have : ts.length * n ≤ 3 * 10 := Nat.mul_le_mul h3 hn
    rw [validT, dep_eq, siz_eq, chk_eq]
    simp only [List.length_nil, List.any_nil, ofS, chkL_flat hn ts h4]
    rw [if_neg (by omega), if_neg (by omega), if_neg (by omega)]
    simp
  · refine In_mk hn (b := 11) (by simp) (fun t ht => flat_in hn (h4 t ht)) _ ?_
    have : ts.length * 11 ≤ 3 * 11 := Nat.mul_le_mul_right 11 h3
    simp only [List.length_nil]; omega
theorem getD_mem' {α : Type} {l : List α} {i : Nat} (d : α) (h : i < l.length) : l.getD i d ∈ l := by
  rw [List.getD_eq_getElem?_getD, List.getElem?_eq_getElem h]; exact List.getElem_mem h
theorem group_ev {s : List Int} (hs : s.length < 4611686018427387904) {n : Nat} (hn : n ≤ 10) (hn1 : 1 ≤ n) {s1 : Int} (h1 : 0 ≤ s1) (i : Nat) (hi : i < 1000) :
    EvP (fun k => trustquorummake_group.f k s s1 (n : Int) (i : Int)) (fun r => Okt n (toT r) ∧ 0 ≤ r.2.2.2) := by
  simp only [trustquorummake_group.f]
  refine EvP.loop (L := fun (c : Nat × Int × List S32) k => trustquorummake_group.l0 k (n : Int) (i : Int) c.2.2 (c.1 : Int) s c.2.1) (fun c => 0 ≤ c.2.1 ∧ c.1 ≤ 3 ∧ c.2.2.length ≤ c.1 ∧ (1 ≤ c.1 → 1 ≤ c.2.2.length) ∧ ∀ t ∈ c.2.2, Flat n t) (fun c => 3 - c.1) ?_ (0, s1, []) ⟨h1, by simp, by simp, by simp, by simp⟩
  clear h1 s1
  rintro ⟨g, s1, ts⟩ ⟨h1, h2, h3, h4, h5⟩ ih
  simp only at h1 h2 h3 h4 h5 ih ⊢
  by_cases h0 : (g : Int) < 3
  · (refine EvP.shift ?_; simp only [trustquorummake_group.l0, h0, Option.bind_some, ↓reduceIte, Bool.false_eq_true, reduceCtorEq, decide_eq_true_eq, Go.Proofs.YtkjlcbfjllpcnaaW.PrintWords.rd, rd_T32, rd_T34])
    refine EvP.loop (L := fun (c : Nat × List Int) k => trustquorummake_group.l1 k (n : Int) (i : Int) ts (g : Int) (c.1 : Int) s s1 1 c.2) (fun c => Asc (min c.1 n) c.2 ∧ (c.1 = g ∧ c.2 = [] ∨ 1 ≤ c.2.length) ∧ (c.1 = g ∨ g + 3 ≤ c.1) ∧ c.1 ≤ 100) (fun c => n - c.1) ?_ (g, []) ⟨(Asc_nil 0).mono (by omega), Or.inl ⟨rfl, rfl⟩, Or.inl rfl, by show g ≤ 100; omega⟩
    rintro ⟨j, l⟩ ⟨h6, h7, h8, h9⟩ ih2
    simp only at h6 h7 h8 h9 ih2 ⊢
    have hl := h6.1
    by_cases hj : (j : Int) < (n : Int)
    · have e1 : wrap64 ((j : Int) + 3) = ((j + 3 : Nat) : Int) := w64 (by omega) (by omega)
      have h10 : l.length < 17592186044416 := by omega
      (refine EvP.shift ?_; simp only [trustquorummake_group.l1, hj, e1, h10, Option.bind_some, ↓reduceIte, Bool.false_eq_true, reduceCtorEq, decide_eq_true_eq, Go.Proofs.YtkjlcbfjllpcnaaW.PrintWords.rd, rd_T32, rd_T34])
      clear e1
      refine ih2 (j + 3, l ++ [(j : Int)]) ⟨?_, Or.inr (by simp), Or.inr (by show g + 3 ≤ j + 3; omega), by show j + 3 ≤ 100; omega⟩ (by show n - (j + 3) < n - j; omega)
      rw [show min j n = j by omega] at h6
      exact (Asc_snoc h6 (m := j + 1) (by omega) (by omega)).mono (by show j + 1 ≤ min (j + 3) n; omega)
    · rw [show min j n = n by omega] at h6 hl
      have ew : wrap64 ((g : Int) + 1) = ((g + 1 : Nat) : Int) := w64 (by omega) (by omega)
      by_cases h10 : (l.length : Int) > 0
      · have h11 : ts.length < 2513169434916 := by omega
        (refine EvP.shift ?_; simp only [trustquorummake_group.l1, hj, h10, ew, h11, Option.bind_some, ↓reduceIte, Bool.false_eq_true, reduceCtorEq, decide_eq_true_eq, Go.Proofs.YtkjlcbfjllpcnaaW.PrintWords.rd, rd_T32, rd_T34])
        clear ew
        refine EvP.bind (tRange hs h1 (by omega) (by omega) (by omega)) ?_
        rintro ⟨v, s'⟩ ⟨⟨h12, h13⟩, h14⟩
        simp only at h12 h13 h14 ⊢
        refine ih (g + 1, s', ts ++ [⟨v, l, []⟩]) ⟨h14, by show g + 1 ≤ 3; omega, by simp; omega, by simp, ?_⟩ (by show 3 - (g + 1) < 3 - g; omega)
        intro t ht
        rcases List.mem_append.1 ht with h | h
        · exact h5 t h
        · rw [List.mem_singleton.1 h]; exact ⟨h6, rfl, h12, h13⟩
      · (refine EvP.shift ?_; simp only [trustquorummake_group.l1, hj, h10, ew, Option.bind_some, ↓reduceIte, Bool.false_eq_true, reduceCtorEq, decide_eq_true_eq, Go.Proofs.YtkjlcbfjllpcnaaW.PrintWords.rd, rd_T32, rd_T34])
        clear ew
        refine ih (g + 1, s1, ts) ⟨h1, by show g + 1 ≤ 3; omega, by show ts.length ≤ g + 1; omega, fun _ => ?_, h5⟩ (by show 3 - (g + 1) < 3 - g; omega)
        show 1 ≤ ts.length
        by_cases hg : 1 ≤ g
        · exact h4 hg
        · exfalso; omega
  · (refine EvP.shift ?_; simp only [trustquorummake_group.l0, h0, Option.bind_some, ↓reduceIte, Bool.false_eq_true, reduceCtorEq, decide_eq_true_eq, Go.Proofs.YtkjlcbfjllpcnaaW.PrintWords.rd, rd_T32, rd_T34])
    refine EvP.bind (tN hs h1 (by omega) (by omega)) ?_
    rintro ⟨v, s'⟩ ⟨⟨h6, h7⟩, h8⟩
    simp only at h6 h7 h8 ⊢
    have h9 : 1 ≤ ts.length := h4 (by omega)
    split
    · have h10 : ¬ (ts.length : Int) = 0 := by omega
      have h11 : 0 ≤ Int.tmod (i : Int) (ts.length : Int) := Int.tmod_nonneg _ (by omega)
      have h12 : Int.tmod (i : Int) (ts.length : Int) < (ts.length : Int) := Int.tmod_lt_of_pos _ (by omega)
      simp only [h10, if_false, h11, if_true, h12]
      have hf := flat_ok hn (h5 _ (getD_mem' (l := ts) z32 (show (Int.tmod (i : Int) (ts.length : Int)).toNat < ts.length by omega)))
      generalize ts.getD (Int.tmod (i : Int) (ts.length : Int)).toNat z32 = t at hf ⊢
      cases t
      exact EvP.now ⟨hf, h8⟩
    · have ew : wrap64 ((ts.length : Int) - 1) = (ts.length : Int) - 1 := w64 (by omega) (by omega)
      rw [ew]
      clear ew
      have hm : 1 ≤ mx 1 ((ts.length : Int) - 1) ∧ mx 1 ((ts.length : Int) - 1) ≤ (ts.length : Int) := by unfold mx; split <;> omega
      refine EvP.bind (tRange hs h8 (by omega) (by omega) (by omega)) ?_
      rintro ⟨v, s'⟩ ⟨⟨h12, h13⟩, h14⟩
      simp only at h12 h13 h14 ⊢
      exact EvP.now ⟨group_ok hn (show 1 ≤ v by omega) h13 (show ts.length ≤ 3 by omega) h5, h14⟩
def OkM (n : Nat) (m : S34) : Prop := if m.f0 = true then Okt n m.f1 else m.f1 = ⟨0, [], []⟩
def OkC (c : List S34) : Prop := 1 ≤ c.length ∧ c.length ≤ 10 ∧ ∀ m ∈ c, OkM c.length m
theorem Config_ev {s : List Int} (hs : s.length < 4611686018427387904) {a : Int} (ha : 1 ≤ a) (ha2 : a ≤ 10) {s1 : Int} (h1 : 0 ≤ s1) :
    EvP (fun k => trustquorummake_Config.f k s s1 a) (fun r => (OkC r.1 ∧ (r.1.length : Int) ≤ a) ∧ 0 ≤ r.2) := by
  simp only [trustquorummake_Config.f]
  refine EvP.bind (tRange hs h1 (by omega) ha (by omega)) ?_
  rintro ⟨N, s2⟩ ⟨⟨h2, h3⟩, h4⟩
  simp only at h2 h3 h4 ⊢
  refine EvP.bind (tN hs h4 (by omega) (by omega)) ?_
  rintro ⟨g, s3⟩ ⟨⟨h5, h6⟩, h7⟩
  simp only at h5 h6 h7 ⊢
  obtain ⟨n, rfl⟩ := Int.eq_ofNat_of_zero_le (show 0 ≤ N by omega)
  have hn : n ≤ 10 := by omega
  have hn1 : 1 ≤ n := by omega
  clear h1 h4
  refine EvP.loop (L := fun (c : Nat × Int × List S34) k => trustquorummake_Config.l0 k (n : Int) g (c.1 : Int) s c.2.1 c.2.2) (fun c => 0 ≤ c.2.1 ∧ c.1 ≤ n ∧ c.2.2.length = c.1 ∧ ∀ m ∈ c.2.2, OkM n m) (fun c => n - c.1) ?_ (0, s3, []) ⟨h7, by simp, by simp, by simp⟩
  rintro ⟨i, s1, c⟩ ⟨h1, h8, h9, h10⟩ ih
  simp only at h1 h8 h9 h10 ih ⊢
  by_cases h0 : (i : Int) < (n : Int)
  · have h11 : c.length < 2199023255552 := by omega
    have nxt : ∀ (m : S34) (s' : Int), 0 ≤ s' → OkM n m → EvP (fun k => trustquorummake_Config.l0 k (n : Int) g ((i + 1 : Nat) : Int) s s' (c ++ [m])) (fun r => (OkC r.1 ∧ (r.1.length : Int) ≤ a) ∧ 0 ≤ r.2) := by
      intro m s' hs' hm
      refine ih (i + 1, s', c ++ [m]) ⟨hs', by show i + 1 ≤ n; omega, by simp; omega, ?_⟩ (by show n - (i + 1) < n - i; omega)
      intro x hx
      rcases List.mem_append.1 hx with h | h
      · exact h10 x h
      · rw [List.mem_singleton.1 h]; exact hm
    have e1 : wrap64 ((i : Int) + 1) = ((i + 1 : Nat) : Int) := w64 (by omega) (by omega)
    by_cases c1 : g = 0
    · (refine EvP.shift ?_; simp only [trustquorummake_Config.l0, h0, e1, h11, c1, Option.bind_some, ↓reduceIte, Bool.false_eq_true, reduceCtorEq, decide_eq_true_eq, Go.Proofs.YtkjlcbfjllpcnaaW.PrintWords.rd, rd_T32, rd_T34])
      rw [c1] at nxt
      clear e1
      refine EvP.bind (Trust_ev hs hn hn1 h1) ?_
      rintro ⟨v, l, ts, s'⟩ ⟨h12, h13⟩
      simp only at h12 h13 ⊢
      refine EvP.bind (tN hs h13 (by omega) (by omega)) ?_
      rintro ⟨v2, s2⟩ ⟨_, h14⟩
      simp only at h14 ⊢
      split
      · exact nxt ⟨false, ⟨0, [], []⟩⟩ s2 h14 rfl
      · exact nxt ⟨true, ⟨v, l, ts⟩⟩ s2 h14 h12
    by_cases c2 : g = 1
    · have c3 : ¬ (1 : Int) = 0 := by decide
      (refine EvP.shift ?_; simp only [trustquorummake_Config.l0, h0, e1, h11, c2, c3, Option.bind_some, ↓reduceIte, Bool.false_eq_true, reduceCtorEq, decide_eq_true_eq, Go.Proofs.YtkjlcbfjllpcnaaW.PrintWords.rd, rd_T32, rd_T34])
      rw [c2] at nxt
      clear e1
      refine EvP.bind (most_ev hs hn hn1 h1) ?_
      rintro ⟨v, l, ts, s'⟩ ⟨h12, h13⟩
      simp only at h12 h13 ⊢
      refine EvP.bind (tN hs h13 (by omega) (by omega)) ?_
      rintro ⟨v2, s2⟩ ⟨_, h14⟩
      simp only at h14 ⊢
      split
      · exact nxt ⟨false, ⟨0, [], []⟩⟩ s2 h14 rfl
      · exact nxt ⟨true, ⟨v, l, ts⟩⟩ s2 h14 h12
    · (refine EvP.shift ?_; simp only [trustquorummake_Config.l0, h0, e1, h11, c1, c2, Option.bind_some, ↓reduceIte, Bool.false_eq_true, reduceCtorEq, decide_eq_true_eq, Go.Proofs.YtkjlcbfjllpcnaaW.PrintWords.rd, rd_T32, rd_T34])
      clear e1
      refine EvP.bind (group_ev hs hn hn1 h1 i (by omega)) ?_
      rintro ⟨v, l, ts, s'⟩ ⟨h12, h13⟩
      simp only at h12 h13 ⊢
      refine EvP.bind (tN hs h13 (by omega) (by omega)) ?_
      rintro ⟨v2, s2⟩ ⟨_, h14⟩
      simp only at h14 ⊢
      split
      · exact nxt ⟨false, ⟨0, [], []⟩⟩ s2 h14 rfl
      · exact nxt ⟨true, ⟨v, l, ts⟩⟩ s2 h14 h12
  · (refine EvP.shift ?_; simp only [trustquorummake_Config.l0, h0, Option.bind_some, ↓reduceIte, Bool.false_eq_true, reduceCtorEq, decide_eq_true_eq, Go.Proofs.YtkjlcbfjllpcnaaW.PrintWords.rd, rd_T32, rd_T34])
    have e : c.length = n := by omega
    refine EvP.now ⟨⟨⟨?_, ?_, ?_⟩, ?_⟩, h1⟩
    · show 1 ≤ c.length; omega
    · show c.length ≤ 10; omega
    · show ∀ m ∈ c, OkM c.length m
      rw [e]; exact h10
    · show (c.length : Int) ≤ a; omega
theorem New_ev (l0 : List Int) (h : l0.length < 4611686018427387904) : ∃ s, s.length < 4611686018427387904 ∧ trustquorummake_New.f l0 = some (s, 0) := by
  unfold trustquorummake_New.f
  have h1 : 0 ≤ mn (l0.length : Int) 400 := by unfold mn; split <;> omega
  have h2 : mn (l0.length : Int) 400 ≤ (l0.length : Int) := by unfold mn; split <;> omega
  rw [if_pos h1, if_pos h2]
  refine ⟨_, ?_, rfl⟩
  rw [List.length_take]
  omega
def declF (i a : Nat) : List S34 → Nat
  | [] => a
  | m :: ms => declF (i + 1) (if m.f0 = true ∧ i < 10 then a ||| 2 ^ i else a) ms
def decl (c : List S34) : Nat := declF 0 0 c
theorem declF_bit : ∀ (ms : List S34) (i a j : Nat), (declF i a ms).testBit j = (a.testBit j || (decide (i ≤ j) && decide (j < 10) && (ms.getD (j - i) z34).f0)) := by
  intro ms
  induction ms with
  | nil => intro i a j; simp [declF, z34]
  | cons m ms ih =>
    intro i a j
    rw [declF, ih]
    by_cases h : j = i
    · subst h
      have e : decide (j + 1 ≤ j) = false := by simp
      have e2 : decide (j ≤ j) = true := by simp
      rw [e, e2, Nat.sub_self]
      by_cases h2 : j < 10 <;> cases hm : m.f0 <;> simp [h2, hm]
    · have e : (if m.f0 = true ∧ i < 10 then a ||| 2 ^ i else a).testBit j = a.testBit j := by
        split
        · rw [or_bit, two_bit]; simp; intro h2; omega
        · rfl
      rw [e]
      by_cases h2 : i ≤ j
      · obtain ⟨d, rfl⟩ : ∃ d, j = i + 1 + d := ⟨j - (i + 1), by omega⟩
        have h3 : i + 1 + d - i = d + 1 := by omega
        have h4 : i + 1 + d - (i + 1) = d := by omega
        rw [h3, h4, List.getD_cons_succ]
        simp [h2]
      · have h3 : ¬ i + 1 ≤ j := by omega
        simp [h2, h3]
theorem decl_bit (c : List S34) (j : Nat) : (decl c).testBit j = (decide (j < 10) && (c.getD j z34).f0) := by
  rw [decl, declF_bit]; simp
theorem decl_lt (c : List S34) : decl c < 1024 := lt_of_bits (n := 10) fun i hi => by rw [decl_bit]; simp; omega
theorem decl_len {c : List S34} {j : Nat} (h : (decl c).testBit j = true) : j < c.length := by
  rw [decl_bit] at h
  by_cases hj : j < c.length
  · exact hj
  · rw [List.getD_eq_getElem?_getD, List.getElem?_eq_none (by omega)] at h
    simp [z34] at h
def nodesL (s : Nat) : List Int := ((List.range 10).filter fun i => s.testBit i).map Int.ofNat
theorem nodesL_mem {s : Nat} {x : Int} : x ∈ nodesL s ↔ inS s x = true := by
  simp only [nodesL, List.mem_map, List.mem_filter, List.mem_range, inS, Bool.and_eq_true, decide_eq_true_eq]
  constructor
  · rintro ⟨i, ⟨h1, h2⟩, rfl⟩
    exact ⟨⟨by simp, by simp; omega⟩, by simpa using h2⟩
  · rintro ⟨⟨h1, h2⟩, h3⟩
    exact ⟨x.toNat, ⟨by omega, h3⟩, by simp; omega⟩
theorem nodesL_len (s : Nat) : (nodesL s).length ≤ 10 := by
  rw [nodesL, List.length_map]
  have := List.length_filter_le (fun i => s.testBit i) (List.range 10)
  simpa using this
def Light (c : List S34) : Prop := c.length < 1000000 ∧ ∀ m ∈ c, wt m.f1 < 1000000
theorem OkC.light {c : List S34} (h : OkC c) : Light c := by
  refine ⟨by have := h.2.1; omega, fun m hm => ?_⟩
  have := h.2.2 m hm
  unfold OkM at this
  split at this
  · have := this.2.1; omega
  · rw [this]; decide
theorem Light.at {c : List S34} (h : Light c) (j : Nat) : wt (c.getD j z34).f1 < 1000000 := by
  by_cases hj : j < c.length
  · exact h.2 _ (getD_mem' z34 hj)
  · rw [List.getD_eq_getElem?_getD, List.getElem?_eq_none (by omega)]; decide
def blk (c : List S34) (s : Nat) (j : Int) : Bool := inS (decl c) j && !(sat (dif 1023 s ||| 2 ^ j.toNat) (c.getD j.toNat z34).f1)
theorem inS_iff {s : Nat} {x : Int} : inS s x = true ↔ ∃ i : Nat, x = (i : Int) ∧ i < 10 ∧ s.testBit i = true := by
  simp only [inS, Bool.and_eq_true, decide_eq_true_eq]
  constructor
  · rintro ⟨⟨h1, h2⟩, h3⟩
    exact ⟨x.toNat, by omega, by omega, h3⟩
  · rintro ⟨i, rfl, h1, h2⟩
    exact ⟨⟨by omega, by omega⟩, by simpa using h2⟩
theorem and_nat' {a b : Nat} (ha : a < 1024) (hb : b < 1024) : Go.bits .and .i64 (a : Int) (b : Int) = ((a &&& b : Nat) : Int) := and_nat (by omega) (by omega)
theorem or_nat' {a b : Nat} (ha : a < 1024) (hb : b < 1024) : Go.bits .or .i64 (a : Int) (b : Int) = ((a ||| b : Nat) : Int) := or_nat (by omega) (by omega)
theorem shl_nat' {k : Nat} (h : k < 10) : shl .i64 1 (k : Int) = ((2 ^ k : Nat) : Int) := shl_nat (by omega)
theorem Declared_ev {c : List S34} (hc : c.length < 1000000) : Ev (fun k => configuration_Declared.f k c) (decl c : Int) := by
  simp only [configuration_Declared.f]
  refine Ev.fold (xs := c) (L := fun (a : Nat) i k => configuration_Declared.l0 k (a : Int) c (c.length : Int) i) (by omega) (fun pre ys a => declF pre.length a ys = decl c ∧ a < 1024) ?_ ?_ 0 ⟨rfl, by decide⟩
  · rintro a i ⟨hI, ha⟩ hi
    rw [declF] at hI
    (refine Ev.shift ?_; simp only [configuration_Declared.l0, hi, Option.bind_some, ↓reduceIte, Bool.false_eq_true, reduceCtorEq, decide_eq_true_eq, Go.Proofs.YtkjlcbfjllpcnaaW.PrintWords.rd, rd_T32, rd_T34])
    rw [hI]
    exact Ev.now _
  · rintro pre y ys a i e ⟨hI, ha⟩ hi h0 hlt hw hrd
    subst hi
    rw [declF] at hI
    by_cases h10 : pre.length < 10
    · have h10' : (pre.length : Int) < 10 := by omega
      have h2 := two_lt10 h10
      cases hy : y.f0
      · refine Or.inl ⟨a, ⟨by simpa [hy] using hI, ha⟩, fun k => ?_⟩
        (refine Ev.shift ?_; simp only [configuration_Declared.l0, h0, hlt, hw, hrd, hy, h10', Option.bind_some, ↓reduceIte, Bool.false_eq_true, reduceCtorEq, decide_eq_true_eq, Go.Proofs.YtkjlcbfjllpcnaaW.PrintWords.rd, rd_T32, rd_T34])
        exact k
      · refine Or.inl ⟨a ||| 2 ^ pre.length, ⟨by simpa [hy, h10] using hI, or_lt10 ha h2⟩, fun k => ?_⟩
        (refine Ev.shift ?_; simp only [configuration_Declared.l0, h0, hlt, hw, hrd, hy, h10', Option.bind_some, ↓reduceIte, Bool.false_eq_true, reduceCtorEq, decide_eq_true_eq, Go.Proofs.YtkjlcbfjllpcnaaW.PrintWords.rd, rd_T32, rd_T34])
        rw [shl_nat' h10, or_nat' ha h2]
        exact k
    · have h10' : ¬ (pre.length : Int) < 10 := by omega
      refine Or.inl ⟨a, ⟨by simpa [h10] using hI, ha⟩, fun k => ?_⟩
      cases hy : y.f0
      · (refine Ev.shift ?_; simp only [configuration_Declared.l0, h0, hlt, hw, hrd, hy, h10', Option.bind_some, ↓reduceIte, Bool.false_eq_true, reduceCtorEq, decide_eq_true_eq, Go.Proofs.YtkjlcbfjllpcnaaW.PrintWords.rd, rd_T32, rd_T34])
        exact k
      · (refine Ev.shift ?_; simp only [configuration_Declared.l0, h0, hlt, hw, hrd, hy, h10', Option.bind_some, ↓reduceIte, Bool.false_eq_true, reduceCtorEq, decide_eq_true_eq, Go.Proofs.YtkjlcbfjllpcnaaW.PrintWords.rd, rd_T32, rd_T34])
        exact k
theorem Nodes_ev {s : Nat} (hs : s < 1024) : Ev (fun k => nodeset_Nodes.f k (s : Int)) (nodesL s) := by
  simp only [nodeset_Nodes.f]
  refine Ev.count (L := fun (l : List Int) i k => nodeset_Nodes.l0 k (s : Int) l i) 10 (by decide) (fun i l => l = ((List.range i).filter fun i => s.testBit i).map Int.ofNat) ?_ ?_ [] rfl
  · rintro l rfl
    have h : ¬ ((10 : Nat) : Int) < 10 := by decide
    (refine Ev.shift ?_; simp only [nodeset_Nodes.l0, h, Option.bind_some, ↓reduceIte, Bool.false_eq_true, reduceCtorEq, decide_eq_true_eq, Go.Proofs.YtkjlcbfjllpcnaaW.PrintWords.rd, rd_T32, rd_T34])
    exact Ev.now _
  · rintro i l hi hl hw
    have h : (i : Int) < 10 := by omega
    have hlen : l.length < 17592186044416 := by
      rw [hl, List.length_map]
      have := List.length_filter_le (fun i => s.testBit i) (List.range i)
      simp at this ⊢; omega
    cases hb : s.testBit i
    · refine Or.inl ⟨l, ?_, fun k => ?_⟩
      · rw [hl, List.range_succ, List.filter_append]; simp [hb]
      · (refine Ev.shift ?_; simp only [nodeset_Nodes.l0, h, Has_eq hs, inS_nat s i (by omega), hb, hw, Option.bind_some, ↓reduceIte, Bool.false_eq_true, reduceCtorEq, decide_eq_true_eq, Go.Proofs.YtkjlcbfjllpcnaaW.PrintWords.rd, rd_T32, rd_T34])
        exact k
    · refine Or.inl ⟨l ++ [(i : Int)], ?_, fun k => ?_⟩
      · rw [hl, List.range_succ, List.filter_append]; simp [hb]
      · (refine Ev.shift ?_; simp only [nodeset_Nodes.l0, h, Has_eq hs, inS_nat s i (by omega), hb, hw, hlen, Option.bind_some, ↓reduceIte, Bool.false_eq_true, reduceCtorEq, decide_eq_true_eq, Go.Proofs.YtkjlcbfjllpcnaaW.PrintWords.rd, rd_T32, rd_T34])
        exact k
def nxt (c : List S34) (s : Nat) : Option Int := (nodesL (dif (decl c) s)).find? fun j => blk c s j
theorem Sub.or {a b c : Nat} (h : Sub a c) (k : Sub b c) : Sub (a ||| b) c := fun i hi => by
  rw [or_bit, Bool.or_eq_true] at hi
  exact hi.elim (h i) (k i)
theorem Sub.orl (a b : Nat) : Sub a (a ||| b) := fun i hi => by rw [or_bit, hi]; rfl
theorem Sub.two {i s : Nat} (h : s.testBit i = true) : Sub (2 ^ i) s := fun j hj => by
  rw [two_bit, decide_eq_true_eq] at hj; subst hj; exact h
theorem pcn_lt {s i : Nat} (hi : i < 10) (h : s.testBit i = false) : pcn s < pcn (s ||| 2 ^ i) := by
  unfold pcn
  have key : ∀ n, (List.range n).countP (fun k => s.testBit k) + (if i < n then 1 else 0) ≤ (List.range n).countP fun k => (s ||| 2 ^ i).testBit k := by
    intro n
    induction n with
    | zero => simp
    | succ n ih =>
      rw [List.range_succ, List.countP_append, List.countP_append, List.countP_singleton, List.countP_singleton, or_bit, two_bit]
      generalize (List.range n).countP (fun k => (s ||| 2 ^ i).testBit k) = B at ih ⊢
      generalize (List.range n).countP (fun k => s.testBit k) = A at ih ⊢
      by_cases e : i = n
      · subst e
        rw [h, if_neg (Nat.lt_irrefl i)] at *
        simp
        omega
      · by_cases hin : i < n
        · rw [if_pos hin] at ih
          rw [if_pos (show i < n + 1 by omega)]
          cases hb : s.testBit n <;> simp [e] <;> omega
        · rw [if_neg hin] at ih
          rw [if_neg (show ¬ i < n + 1 by omega)]
          cases hb : s.testBit n <;> simp [e] <;> omega
  have := key 10
  rw [if_pos hi] at this
  omega
theorem pcn_le (s : Nat) : pcn s ≤ 10 := by
  have : (List.range 10).countP (fun k => s.testBit k) ≤ (List.range 10).length := List.countP_le_length
  simpa [pcn] using this
theorem ref_Declared_ev {c : List S34} (hc : c.length < 1000000) : Ev (fun k => trustquorumref06_Declared.f k c) (decl c : Int) := by
  simp only [trustquorumref06_Declared.f]
  refine Ev.fold (xs := c) (L := fun (a : Nat) i k => trustquorumref06_Declared.l0 k (a : Int) c (c.length : Int) i) (by omega) (fun pre ys a => declF pre.length a ys = decl c ∧ a < 1024) ?_ ?_ 0 ⟨rfl, by decide⟩
  · rintro a i ⟨hI, ha⟩ hi
    rw [declF] at hI
    (refine Ev.shift ?_; simp only [trustquorumref06_Declared.l0, hi, Option.bind_some, ↓reduceIte, Bool.false_eq_true, reduceCtorEq, decide_eq_true_eq, Go.Proofs.YtkjlcbfjllpcnaaW.PrintWords.rd, rd_T32, rd_T34])
    rw [hI]
    exact Ev.now _
  · rintro pre y ys a i e ⟨hI, ha⟩ hi h0 hlt hw hrd
    subst hi
    rw [declF] at hI
    by_cases h10 : pre.length < 10
    · have h10' : (pre.length : Int) < 10 := by omega
      have h2 := two_lt10 h10
      cases hy : y.f0
      · refine Or.inl ⟨a, ⟨by simpa [hy] using hI, ha⟩, fun k => ?_⟩
        (refine Ev.shift ?_; simp only [trustquorumref06_Declared.l0, h0, hlt, hw, hrd, hy, h10', Option.bind_some, ↓reduceIte, Bool.false_eq_true, reduceCtorEq, decide_eq_true_eq, Go.Proofs.YtkjlcbfjllpcnaaW.PrintWords.rd, rd_T32, rd_T34])
        exact k
      · refine Or.inl ⟨a ||| 2 ^ pre.length, ⟨by simpa [hy, h10] using hI, or_lt10 ha h2⟩, fun k => ?_⟩
        (refine Ev.shift ?_; simp only [trustquorumref06_Declared.l0, h0, hlt, hw, hrd, hy, h10', Option.bind_some, ↓reduceIte, Bool.false_eq_true, reduceCtorEq, decide_eq_true_eq, Go.Proofs.YtkjlcbfjllpcnaaW.PrintWords.rd, rd_T32, rd_T34])
        rw [shl_nat' h10, or_nat' ha h2]
        exact k
    · have h10' : ¬ (pre.length : Int) < 10 := by omega
      refine Or.inl ⟨a, ⟨by simpa [h10] using hI, ha⟩, fun k => ?_⟩
      cases hy : y.f0
      · (refine Ev.shift ?_; simp only [trustquorumref06_Declared.l0, h0, hlt, hw, hrd, hy, h10', Option.bind_some, ↓reduceIte, Bool.false_eq_true, reduceCtorEq, decide_eq_true_eq, Go.Proofs.YtkjlcbfjllpcnaaW.PrintWords.rd, rd_T32, rd_T34])
        exact k
      · (refine Ev.shift ?_; simp only [trustquorumref06_Declared.l0, h0, hlt, hw, hrd, hy, h10', Option.bind_some, ↓reduceIte, Bool.false_eq_true, reduceCtorEq, decide_eq_true_eq, Go.Proofs.YtkjlcbfjllpcnaaW.PrintWords.rd, rd_T32, rd_T34])
        exact k
theorem foldU_sub (l : List Int) : ∀ a, Sub a (foldU l a) := by
  induction l with
  | nil => intro a; exact Sub.refl a
  | cons y ys ih =>
    intro a
    show Sub a (foldU ys (if noNode y = true then a else a ||| 2 ^ y.toNat))
    refine Sub.trans ?_ (ih _)
    split
    · exact Sub.refl a
    · exact Sub.orl _ _
theorem foldU_mem {l : List Int} {x : Int} (hx : x ∈ l) (hn : noNode x = false) : ∀ a, (foldU l a).testBit x.toNat = true := by
  induction l with
  | nil => cases hx
  | cons y ys ih =>
    intro a
    show (foldU ys (if noNode y = true then a else a ||| 2 ^ y.toNat)).testBit x.toNat = true
    rcases List.mem_cons.1 hx with rfl | h
    · rw [hn]
      exact foldU_sub ys _ _ (by simp [or_bit, two_bit])
    · exact ih h _
mutual
theorem sat_uses {s t : Nat} : ∀ (x : S32), (∀ i, (uses x).testBit i = true → s.testBit i = true → t.testBit i = true) → sat s x = true → sat t x = true
  | ⟨n, l, ts⟩ => by
    intro h
    rw [uses_eq] at h
    rw [sat, sat, decide_eq_true_eq, decide_eq_true_eq]
    intro hx
    have h1 : l.countP (fun x => inS s x) ≤ l.countP (fun x => inS t x) := by
      refine List.countP_mono_left fun x hx hs => ?_
      obtain ⟨i, rfl, hi, hb⟩ := inS_iff.1 hs
      refine inS_iff.2 ⟨i, rfl, hi, h i ?_ hb⟩
      rw [or_bit]
      have := foldU_mem hx (show noNode (i : Int) = false by simp [noNode]; omega) 0
      rw [Int.toNat_natCast] at this
      unfold foldU at this
      simp only at this ⊢
      rw [this]; rfl
    have h2 := satC_uses ts fun i hi => h i (by rw [or_bit]; simp only; rw [hi]; simp)
    omega
theorem satC_uses {s t : Nat} : ∀ l : List S32, (∀ i, (useL l).testBit i = true → s.testBit i = true → t.testBit i = true) → satC s l ≤ satC t l
  | [], _ => by rw [satC, satC]; exact Nat.le_refl _
  | x :: xs, h => by
    rw [useL] at h
    rw [satC, satC]
    have h1 := satC_uses xs fun i hi => h i (by rw [or_bit, hi]; simp)
    have h2 := sat_uses x fun i hi => h i (by rw [or_bit, hi]; simp)
    cases hs : sat s x
    · simp; omega
    · rw [h2 hs]; simp; omega
end
def quo (c : List S34) (x : Nat) : Bool := decide (x ≠ 0) && decide (x &&& decl c = x) && (nodesL x).all fun j => sat x (c.getD j.toNat z34).f1
theorem quo_iff {c : List S34} {x : Nat} (hx : x < 1024) : quo c x = true ↔ x ≠ 0 ∧ Sub x (decl c) ∧ ∀ i, x.testBit i = true → sat x (c.getD i z34).f1 = true := by
  unfold quo
  rw [Bool.and_eq_true, Bool.and_eq_true, decide_eq_true_eq, decide_eq_true_eq, List.all_eq_true, sub_and]
  constructor
  · rintro ⟨⟨h1, h2⟩, h3⟩
    refine ⟨h1, h2, fun i hi => ?_⟩
    have h10 : i < 10 := by
      rcases Nat.lt_or_ge i 10 with h | h
      · exact h
      · rw [bit_lt (n := 10) hx h] at hi; cases hi
    have := h3 (i : Int) (nodesL_mem.2 (inS_iff.2 ⟨i, rfl, h10, hi⟩))
    rwa [Int.toNat_natCast] at this
  · rintro ⟨h1, h2, h3⟩
    refine ⟨⟨h1, h2⟩, fun j hj => ?_⟩
    obtain ⟨i, rfl, h10, hi⟩ := inS_iff.1 (nodesL_mem.1 hj)
    rw [Int.toNat_natCast]
    exact h3 i hi
end Go.Proofs.Ytkjlcbfjllpcnaa.X
namespace Go.Proofs.Ytkjlcbfjllpcnaa.X
open Go.RowKit Go.Proofs.YtkjlcbfjllpcnaaW.PrintWords Go.Proofs.YtkjlcbfjllpcnaaW.PrintLast Go.Proofs.YtkjlcbfjllpcnaaW.PrintMore
attribute [local go_sem] max2_int min2_int max_two min_two max_three min_three max_four min_four
set_option linter.unusedVariables false
set_option linter.unusedSimpArgs false
end Go.Proofs.Ytkjlcbfjllpcnaa.X
namespace Go.Proofs.Ytkjlcbfjllpcnaa.X
open Go.RowKit Go.Lib Go.Sort Go.Proofs.YtkjlcbfjllpcnaaW.PrintWords Go.Proofs.YtkjlcbfjllpcnaaW.PrintLast Go.Proofs.YtkjlcbfjllpcnaaW.PrintMore
set_option linter.unusedVariables false
def leS (x y : Int) : Prop := ¬ ltS y x
instance (x y : Int) : Decidable (leS x y) := inferInstanceAs (Decidable (¬ (_ ∨ _)))
theorem leS_antisymm {x y : Int} (h : leS x y) (k : leS y x) : x = y := by unfold leS ltS at *; omega
theorem sortS_perm (l : List Int) : (sortS l).Perm l := List.mergeSort_perm _ _
theorem sortS_sorted (l : List Int) : (sortS l).Pairwise leS := by
  have := List.pairwise_mergeSort (le := fun x y => !(ltOf cmpS) y x) (by
    intro a b c h1 h2
    rw [Bool.not_eq_true', ltOf_not] at *
    unfold ltS at *; omega) (by
    intro a b
    rw [Bool.or_eq_true, Bool.not_eq_true', Bool.not_eq_true', ltOf_not, ltOf_not]
    unfold ltS; omega) l
  refine this.imp ?_
  intro a b h
  rw [Bool.not_eq_true', ltOf_not] at h
  exact h
theorem sortS_eq {l l' : List Int} (h : l.Perm l') (hs : l'.Pairwise leS) : sortS l = l' :=
  List.Perm.eq_of_pairwise (le := leS) (fun a b _ _ h k => leS_antisymm h k) (sortS_sorted l) hs ((sortS_perm l).trans h)
theorem sub_nat {a b : Nat} (ha : a < 1024) (hb : b < 1024) : sub (a : Int) (b : Int) = true ↔ Sub a b := by
  unfold sub
  rw [andNot_nat (by omega) (by omega), beq_iff_eq, ← sub_dif]
  omega
def memV (n : Nat) (m : S34) : Int := if m.f0 = true then (if validT m.f1 = 0 then (if uses m.f1 < 2 ^ n then 0 else 5) else validT m.f1) else (if m.f1.f0 = 0 ∧ m.f1.f1 = [] ∧ m.f1.f2 = [] then 0 else 1)
def valF (n : Nat) : List S34 → Int
  | [] => 0
  | m :: ms => if memV n m = 0 then valF n ms else memV n m
def valC (c : List S34) : Int := if c.length > 10 then 3 else valF c.length c
theorem member_ev {n : Nat} (hn : n ≤ 10) (m : S34) (hm : wt m.f1 < 1000000) : Ev (fun k => configuration_member.f k m.f0 m.f1.f0 m.f1.f1 m.f1.f2 (n : Int)) (memV n m) := by
  unfold memV
  cases h : m.f0
  · simp only [configuration_member.f, configuration_blank.f, Option.bind_some, ↓reduceIte, Bool.false_eq_true, reduceCtorEq, decide_eq_true_eq, Go.Proofs.YtkjlcbfjllpcnaaW.PrintWords.rd, rd_T32, rd_T34]
    by_cases h1 : m.f1.f0 = 0
    · by_cases h2 : m.f1.f1 = []
      · by_cases h3 : m.f1.f2 = []
        · simp only [h1, h2, h3, and_self, if_true, List.length_nil, Option.bind_some]
          simp only [Int.natCast_zero, beq_self_eq_true, if_true, Int.ofNat_zero, Option.bind_some]
          exact Ev.now _
        · have : ¬ (m.f1.f2.length : Int) = 0 := by
            intro h; exact h3 (List.eq_nil_of_length_eq_zero (by omega))
          have e2 : ((m.f1.f2.length : Int) == 0) = false := by simpa using this
          simp only [h1, h2, h3, and_false, if_true, if_false, List.length_nil, Int.natCast_zero, Int.ofNat_zero, e2, Option.bind_some, Bool.false_eq_true]
          exact Ev.now _
      · have : ¬ (m.f1.f1.length : Int) = 0 := by
          intro h; exact h2 (List.eq_nil_of_length_eq_zero (by omega))
        simp only [h1, h2, this, false_and, and_false, if_true, if_false, Option.bind_some, Bool.false_eq_true]
        exact Ev.now _
    · simp only [h1, false_and, if_false, Option.bind_some, Bool.false_eq_true]
      exact Ev.now _
  · simp only [configuration_member.f, Option.bind_some, ↓reduceIte, Bool.false_eq_true, reduceCtorEq, decide_eq_true_eq, Go.Proofs.YtkjlcbfjllpcnaaW.PrintWords.rd, rd_T32, rd_T34]
    refine Ev.bind1 (Valid_ev m.f1 hm) ?_
    by_cases h1 : validT m.f1 = 0
    · simp only [h1, if_true]
      refine Ev.bind1 (Uses_ev 1000000 m.f1 hm (by decide)) ?_
      have h0 : (0 : Int) ≤ (n : Int) := by omega
      rw [shl_nat (by omega), if_pos h0]
      by_cases h2 : uses m.f1 < 2 ^ n
      · rw [if_pos h2, if_neg (by omega)]; exact Ev.now _
      · rw [if_neg h2, if_pos (by omega)]; exact Ev.now _
    · simp only [h1, if_false]
      exact Ev.now _
theorem CValid_ev {c : List S34} (hc : Light c) : Ev (fun k => configuration_Valid.f k c) (valC c) := by
  have hl := hc.1
  unfold valC
  by_cases h : c.length > 10
  · have h2 : (c.length : Int) > 10 := by omega
    simp only [configuration_Valid.f, h, h2, Option.bind_some, ↓reduceIte, Bool.false_eq_true, reduceCtorEq, decide_eq_true_eq, Go.Proofs.YtkjlcbfjllpcnaaW.PrintWords.rd, rd_T32, rd_T34]
    exact Ev.now _
  · have h2 : ¬ (c.length : Int) > 10 := by omega
    simp only [configuration_Valid.f, h, h2, Option.bind_some, ↓reduceIte, Bool.false_eq_true, reduceCtorEq, decide_eq_true_eq, Go.Proofs.YtkjlcbfjllpcnaaW.PrintWords.rd, rd_T32, rd_T34]
    refine Ev.fold (xs := c) (L := fun (a : Unit) i k => configuration_Valid.l0 k c (c.length : Int) i c) (by omega) (fun pre ys a => valF c.length ys = valF c.length c) ?_ ?_ () rfl
    · intro a i hI hi
      rw [valF] at hI
      (refine Ev.shift ?_; simp only [configuration_Valid.l0, hi, Option.bind_some, ↓reduceIte, Bool.false_eq_true, reduceCtorEq, decide_eq_true_eq, Go.Proofs.YtkjlcbfjllpcnaaW.PrintWords.rd, rd_T32, rd_T34])
      rw [← hI]
      exact Ev.now _
    · intro pre y ys a i e hI hi h0 hlt hw hrd
      rw [valF] at hI
      have hm := member_ev (n := c.length) (by omega) y (hc.2 y (by rw [e]; simp))
      by_cases h4 : memV c.length y = 0
      · rw [if_pos h4] at hI
        refine Or.inl ⟨(), hI, fun k => ?_⟩
        (refine Ev.shift ?_; simp only [configuration_Valid.l0, h0, hlt, hw, hrd, Option.bind_some, ↓reduceIte, Bool.false_eq_true, reduceCtorEq, decide_eq_true_eq, Go.Proofs.YtkjlcbfjllpcnaaW.PrintWords.rd, rd_T32, rd_T34])
        refine Ev.bind1 hm ?_
        rw [h4]
        exact k
      · rw [if_neg h4] at hI
        refine Or.inr ?_
        rw [← hI]
        (refine Ev.shift ?_; simp only [configuration_Valid.l0, h0, hlt, hw, hrd, Option.bind_some, ↓reduceIte, Bool.false_eq_true, reduceCtorEq, decide_eq_true_eq, Go.Proofs.YtkjlcbfjllpcnaaW.PrintWords.rd, rd_T32, rd_T34])
        refine Ev.bind1 hm ?_
        simp only [h4, if_false]
        exact Ev.now _
theorem OkM.memV {n : Nat} {m : S34} (h : OkM n m) : memV n m = 0 := by
  unfold OkM at h
  unfold X.memV
  split at h
  · rename_i h1
    rw [if_pos h1, if_pos h.1, if_pos h.2.2]
  · rename_i h1
    rw [if_neg h1, h]
    simp
theorem valF_ok {n : Nat} : ∀ (l : List S34), (∀ m ∈ l, OkM n m) → valF n l = 0
  | [], _ => by rw [valF]
  | m :: ms, h => by rw [valF, if_pos (h m (by simp)).memV]; exact valF_ok ms fun x hx => h x (by simp [hx])
theorem OkC.valC {c : List S34} (h : OkC c) : valC c = 0 := by
  have := h.2.1
  rw [X.valC, if_neg (by omega)]
  exact valF_ok c h.2.2
theorem Ints_ev {xs ys : List Int} (hx : xs.length < 1000000) : Ev (fun k => trustquorummake_Ints.f k xs ys) (decide (xs = ys)) := by
  by_cases hl : xs.length = ys.length
  · have hl2 : (xs.length : Int) = (ys.length : Int) := by omega
    simp only [trustquorummake_Ints.f, Option.bind_some, ↓reduceIte, Bool.false_eq_true, reduceCtorEq, decide_eq_true_eq, Go.Proofs.YtkjlcbfjllpcnaaW.PrintWords.rd, rd_T32, rd_T34]
    simp only [if_pos hl2]
    refine Ev.fold (xs := xs) (L := fun (a : Unit) i k => trustquorummake_Ints.l0 k xs ys (xs.length : Int) i) (by omega) (fun pre zs a => xs.take pre.length = ys.take pre.length) ?_ ?_ () rfl
    · intro a i hI hi
      rw [List.take_of_length_le (Nat.le_refl _), List.take_of_length_le (by omega)] at hI
      (refine Ev.shift ?_; simp only [trustquorummake_Ints.l0, hi, Option.bind_some, ↓reduceIte, Bool.false_eq_true, reduceCtorEq, decide_eq_true_eq, Go.Proofs.YtkjlcbfjllpcnaaW.PrintWords.rd, rd_T32, rd_T34])
      rw [decide_eq_true hI]
      exact Ev.now _
    · intro pre y zs a i e hI hi h0 hlt hw hrd
      subst hi
      have hrd' := hrd
      simp only [Int.toNat_natCast] at hrd'
      have hlt2 : (pre.length : Int) < (ys.length : Int) := by omega
      have hp : pre.length < ys.length := by omega
      have hy : ys.getD pre.length 0 = ys[pre.length] := by rw [List.getD_eq_getElem?_getD, List.getElem?_eq_getElem hp]; rfl
      have hx' : xs.take (pre.length + 1) = xs.take pre.length ++ [y] := by
        have := hrd 0
        rw [Int.toNat_natCast, List.getD_eq_getElem?_getD, List.getElem?_eq_getElem (show pre.length < xs.length by omega)] at this
        rw [List.take_succ_eq_append_getElem (by omega)]
        congr 2
      by_cases h : y = ys.getD pre.length 0
      · refine Or.inl ⟨(), ?_, fun k => ?_⟩
        · rw [List.length_append, List.length_singleton, hx', hI, List.take_succ_eq_append_getElem hp, ← hy, h]
        · (refine Ev.shift ?_; simp only [trustquorummake_Ints.l0, h0, hlt, hw, hlt2, hrd', Int.toNat_natCast, Option.bind_some, ↓reduceIte, Bool.false_eq_true, reduceCtorEq, decide_eq_true_eq, Go.Proofs.YtkjlcbfjllpcnaaW.PrintWords.rd, rd_T32, rd_T34])
          simp only [if_pos h]
          exact k
      · refine Or.inr ?_
        have hne : xs ≠ ys := by
          intro hh
          subst hh
          have := hrd 0
          rw [Int.toNat_natCast] at this
          exact h this.symm
        rw [decide_eq_false hne]
        (refine Ev.shift ?_; simp only [trustquorummake_Ints.l0, h0, hlt, hw, hlt2, hrd', Int.toNat_natCast, Option.bind_some, ↓reduceIte, Bool.false_eq_true, reduceCtorEq, decide_eq_true_eq, Go.Proofs.YtkjlcbfjllpcnaaW.PrintWords.rd, rd_T32, rd_T34])
        simp only [if_neg h]
        exact Ev.now _
  · have hl2 : ¬ (xs.length : Int) = (ys.length : Int) := by omega
    simp only [trustquorummake_Ints.f, hl2, Option.bind_some, ↓reduceIte, Bool.false_eq_true, reduceCtorEq, decide_eq_true_eq, Go.Proofs.YtkjlcbfjllpcnaaW.PrintWords.rd, rd_T32, rd_T34]
    have hne : xs ≠ ys := fun hh => hl (by rw [hh])
    rw [decide_eq_false hne]
    exact Ev.now _
end Go.Proofs.Ytkjlcbfjllpcnaa.X
namespace Go.Proofs.Ytkjlcbfjllpcnaa.X
open Go.RowKit Go.Proofs.YtkjlcbfjllpcnaaW.PrintWords Go.Proofs.YtkjlcbfjllpcnaaW.PrintLast Go.Proofs.YtkjlcbfjllpcnaaW.PrintMore
set_option linter.unusedVariables false
instance (x y:Int):Decidable (ltS x y):=inferInstanceAs (Decidable (_ ∨ _))
end Go.Proofs.Ytkjlcbfjllpcnaa.X
namespace Go.Proofs.Ytkjlcbfjllpcnaa.X
open Go.RowKit Go.Lib Go.Sort Go.Proofs.YtkjlcbfjllpcnaaW.PrintWords Go.Proofs.YtkjlcbfjllpcnaaW.PrintLast Go.Proofs.YtkjlcbfjllpcnaaW.PrintMore
set_option linter.unusedVariables false
theorem ltS_irrefl (x : Int) : ¬ ltS x x := by unfold ltS; omega
theorem ltS_tri {x y : Int} (h : ¬ ltS x y) (k : x ≠ y) : ltS y x := by unfold ltS at *; omega
def Mini (l : List Int) (x : Int) : Prop := x ∈ l ∧ vld x = true ∧ ∀ y ∈ l, vld y = true → Sub y.toNat x.toNat → y = x
theorem vld_cast {x : Int} (h : vld x = true) : ∃ n : Nat, x = (n : Int) ∧ n < 1024 := by
  rw [vld_iff] at h
  exact ⟨x.toNat, by omega, by omega⟩
theorem sub_v {x y : Int} (hx : vld x = true) (hy : vld y = true) : sub x y = true ↔ Sub x.toNat y.toNat := by
  obtain ⟨a, rfl, ha⟩ := vld_cast hx
  obtain ⟨b, rfl, hb⟩ := vld_cast hy
  rw [sub_nat ha hb, Int.toNat_natCast, Int.toNat_natCast]
theorem pcn_sub {a b : Nat} (hb : b < 1024) (h : Sub a b) (hne : a ≠ b) : pcn a < pcn b := by
  have hex : ∃ i, i < 10 ∧ b.testBit i = true ∧ a.testBit i = false := by
    apply Classical.byContradiction
    intro hn
    refine hne (Sub.eq h fun i hi => ?_)
    cases ha : a.testBit i
    · refine absurd ⟨i, ?_, hi, ha⟩ hn
      rcases Nat.lt_or_ge i 10 with h | h
      · exact h
      · rw [bit_lt (n := 10) hb h] at hi; cases hi
    · rfl
  obtain ⟨i, h10, hbi, hai⟩ := hex
  refine Nat.lt_of_lt_of_le (pcn_lt h10 hai) ?_
  unfold pcn
  refine List.countP_mono_left fun k _ hk => ?_
  exact (Sub.or h (Sub.two hbi)) k hk
theorem ltS_of_sub {x y : Int} (hx : vld x = true) (hy : vld y = true) (h : Sub x.toNat y.toNat) (hne : x ≠ y) : ltS x y := by
  obtain ⟨a, rfl, ha⟩ := vld_cast hx
  obtain ⟨b, rfl, hb⟩ := vld_cast hy
  rw [Int.toNat_natCast, Int.toNat_natCast] at h
  have := pcn_sub hb h (by omega)
  left
  unfold rank size
  rw [vld_nat ha, vld_nat hb]
  simp only [if_true, Int.toNat_natCast]
  omega
theorem leastFold_spec (l : List Int) (hv : ∀ x ∈ l, vld x = true) (hs : l.Pairwise leS) : (leastFold l).Pairwise ltS ∧ ∀ x, x ∈ leastFold l ↔ Mini l x := by
  have key : ∀ (rest pre out : List Int), l = pre ++ rest → out.Pairwise ltS → (∀ x ∈ out, x ∈ pre ∧ Mini l x) → (∀ x ∈ pre, ∃ t ∈ out, Sub t.toNat x.toNat) →
      (rest.foldl leastStep out).Pairwise ltS ∧ ∀ x, x ∈ rest.foldl leastStep out ↔ Mini l x := by
    intro rest
    induction rest with
    | nil =>
      intro pre out e h1 h2 h3
      rw [List.append_nil] at e
      subst e
      refine ⟨h1, fun x => ⟨fun h => (h2 x h).2, fun h => ?_⟩⟩
      obtain ⟨t, ht, hts⟩ := h3 x h.1
      have := h.2.2 t (h2 t ht).1 (h2 t ht).2.2.1 hts
      rw [← this]; exact ht
    | cons y ys ih =>
      intro pre out e h1 h2 h3
      rw [List.foldl_cons]
      have hy : y ∈ l := by rw [e]; simp
      have hvy := hv y hy
      by_cases ha : (out.any fun t => sub t y) = true
      · rw [leastStep, if_pos ha]
        obtain ⟨t, ht, hts⟩ := List.any_eq_true.1 ha
        refine ih (pre ++ [y]) out (by rw [e]; simp) h1 (fun x hx => ⟨by simp [(h2 x hx).1], (h2 x hx).2⟩) fun x hx => ?_
        rcases List.mem_append.1 hx with h | h
        · exact h3 x h
        · rw [List.mem_singleton.1 h]
          exact ⟨t, ht, (sub_v (h2 t ht).2.2.1 hvy).1 hts⟩
      · rw [leastStep, if_neg ha]
        have hno : ∀ t ∈ out, ¬ Sub t.toNat y.toNat := fun t ht hh => ha (List.any_eq_true.2 ⟨t, ht, (sub_v (h2 t ht).2.2.1 hvy).2 hh⟩)
        have hpy : ∀ x ∈ pre, leS x y := by
          intro x hx
          rw [e, List.pairwise_append] at hs
          exact hs.2.2 x hx y (by simp)
        have hmin : Mini l y := by
          refine ⟨hy, hvy, fun z hz hvz hzy => ?_⟩
          apply Classical.byContradiction
          intro hne
          have hlt := ltS_of_sub hvz hvy hzy hne
          have hzp : z ∈ pre := by
            rw [e] at hz
            rcases List.mem_append.1 hz with h | h
            · exact h
            · rcases List.mem_cons.1 h with h | h
              · exact absurd h hne
              · rw [e, List.pairwise_append, List.pairwise_cons] at hs
                exact absurd hlt (hs.2.1.1 z h)
          obtain ⟨t, ht, hts⟩ := h3 z hzp
          exact hno t ht (hts.trans hzy)
        refine ih (pre ++ [y]) (out ++ [y]) (by rw [e]; simp) ?_ ?_ ?_
        · rw [List.pairwise_append]
          refine ⟨h1, by simp, fun a ha b hb => ?_⟩
          rw [List.mem_singleton.1 hb]
          refine ltS_tri (hpy a (h2 a ha).1) fun hh => ?_
          exact hno a ha (by rw [hh]; exact Sub.refl _)
        · intro x hx
          rcases List.mem_append.1 hx with h | h
          · exact ⟨by simp [(h2 x h).1], (h2 x h).2⟩
          · rw [List.mem_singleton.1 h]; exact ⟨by simp, hmin⟩
        · intro x hx
          rcases List.mem_append.1 hx with h | h
          · obtain ⟨t, ht, hts⟩ := h3 x h
            exact ⟨t, by simp [ht], hts⟩
          · rw [List.mem_singleton.1 h]; exact ⟨y, by simp, Sub.refl _⟩
  exact key l [] [] rfl List.Pairwise.nil (by simp) (by simp)
theorem leastS_spec (l : List Int) : (leastS l).Pairwise ltS ∧ ∀ x, x ∈ leastS l ↔ Mini l x := by
  have hm : ∀ x, x ∈ sortS (l.filter vld) ↔ x ∈ l ∧ vld x = true := fun x => by rw [(sortS_perm _).mem_iff, List.mem_filter]
  have := leastFold_spec (sortS (l.filter vld)) (fun x hx => ((hm x).1 hx).2) (sortS_sorted _)
  refine ⟨this.1, fun x => (this.2 x).trans ?_⟩
  unfold Mini
  rw [hm]
  constructor
  · rintro ⟨⟨h1, h2⟩, h3, h4⟩
    exact ⟨h1, h2, fun y hy hv => h4 y ((hm y).2 ⟨hy, hv⟩) hv⟩
  · rintro ⟨h1, h2, h3⟩
    exact ⟨⟨h1, h2⟩, h2, fun y hy hv => h3 y ((hm y).1 hy).1 hv⟩
end Go.Proofs.Ytkjlcbfjllpcnaa.X
namespace Go.Proofs.Ytkjlcbfjllpcnaa.X
open Go.RowKit Go.Proofs.YtkjlcbfjllpcnaaW.PrintWords Go.Proofs.YtkjlcbfjllpcnaaW.PrintLast Go.Proofs.YtkjlcbfjllpcnaaW.PrintMore
set_option linter.unusedVariables false
def unh (c : List S34) (x : Nat) : Option Int := (nodesL x).find? fun j => !(sat x (c.getD j.toNat z34).f1)
theorem bit10 {x i : Nat} (hx : x < 1024) (hi : x.testBit i = true) : i < 10 := by
  rcases Nat.lt_or_ge i 10 with h | h
  · exact h
  · rw [bit_lt (n := 10) hx h] at hi; cases hi
theorem unh_none {c : List S34} {x : Nat} (hx : x < 1024) : unh c x = none ↔ ∀ i, x.testBit i = true → sat x (c.getD i z34).f1 = true := by
  unfold unh
  rw [List.find?_eq_none]
  constructor
  · intro h i hi
    have := h (i : Int) (nodesL_mem.2 (inS_iff.2 ⟨i, rfl, bit10 hx hi, hi⟩))
    rw [Int.toNat_natCast] at this
    simpa using this
  · intro h j hj
    obtain ⟨i, rfl, h10, hi⟩ := inS_iff.1 (nodesL_mem.1 hj)
    rw [Int.toNat_natCast, h i hi]
    simp
theorem unh_some {c : List S34} {x : Nat} {j : Int} (h : unh c x = some j) : ∃ i : Nat, j = (i : Int) ∧ i < 10 ∧ x.testBit i = true ∧ sat x (c.getD i z34).f1 = false := by
  have h1 := List.find?_some h
  have h2 := List.mem_of_find?_eq_some h
  obtain ⟨i, rfl, h10, hi⟩ := inS_iff.1 (nodesL_mem.1 h2)
  rw [Int.toNat_natCast] at h1
  exact ⟨i, rfl, h10, hi, by simpa using h1⟩
theorem Sub.lt {a b : Nat} (h : Sub a b) (hb : b < 1024) : a < 1024 := lt_of_bits (n := 10) fun i hi => by
  cases ha : a.testBit i
  · rfl
  · rw [← h i ha]; exact bit_lt hb hi
theorem Sub.le {a b : Nat} (h : Sub a b) : a ≤ b := by
  rw [← sub_and.2 h]; exact Nat.and_le_right
theorem quo_sat {c : List S34} {q i : Nat} (hq : q < 1024) (h : quo c q = true) (hi : q.testBit i = true) : sat q (c.getD i z34).f1 = true := ((quo_iff hq).1 h).2.2 i hi
theorem and_lt10 {a b : Nat} (hb : b < 1024) : a &&& b < 1024 := Nat.lt_of_le_of_lt Nat.and_le_right hb
theorem Sub.zero {a : Nat} (h : Sub a 0) : a = 0 := h.eq fun i hi => by rw [Nat.zero_testBit] at hi; cases hi
def allQ (c : List S34) : List Int := ((List.range (2 ^ c.length)).filter fun x => quo c x).map Int.ofNat
theorem quo_range {c : List S34} (hn : c.length ≤ 10) {q : Nat} (hq : q < 1024) (h : quo c q = true) : q < 2 ^ c.length := lt_of_bits fun i hi => by
  cases hb : q.testBit i
  · rfl
  · have := decl_len (((quo_iff hq).1 h).2.1 i hb); omega
theorem pow10 {n : Nat} (hn : n ≤ 10) : 2 ^ n ≤ 1024 := Nat.pow_le_pow_right (n := 2) (by decide) hn
theorem allQ_mem {c : List S34} (hn : c.length ≤ 10) {x : Int} : x ∈ allQ c ↔ ∃ q : Nat, x = (q : Int) ∧ q < 1024 ∧ quo c q = true := by
  have hp := pow10 hn
  unfold allQ
  rw [List.mem_map]
  constructor
  · rintro ⟨q, hq, rfl⟩
    rw [List.mem_filter, List.mem_range] at hq
    exact ⟨q, rfl, by omega, hq.2⟩
  · rintro ⟨q, rfl, h1, h2⟩
    exact ⟨q, by rw [List.mem_filter, List.mem_range]; exact ⟨quo_range hn h1 h2, h2⟩, rfl⟩
theorem allQ_len (c : List S34) (hn : c.length ≤ 10) : (allQ c).length ≤ 1024 := by
  have hp := pow10 hn
  unfold allQ
  rw [List.length_map]
  exact Nat.le_trans (List.length_filter_le _ _) (by simpa using hp)
def minQ (c : List S34) : List Int := leastS (allQ c)
def MinQ (c : List S34) (q : Nat) : Prop := q < 1024 ∧ quo c q = true ∧ ∀ p, p < 1024 → quo c p = true → Sub p q → p = q
theorem minQ_mem {c : List S34} (hn : c.length ≤ 10) {x : Int} : x ∈ minQ c ↔ ∃ q : Nat, x = (q : Int) ∧ MinQ c q := by
  unfold minQ MinQ
  rw [(leastS_spec _).2]
  unfold Mini
  rw [allQ_mem hn]
  constructor
  · rintro ⟨⟨q, rfl, h1, h2⟩, h3, h4⟩
    refine ⟨q, rfl, h1, h2, fun p hp hq hs => ?_⟩
    have := h4 (p : Int) ((allQ_mem hn).2 ⟨p, rfl, hp, hq⟩) (vld_nat hp) (by rw [Int.toNat_natCast, Int.toNat_natCast]; exact hs)
    omega
  · rintro ⟨q, rfl, h1, h2, h3⟩
    refine ⟨⟨q, rfl, h1, h2⟩, vld_nat h1, fun y hy hv hs => ?_⟩
    obtain ⟨p, rfl, hp, hq⟩ := (allQ_mem hn).1 hy
    rw [Int.toNat_natCast, Int.toNat_natCast] at hs
    rw [h3 p hp hq hs]
theorem minQ_len (c : List S34) (hn : c.length ≤ 10) : (minQ c).length ≤ 1024 := by
  have hne : ∀ {a b : Int}, ltS a b → a ≠ b := fun {a b} h e => ltS_irrefl a (by rw [← e] at h; exact h)
  have hnd : (minQ c).Nodup := List.Pairwise.imp hne (leastS_spec _).1
  exact Nat.le_trans (hnd.length_le_of_subset fun x hx => (((leastS_spec _).2 x).1 hx).1) (allQ_len c hn)
theorem content_ev {c : List S34} (hc : Light c) {x j : Nat} (hx : x < 1024) (hj : j < c.length) : Ev (fun k => closure_content.f k c (j : Int) (x : Int)) (sat x (c.getD j z34).f1) := by
  have hj0 : (0 : Int) ≤ j := by omega
  have hj1 : (j : Int) < (c.length : Int) := by omega
  have hsat := Sat_ev hx 1000000 _ (hc.at j) (by decide)
  simp only [closure_content.f, hj0, hj1, Int.toNat_natCast, Option.bind_some, ↓reduceIte, Bool.false_eq_true, reduceCtorEq, decide_eq_true_eq, Go.Proofs.YtkjlcbfjllpcnaaW.PrintWords.rd, rd_T32, rd_T34]
  refine Ev.bind1 hsat ?_
  exact Ev.now _
def optN : Option Int → Int × Bool
  | some j => (j, true)
  | none => (0, false)
theorem unhappy_ev {c : List S34} (hc : Light c) {x : Nat} (hx : x < 1024) (hd : Sub x (decl c)) : Ev (fun k => closure_unhappy.f k c (x : Int)) (optN (unh c x)) := by
  simp only [closure_unhappy.f]
  refine Ev.bind1 (Nodes_ev hx) ?_
  have hl := nodesL_len x
  refine Ev.fold (xs := nodesL x) (L := fun (a : Unit) i k => closure_unhappy.l0 k (x : Int) (nodesL x) ((nodesL x).length : Int) i c) (by omega) (fun pre ys a => (ys.find? fun j => !(sat x (c.getD j.toNat z34).f1)) = unh c x) ?_ ?_ () rfl
  · intro a i hI hi
    rw [List.find?_nil] at hI
    (refine Ev.shift ?_; simp only [closure_unhappy.l0, hi, Option.bind_some, ↓reduceIte, Bool.false_eq_true, reduceCtorEq, decide_eq_true_eq, Go.Proofs.YtkjlcbfjllpcnaaW.PrintWords.rd, rd_T32, rd_T34])
    rw [← hI]
    exact Ev.now _
  · intro pre y ys a i e hI hi h0 hlt hw hrd
    obtain ⟨j, rfl, h10, hj⟩ := inS_iff.1 (nodesL_mem.1 (show y ∈ nodesL x by rw [e]; simp))
    have hcon := content_ev hc hx (decl_len (hd j hj))
    rw [List.find?_cons, Int.toNat_natCast] at hI
    cases hs : sat x (c.getD j z34).f1
    · refine Or.inr ?_
      rw [hs] at hI
      simp only [Bool.not_false] at hI
      rw [← hI]
      (refine Ev.shift ?_; simp only [closure_unhappy.l0, h0, hlt, hw, hrd, Option.bind_some, ↓reduceIte, Bool.false_eq_true, reduceCtorEq, decide_eq_true_eq, Go.Proofs.YtkjlcbfjllpcnaaW.PrintWords.rd, rd_T32, rd_T34])
      refine Ev.bind1 hcon ?_
      rw [hs]
      exact Ev.now _
    · rw [hs] at hI
      simp only [Bool.not_true] at hI
      refine Or.inl ⟨(), hI, fun k => ?_⟩
      (refine Ev.shift ?_; simp only [closure_unhappy.l0, h0, hlt, hw, hrd, Option.bind_some, ↓reduceIte, Bool.false_eq_true, reduceCtorEq, decide_eq_true_eq, Go.Proofs.YtkjlcbfjllpcnaaW.PrintWords.rd, rd_T32, rd_T34])
      refine Ev.bind1 hcon ?_
      rw [hs]
      exact k
theorem quo_unh {c : List S34} {x : Nat} (hx : x < 1024) (h0 : x ≠ 0) (hd : Sub x (decl c)) : quo c x = !(optN (unh c x)).2 := by
  cases hu : unh c x with
  | none => exact (quo_iff hx).2 ⟨h0, hd, (unh_none hx).1 hu⟩
  | some j =>
    obtain ⟨i, rfl, h10, hi, hs⟩ := unh_some hu
    cases hq : quo c x
    · rfl
    · rw [quo_sat hx hq hi] at hs; cases hs
theorem Quorum_ev {c : List S34} (hc : Light c) {x : Nat} (hx : x < 1024) : Ev (fun k => closure_Quorum.f k c (x : Int)) (quo c x) := by
  simp only [closure_Quorum.f, Valid_eq, vld_nat hx, Option.bind_some, ↓reduceIte, Bool.false_eq_true, reduceCtorEq, decide_eq_true_eq, Go.Proofs.YtkjlcbfjllpcnaaW.PrintWords.rd, rd_T32, rd_T34]
  by_cases h0 : x = 0
  · have h1 : (x : Int) = 0 := by omega
    simp only [h1, Option.bind_some, ↓reduceIte, Bool.false_eq_true, reduceCtorEq, decide_eq_true_eq, Go.Proofs.YtkjlcbfjllpcnaaW.PrintWords.rd, rd_T32, rd_T34]
    have : quo c x = false := by unfold quo; simp [h0]
    rw [this]
    exact Ev.now _
  have h1 : ¬ (x : Int) = 0 := by omega
  simp only [h1, closure_inside.f, Option.bind_some, ↓reduceIte, Bool.false_eq_true, reduceCtorEq, decide_eq_true_eq, Go.Proofs.YtkjlcbfjllpcnaaW.PrintWords.rd, rd_T32, rd_T34]
  have hD := Declared_ev hc.1
  have hin : Ev (fun k => (configuration_Declared.f k c).bind fun t => some (Go.bits .andNot .i64 (x : Int) t == 0)) (dif x (decl c) == 0) := by
    refine Ev.bind1 hD ?_
    have hdl := decl_lt c
    rw [andNot_nat (by omega) (by omega)]
    have : (((dif x (decl c) : Nat) : Int) == 0) = (dif x (decl c) == 0) := by
      by_cases h : dif x (decl c) = 0
      · rw [h]; rfl
      · have h2 : ¬ ((dif x (decl c) : Nat) : Int) = 0 := by omega
        rw [beq_eq_false_iff_ne.2 h, beq_eq_false_iff_ne.2 h2]
    rw [this]
    exact Ev.now _
  refine Ev.bind1 hin ?_
  by_cases h : Sub x (decl c)
  · rw [sub_dif.2 h]
    simp only [beq_self_eq_true, if_true]
    refine Ev.bind1 (unhappy_ev hc hx h) ?_
    rw [quo_unh hx h0 h]
    exact Ev.now _
  · have h2 : (dif x (decl c) == 0) = false := beq_eq_false_iff_ne.2 fun e => h (sub_dif.1 e)
    rw [h2]
    simp only [Bool.false_eq_true, if_false]
    have : quo c x = false := by
      cases hq : quo c x
      · rfl
      · exact absurd ((quo_iff hx).1 hq).2.1 h
    rw [this]
    exact Ev.now _
theorem all_ev {c : List S34} (hc : Light c) (hn : c.length ≤ 10) : Ev (fun k => quorums_all.f k c) (allQ c) := by
  have hp := pow10 hn
  simp only [quorums_all.f, shl_nat (show c.length ≤ 61 by omega)]
  unfold allQ
  generalize 2 ^ c.length = m at hp
  refine Ev.count (L := fun (x3 : List Int) i k => quorums_all.l0 k x3 (m : Int) i c) m (by omega) (fun i x3 => x3 = ((List.range i).filter fun x => quo c x).map Int.ofNat) ?_ ?_ [] rfl
  · intro x3 h
    have hlt : ¬ (m : Int) < (m : Int) := by omega
    (refine Ev.shift ?_; simp only [quorums_all.l0, hlt, Option.bind_some, ↓reduceIte, Bool.false_eq_true, reduceCtorEq, decide_eq_true_eq, Go.Proofs.YtkjlcbfjllpcnaaW.PrintWords.rd, rd_T32, rd_T34])
    rw [h]
    exact Ev.now _
  · intro i x3 hi h hw
    have hlt : (i : Int) < (m : Int) := by omega
    have hx : i < 1024 := by omega
    have hlen : x3.length < 17592186044416 := by
      rw [h, List.length_map]
      have := List.length_filter_le (fun x => quo c x) (List.range i)
      rw [List.length_range] at this
      omega
    refine Or.inl ⟨x3 ++ if quo c i = true then [(i : Int)] else [], ?_, fun k => ?_⟩
    · rw [h, List.range_succ, List.filter_append, List.map_append]
      cases hq : quo c i <;> simp [hq]
    · (refine Ev.shift ?_; simp only [quorums_all.l0, hlt, hw, Option.bind_some, ↓reduceIte, Bool.false_eq_true, reduceCtorEq, decide_eq_true_eq, Go.Proofs.YtkjlcbfjllpcnaaW.PrintWords.rd, rd_T32, rd_T34])
      refine Ev.bind1 (Quorum_ev hc hx) ?_
      cases hq : quo c i
      · simp only [hq, Bool.false_eq_true, if_false, List.append_nil] at k ⊢
        exact k
      · simp only [hq, if_true, hlen] at k ⊢
        exact k
theorem Minimal_ev {c : List S34} (hc : Light c) (hn : c.length ≤ 10) (hv : valC c = 0) : Ev (fun k => quorums_Minimal.f k c) (minQ c, 0) := by
  simp only [quorums_Minimal.f]
  refine Ev.bind1 (CValid_ev hc) ?_
  rw [hv]
  simp only [if_true]
  refine Ev.bind1 (all_ev hc hn) ?_
  have hl := allQ_len c hn
  have h1 : (allQ c).length ≤ 1048576 := by omega
  simp only [nodeset_Least.f, if_pos h1, Option.bind_some]
  exact Ev.now _
theorem Count_ev {c : List S34} (hc : Light c) (hn : c.length ≤ 10) (hv : valC c = 0) : Ev (fun k => quorums_Count.f k c) (((allQ c).length : Int), 0) := by
  simp only [quorums_Count.f]
  refine Ev.bind1 (CValid_ev hc) ?_
  rw [hv]
  simp only [if_true]
  refine Ev.bind1 (all_ev hc hn) ?_
  exact Ev.now _
def fwd (c : List S34) (j : Int) : Nat := uses (c.getD j.toNat z34).f1 &&& decl c
def stp (c : List S34) (s : Nat) : Nat := (nodesL s).foldl (fun a j => a ||| fwd c j) s
def Clo (c : List S34) (s : Nat) : Prop := ∀ i : Nat, s.testBit i = true → Sub (fwd c (i : Int)) s
theorem fwd_lt (c : List S34) (j : Int) : fwd c j < 1024 := and_lt10 (decl_lt c)
theorem fold_or_bit {f : Int → Nat} (i : Nat) : ∀ (l : List Int) (a : Nat), (l.foldl (fun a j => a ||| f j) a).testBit i = true ↔ a.testBit i = true ∨ ∃ j ∈ l, (f j).testBit i = true
  | [], a => by simp
  | x :: xs, a => by
    rw [List.foldl_cons, fold_or_bit i xs, or_bit, Bool.or_eq_true]
    constructor
    · rintro ((h | h) | ⟨j, h, k⟩)
      · exact Or.inl h
      · exact Or.inr ⟨x, by simp, h⟩
      · exact Or.inr ⟨j, by simp [h], k⟩
    · rintro (h | ⟨j, h, k⟩)
      · exact Or.inl (Or.inl h)
      · rcases List.mem_cons.1 h with rfl | h
        · exact Or.inl (Or.inr k)
        · exact Or.inr ⟨j, h, k⟩
theorem stp_bit {c : List S34} {s i : Nat} : (stp c s).testBit i = true ↔ s.testBit i = true ∨ ∃ j ∈ nodesL s, (fwd c j).testBit i = true := fold_or_bit i _ _
theorem stp_sub (c : List S34) (s : Nat) : Sub s (stp c s) := fun i hi => stp_bit.2 (Or.inl hi)
theorem stp_lt {c : List S34} {s : Nat} (h : s < 1024) : stp c s < 1024 := lt_of_bits (n := 10) fun i hi => by
  cases hb : (stp c s).testBit i
  · rfl
  · rcases stp_bit.1 hb with h1 | ⟨j, _, h1⟩
    · rw [← h1]; exact bit_lt h hi
    · rw [← h1]; exact bit_lt (fwd_lt c j) hi
theorem stp_in {c : List S34} {s T : Nat} (hT : Clo c T) (h : Sub s T) : Sub (stp c s) T := fun i hi => by
  rcases stp_bit.1 hi with h1 | ⟨j, hj, h1⟩
  · exact h i h1
  · obtain ⟨k, rfl, h10, hk⟩ := inS_iff.1 (nodesL_mem.1 hj)
    exact hT k (h k hk) i h1
theorem stp_fix {c : List S34} {s : Nat} (hs : s < 1024) (h : stp c s = s) : Clo c s := fun i hi k hk => by
  rw [← h]
  exact stp_bit.2 (Or.inr ⟨(i : Int), nodesL_mem.2 (inS_iff.2 ⟨i, rfl, bit10 hs hi, hi⟩), hk⟩)
def rchF (c : List S34) : Nat → Nat → Nat
  | 0, s => s
  | n + 1, s => if stp c s = s then s else rchF c n (stp c s)
def rch (c : List S34) (k : Nat) : Nat := rchF c 11 (2 ^ k)
theorem rchF_spec {c : List S34} : ∀ n s, s < 1024 → 10 < n + pcn s → Clo c (rchF c n s) ∧ Sub s (rchF c n s) ∧ rchF c n s < 1024 ∧ ∀ T, Clo c T → Sub s T → Sub (rchF c n s) T
  | 0, s, _, h => absurd (pcn_le s) (by omega)
  | n + 1, s, hs, h => by
    rw [rchF]
    by_cases e : stp c s = s
    · rw [if_pos e]
      exact ⟨stp_fix hs e, Sub.refl _, hs, fun T _ h => h⟩
    · rw [if_neg e]
      have h1 := pcn_sub (stp_lt (c := c) hs) (stp_sub c s) (fun h => e h.symm)
      obtain ⟨h2, h3, h4, h5⟩ := rchF_spec (c := c) n (stp c s) (stp_lt hs) (by omega)
      exact ⟨h2, (stp_sub c s).trans h3, h4, fun T hT hsT => h5 T hT (stp_in hT hsT)⟩
theorem pcn_two {k : Nat} (hk : k < 10) : 1 ≤ pcn (2 ^ k) := by
  have := pcn_lt (s := 0) hk (Nat.zero_testBit k)
  rw [Nat.zero_or] at this
  omega
theorem rch_spec {c : List S34} {k : Nat} (hk : k < 10) : Clo c (rch c k) ∧ Sub (2 ^ k) (rch c k) ∧ rch c k < 1024 ∧ ∀ T, Clo c T → Sub (2 ^ k) T → Sub (rch c k) T :=
  rchF_spec 11 _ (two_lt10 hk) (by have := pcn_two hk; omega)
theorem rch_self {c : List S34} {k : Nat} (hk : k < 10) : (rch c k).testBit k = true := (rch_spec hk).2.1 k (by rw [two_bit]; simp)
theorem rch_trans {c : List S34} {k j : Nat} (hk : k < 10) (hj : (rch c k).testBit j = true) : Sub (rch c j) (rch c k) :=
  (rch_spec (bit10 (rch_spec hk).2.2.1 hj)).2.2.2 _ (rch_spec hk).1 (Sub.two hj)
theorem rch_decl {c : List S34} {k : Nat} (hk : (decl c).testBit k = true) : Sub (rch c k) (decl c) :=
  (rch_spec (bit10 (decl_lt c) hk)).2.2.2 _ (fun i _ j hj => by unfold fwd at hj; rw [and_bit, Bool.and_eq_true] at hj; exact hj.2) (Sub.two hk)
def prt (c : List S34) (k : Nat) : Nat := (nodesL (rch c k)).foldl (fun a n => a ||| if (rch c n.toNat).testBit k = true then 2 ^ n.toNat else 0) 0
theorem prt_bit {c : List S34} {k n : Nat} (hk : k < 10) : (prt c k).testBit n = true ↔ (rch c k).testBit n = true ∧ (rch c n).testBit k = true := by
  unfold prt
  rw [fold_or_bit n]
  constructor
  · rintro (h | ⟨j, hj, h⟩)
    · rw [Nat.zero_testBit] at h; cases h
    · obtain ⟨i, rfl, h10, hi⟩ := inS_iff.1 (nodesL_mem.1 hj)
      rw [Int.toNat_natCast] at h
      split at h
      · rename_i h1
        rw [two_bit, decide_eq_true_eq] at h
        subst h
        exact ⟨hi, h1⟩
      · rw [Nat.zero_testBit] at h; cases h
  · rintro ⟨h1, h2⟩
    refine Or.inr ⟨(n : Int), nodesL_mem.2 (inS_iff.2 ⟨n, rfl, bit10 (rch_spec hk).2.2.1 h1, h1⟩), ?_⟩
    rw [Int.toNat_natCast, if_pos h2, two_bit]
    simp
theorem prt_self {c : List S34} {k : Nat} (hk : k < 10) : (prt c k).testBit k = true := (prt_bit hk).2 ⟨rch_self hk, rch_self hk⟩
theorem prt_lt {c : List S34} {k : Nat} (hk : k < 10) : prt c k < 1024 := Sub.lt (b := rch c k) (fun i hi => ((prt_bit hk).1 hi).1) (rch_spec hk).2.2.1
theorem prt_eq {c : List S34} {k n : Nat} (hk : k < 10) (h : (prt c k).testBit n = true) : prt c n = prt c k := by
  obtain ⟨h1, h2⟩ := (prt_bit hk).1 h
  have hn := bit10 (rch_spec hk).2.2.1 h1
  refine Sub.eq (fun i hi => ?_) fun i hi => ?_
  · obtain ⟨h3, h4⟩ := (prt_bit hn).1 hi
    exact (prt_bit hk).2 ⟨rch_trans hk h1 i h3, rch_trans (bit10 (rch_spec hn).2.2.1 h3) h4 k h2⟩
  · obtain ⟨h3, h4⟩ := (prt_bit hk).1 hi
    exact (prt_bit hn).2 ⟨rch_trans hn h2 i h3, rch_trans (bit10 (rch_spec hk).2.2.1 h3) h4 n h1⟩
def partsStep (c : List S34) (o : List Int × Nat) (k : Nat) : List Int × Nat := if o.2.testBit k = true ∨ (decl c).testBit k = false then o else (o.1 ++ [(prt c k : Int)], o.2 ||| prt c k)
def partsF (c : List S34) (n : Nat) : List Int × Nat := (List.range n).foldl (partsStep c) ([], 0)
def partsS (c : List S34) : List Int := (partsF c c.length).1
theorem partsF_succ (c : List S34) (n : Nat) : partsF c (n + 1) = partsStep c (partsF c n) n := by unfold partsF; rw [List.range_succ, List.foldl_append]; rfl
structure PInv (c : List S34) (n : Nat) (o : List Int × Nat) : Prop where
  form : ∀ x ∈ o.1, ∃ k, (decl c).testBit k = true ∧ x = (prt c k : Int)
  done : ∀ i, o.2.testBit i = true ↔ ∃ x ∈ o.1, x.toNat.testBit i = true
  apart : o.1.Pairwise fun x y => x.toNat &&& y.toNat = 0
  all : ∀ j, j < n → (decl c).testBit j = true → o.2.testBit j = true
  lt : o.2 < 1024
  len : o.1.length ≤ n
theorem partsF_inv (c : List S34) : ∀ n, PInv c n (partsF c n)
  | 0 => ⟨by simp [partsF], by simp [partsF], by simp [partsF], fun j h => absurd h (by omega), by simp [partsF], by simp [partsF]⟩
  | n + 1 => by
    have ih := partsF_inv c n
    rw [partsF_succ]
    unfold partsStep
    split
    · rename_i h
      refine ⟨ih.form, ih.done, ih.apart, fun j hj hd => ?_, ih.lt, Nat.le_succ_of_le ih.len⟩
      rcases Nat.lt_or_ge j n with h1 | h1
      · exact ih.all j h1 hd
      · have : j = n := by omega
        subst this
        rcases h with h | h
        · exact h
        · rw [h] at hd; cases hd
    · rename_i h
      have hd : (decl c).testBit n = true := by
        cases hb : (decl c).testBit n
        · exact absurd (Or.inr hb) h
        · rfl
      have hn := bit10 (decl_lt c) hd
      have hno : ∀ i, (prt c n).testBit i = true → (partsF c n).2.testBit i = false := by
        intro i hi
        cases hb : (partsF c n).2.testBit i
        · rfl
        · obtain ⟨x, hx, hxi⟩ := (ih.done i).1 hb
          obtain ⟨k, hk, rfl⟩ := ih.form x hx
          have hk10 := bit10 (decl_lt c) hk
          rw [Int.toNat_natCast] at hxi
          have e1 := prt_eq hk10 hxi
          rw [prt_eq hn hi] at e1
          refine absurd (Or.inl ((ih.done n).2 ⟨_, hx, ?_⟩)) h
          rw [Int.toNat_natCast, ← e1]
          exact prt_self hn
      refine ⟨fun x hx => ?_, fun i => ?_, ?_, fun j hj hdj => ?_, or_lt10 ih.lt (prt_lt hn), by simp; exact ih.len⟩
      · rcases List.mem_append.1 hx with hx | hx
        · exact ih.form x hx
        · rw [List.mem_singleton] at hx; exact ⟨n, hd, hx⟩
      · simp only [or_bit, Bool.or_eq_true, List.mem_append, List.mem_singleton]
        rw [ih.done]
        constructor
        · rintro (⟨x, h1, h2⟩ | h1)
          · exact ⟨x, Or.inl h1, h2⟩
          · exact ⟨_, Or.inr rfl, by rw [Int.toNat_natCast]; exact h1⟩
        · rintro ⟨x, h1 | h1, h2⟩
          · exact Or.inl ⟨x, h1, h2⟩
          · subst h1; rw [Int.toNat_natCast] at h2; exact Or.inr h2
      · simp only [List.pairwise_append, List.mem_singleton]
        refine ⟨ih.apart, by simp, fun x hx y hy => ?_⟩
        subst hy
        rw [Int.toNat_natCast]
        refine eq_bits fun i => ?_
        rw [and_bit, Nat.zero_testBit]
        cases h1 : (prt c n).testBit i
        · simp
        · have h2 := hno i h1
          cases h3 : x.toNat.testBit i
          · rfl
          · rw [(ih.done i).2 ⟨x, hx, h3⟩] at h2; cases h2
      · rw [or_bit, Bool.or_eq_true]
        rcases Nat.lt_or_ge j n with h1 | h1
        · exact Or.inl (ih.all j h1 hdj)
        · have : j = n := by omega
          subst this
          exact Or.inr (prt_self hn)
theorem parts_inv {c : List S34} : PInv c c.length (partsF c c.length) := partsF_inv c _
theorem part_pos {c : List S34} {x : Int} (h : x ∈ partsS c) : ∃ p : Nat, x = (p : Int) ∧ p < 1024 ∧ p ≠ 0 := by
  obtain ⟨k, hk, rfl⟩ := (parts_inv (c := c)).form x h
  have h10 := bit10 (decl_lt c) hk
  refine ⟨_, rfl, prt_lt h10, fun e => ?_⟩
  have := prt_self (c := c) h10
  rw [e, Nat.zero_testBit] at this
  cases this
theorem parts_all {c : List S34} : (partsF c c.length).2 = decl c := by
  have ih := parts_inv (c := c)
  refine Sub.eq (fun i hi => ?_) fun i hi => ih.all i (decl_len hi) hi
  obtain ⟨x, hx, hxi⟩ := (ih.done i).1 hi
  obtain ⟨k, hk, rfl⟩ := ih.form x hx
  rw [Int.toNat_natCast] at hxi
  exact rch_decl hk i ((prt_bit (bit10 (decl_lt c) hk)).1 hxi).1
theorem minQ_part {c : List S34} {q : Nat} (h : MinQ c q) : ∃ x ∈ partsS c, Sub q x.toNat := by
  obtain ⟨hq, hqq, hmin⟩ := h
  obtain ⟨h0, hd, hs⟩ := (quo_iff hq).1 hqq
  have hreach : ∀ i j, q.testBit i = true → q.testBit j = true → (rch c i).testBit j = true := by
    intro i j hi hj
    have h10 := bit10 hq hi
    have hr := rch_spec (c := c) h10
    have hR : q &&& rch c i < 1024 := and_lt10 hr.2.2.1
    have hquo : quo c (q &&& rch c i) = true := by
      refine (quo_iff hR).2 ⟨fun e => ?_, fun k hk => ?_, fun k hk => ?_⟩
      · have : (q &&& rch c i).testBit i = true := by rw [and_bit, hi, rch_self h10]; rfl
        rw [e, Nat.zero_testBit] at this; cases this
      · rw [and_bit, Bool.and_eq_true] at hk; exact hd k hk.1
      · rw [and_bit, Bool.and_eq_true] at hk
        refine sat_uses (s := q) _ (fun b hb hqb => ?_) (hs k hk.1)
        rw [and_bit, hqb]
        have := hr.1 k hk.2 b (by unfold fwd; rw [Int.toNat_natCast, and_bit, hb, hd b hqb]; rfl)
        rw [this]; rfl
    have e := hmin _ hR hquo fun k hk => by rw [and_bit, Bool.and_eq_true] at hk; exact hk.1
    rw [← e, and_bit, Bool.and_eq_true] at hj
    exact hj.2
  obtain ⟨k, hk⟩ : ∃ k, q.testBit k = true := by
    apply Classical.byContradiction
    intro hn
    refine h0 (eq_bits fun i => ?_)
    rw [Nat.zero_testBit]
    cases hb : q.testBit i
    · rfl
    · exact absurd ⟨i, hb⟩ hn
  have h10 := bit10 hq hk
  have hp : Sub q (prt c k) := fun i hi => (prt_bit h10).2 ⟨hreach k i hk hi, hreach i k hi hk⟩
  have ih := parts_inv (c := c)
  obtain ⟨x, hx, hxk⟩ := (ih.done k).1 (ih.all k (decl_len (hd k hk)) (hd k hk))
  obtain ⟨m, hm, rfl⟩ := ih.form x hx
  rw [Int.toNat_natCast] at hxk
  refine ⟨_, hx, ?_⟩
  rw [Int.toNat_natCast, ← prt_eq (bit10 (decl_lt c) hm) hxk]
  exact hp
theorem reached_ev {c : List S34} (hc : Light c) {j : Nat} (hj : (decl c).testBit j = true) : Ev (fun k => quorums_reached.f k c (j : Int)) (rch c j : Int) := by
  have hdl := decl_lt c
  have h10 := bit10 hdl hj
  have hj0 : (0 : Int) ≤ j := by omega
  simp only [quorums_reached.f]
  refine Ev.bind1 (Declared_ev hc.1) ?_
  simp only [hj0, if_true, shl_nat' h10]
  have hstep : ∀ (r : Int) (s : Nat), s < 1024 → Sub s (decl c) →
      Ev (fun k => if ((stp c s : Nat) : Int) = (s : Int) then some (s : Int) else quorums_reached.l0 k (decl c : Int) (stp c s : Int) c) r →
      Ev (fun k => quorums_reached.l0 k (decl c : Int) (s : Int) c) r := by
    intro r s hs hd hk
    (refine Ev.shift ?_; simp only [quorums_reached.l0, Option.bind_some, ↓reduceIte, Bool.false_eq_true, reduceCtorEq, decide_eq_true_eq, Go.Proofs.YtkjlcbfjllpcnaaW.PrintWords.rd, rd_T32, rd_T34])
    refine Ev.bind1 (Nodes_ev hs) ?_
    have hl := nodesL_len s
    refine Ev.fold (xs := nodesL s) (L := fun (a : Nat) i k => quorums_reached.l1 k (decl c : Int) (s : Int) (a : Int) (nodesL s) ((nodesL s).length : Int) i c) (by omega) (fun pre ys a => a < 1024 ∧ ys.foldl (fun a j => a ||| fwd c j) a = stp c s) ?_ ?_ s ⟨hs, rfl⟩
    · rintro a i ⟨ha, hI⟩ hi
      rw [List.foldl_nil] at hI
      subst hI
      (refine Ev.shift ?_; simp only [quorums_reached.l1, hi, Option.bind_some, ↓reduceIte, Bool.false_eq_true, reduceCtorEq, decide_eq_true_eq, Go.Proofs.YtkjlcbfjllpcnaaW.PrintWords.rd, rd_T32, rd_T34])
      exact hk
    · rintro pre y ys a i e ⟨ha, hI⟩ hi h0 hlt hw hrd
      obtain ⟨m, rfl, hm10, hm⟩ := inS_iff.1 (nodesL_mem.1 (show y ∈ nodesL s by rw [e]; simp))
      have hml := decl_len (hd m hm)
      have hm0 : (0 : Int) ≤ m := by omega
      have hm1 : (m : Int) < (c.length : Int) := by omega
      have hu := Uses_ev 1000000 _ (hc.at m) (by decide)
      have hul := uses_lt (c.getD m z34).f1
      have hf := fwd_lt c (m : Int)
      rw [List.foldl_cons] at hI
      refine Or.inl ⟨a ||| fwd c (m : Int), ⟨or_lt10 ha hf, hI⟩, fun k => ?_⟩
      (refine Ev.shift ?_; simp only [quorums_reached.l1, h0, hlt, hw, hrd, hm0, hm1, Int.toNat_natCast, Option.bind_some, ↓reduceIte, Bool.false_eq_true, reduceCtorEq, decide_eq_true_eq, Go.Proofs.YtkjlcbfjllpcnaaW.PrintWords.rd, rd_T32, rd_T34])
      refine Ev.bind1 hu ?_
      have e1 : Go.bits .or .i64 (a : Int) (Go.bits .and .i64 (uses (c.getD m z34).f1 : Int) (decl c : Int)) = ((a ||| fwd c (m : Int) : Nat) : Int) := by
        rw [and_nat' hul hdl, or_nat' ha (and_lt10 hdl)]
        rfl
      rw [e1]
      exact k
  have key : ∀ (n s : Nat), s < 1024 → Sub s (decl c) → 10 < n + pcn s → Ev (fun k => quorums_reached.l0 k (decl c : Int) (s : Int) c) (rchF c n s : Int) := by
    intro n
    induction n with
    | zero => intro s _ _ h; exact absurd (pcn_le s) (by omega)
    | succ n ih =>
      intro s hs hd hp
      have hst := stp_lt (c := c) hs
      refine hstep _ s hs hd ?_
      rw [rchF]
      by_cases he : stp c s = s
      · have he' : ((stp c s : Nat) : Int) = (s : Int) := by omega
        simp only [he', he, if_true]
        exact Ev.now _
      · have he' : ¬ ((stp c s : Nat) : Int) = (s : Int) := by omega
        simp only [he', he, if_false]
        refine ih _ hst (stp_in (fun i _ k hk => by unfold fwd at hk; rw [and_bit, Bool.and_eq_true] at hk; exact hk.2) hd) ?_
        have := pcn_sub hst (stp_sub c s) (fun h => he h.symm)
        omega
  exact key 11 _ (two_lt10 h10) (Sub.two hj) (by have := pcn_two h10; omega)
def rchL (c : List S34) : List Int := (List.range c.length).map fun k => if (decl c).testBit k = true then (rch c k : Int) else 0
theorem rchL_len (c : List S34) : (rchL c).length = c.length := by unfold rchL; simp
theorem rchL_get {c : List S34} {k : Nat} (hk : k < c.length) : (rchL c).getD k 0 = if (decl c).testBit k = true then (rch c k : Int) else 0 := by
  unfold rchL
  rw [List.getD_eq_getElem?_getD, List.getElem?_map, List.getElem?_range hk]
  rfl
def setR (c : List S34) (l : List Int) (y : Int) : List Int := l.set y.toNat (rch c y.toNat : Int)
theorem setR_fold (c : List S34) : ∀ (ys l : List Int), (ys.foldl (setR c) l).length = l.length
  | [], l => rfl
  | y :: ys, l => by rw [List.foldl_cons, setR_fold c ys, setR, List.length_set]
theorem setR_get (c : List S34) (k : Nat) : ∀ (ys l : List Int), k < l.length → (∀ y ∈ ys, 0 ≤ y) → (ys.foldl (setR c) l).getD k 0 = if (k : Int) ∈ ys then (rch c k : Int) else l.getD k 0
  | [], l, h, _ => by simp
  | y :: ys, l, h, hy => by
    rw [List.foldl_cons, setR_get c k ys _ (by rw [setR, List.length_set]; exact h) (fun z hz => hy z (by simp [hz]))]
    have h0 := hy y (by simp)
    by_cases hm : (k : Int) ∈ ys
    · rw [if_pos hm, if_pos (by simp [hm])]
    · rw [if_neg hm]
      unfold setR
      by_cases e : (k : Int) = y
      · subst e
        rw [if_pos (by simp), Int.toNat_natCast, List.getD_eq_getElem?_getD, List.getElem?_set_self h]
        rfl
      · have hne : y.toNat ≠ k := by omega
        rw [if_neg (by simp [e, hm]), List.getD_eq_getElem?_getD, List.getElem?_set_ne hne, List.getD_eq_getElem?_getD]
theorem setR_all (c : List S34) (hn : c.length ≤ 10) : (nodesL (decl c)).foldl (setR c) (List.replicate c.length 0) = rchL c := by
  refine List.ext_getElem (by rw [setR_fold, rchL_len, List.length_replicate]) fun k h1 h2 => ?_
  rw [setR_fold, List.length_replicate] at h1
  have hg := setR_get c k (nodesL (decl c)) (List.replicate c.length 0) (by simpa using h1) (fun y hy => by
    obtain ⟨i, rfl, _⟩ := inS_iff.1 (nodesL_mem.1 hy); omega)
  have hr := rchL_get (c := c) h1
  have hz : (List.replicate c.length (0 : Int)).getD k 0 = 0 := by simp [List.getD_eq_getElem?_getD, List.getElem?_replicate]; split <;> rfl
  have hmem : (k : Int) ∈ nodesL (decl c) ↔ (decl c).testBit k = true := by
    rw [nodesL_mem, inS_nat _ _ (by omega)]
  have e : ((nodesL (decl c)).foldl (setR c) (List.replicate c.length 0)).getD k 0 = (rchL c).getD k 0 := by
    rw [hg, hr, hz]
    by_cases hb : (decl c).testBit k = true
    · rw [if_pos hb, if_pos (hmem.2 hb)]
    · rw [if_neg hb, if_neg (fun h => hb (hmem.1 h))]
  rw [List.getD_eq_getElem?_getD, List.getD_eq_getElem?_getD, List.getElem?_eq_getElem (by rw [setR_fold, List.length_replicate]; exact h1), List.getElem?_eq_getElem h2] at e
  simpa using e
theorem Parts_ev {c : List S34} (hc : Light c) (hn : c.length ≤ 10) (hv : valC c = 0) : Ev (fun k => quorums_Parts.f k c) (partsS c, 0) := by
  have hdl := decl_lt c
  have hc0 : (0 : Int) ≤ (c.length : Int) := by omega
  have hcl : c.length ≤ 35184372088832 := by omega
  simp only [quorums_Parts.f]
  refine Ev.bind1 (CValid_ev hc) ?_
  rw [hv]
  simp only [if_true, hc0, Int.toNat_natCast, hcl]
  refine Ev.bind1 (Declared_ev hc.1) ?_
  refine Ev.bind1 (Nodes_ev hdl) ?_
  have hl := nodesL_len (decl c)
  refine Ev.fold (xs := nodesL (decl c)) (L := fun (l : List Int) i k => quorums_Parts.l0 k l (nodesL (decl c)) ((nodesL (decl c)).length : Int) i c) (by omega) (fun pre ys l => ys.foldl (setR c) l = rchL c ∧ l.length = c.length) ?_ ?_ _ ⟨setR_all c hn, by simp⟩
  · rintro l i ⟨hI, hll⟩ hi
    rw [List.foldl_nil] at hI
    subst hI
    (refine Ev.shift ?_; simp only [quorums_Parts.l0, hi, Option.bind_some, ↓reduceIte, Bool.false_eq_true, reduceCtorEq, decide_eq_true_eq, Go.Proofs.YtkjlcbfjllpcnaaW.PrintWords.rd, rd_T32, rd_T34])
    have hlen := rchL_len c
    rw [hlen]
    refine Ev.count (L := fun (o : List Int × Nat) i k => quorums_Parts.l1 k (rchL c) o.1 (o.2 : Int) (rchL c) (c.length : Int) i) c.length (by omega) (fun i o => o = partsF c i) ?_ ?_ ([], 0) rfl
    · intro o h
      have hlt : ¬ (c.length : Int) < (c.length : Int) := by omega
      (refine Ev.shift ?_; simp only [quorums_Parts.l1, hlt, Option.bind_some, ↓reduceIte, Bool.false_eq_true, reduceCtorEq, decide_eq_true_eq, Go.Proofs.YtkjlcbfjllpcnaaW.PrintWords.rd, rd_T32, rd_T34])
      rw [h]
      exact Ev.now _
    · intro i o hi h hw
      have ih := partsF_inv c i
      rw [← h] at ih
      have hi0 : (0 : Int) ≤ i := by omega
      have hi1 : (i : Int) < (c.length : Int) := by omega
      have hi2 : (i : Int) < ((rchL c).length : Int) := by omega
      have h10 : i < 10 := by omega
      have hget := rchL_get (c := c) hi
      have hand : (Go.bits .and .i64 (o.2 : Int) (shl .i64 1 (i : Int)) = 0) ↔ o.2.testBit i = false := by
        rw [shl_nat' h10, and_nat' ih.lt (two_lt10 h10), ← and_two]
        omega
      have skip : o.2.testBit i = true ∨ (decl c).testBit i = false → o = partsF c (i + 1) := by
        intro hh
        rw [partsF_succ, ← h, partsStep, if_pos hh]
      cases hdone : o.2.testBit i
      · cases hdec : (decl c).testBit i
        · refine Or.inl ⟨o, skip (Or.inr hdec), fun k => ?_⟩
          rw [hdec] at hget
          simp only [Bool.false_eq_true, if_false] at hget
          (refine Ev.shift ?_; simp only [quorums_Parts.l1, hi0, hi1, hi2, hand, hdone, Int.toNat_natCast, hget, Option.bind_some, ↓reduceIte, Bool.false_eq_true, reduceCtorEq, decide_eq_true_eq, Go.Proofs.YtkjlcbfjllpcnaaW.PrintWords.rd, rd_T32, rd_T34])
          simp only [beq_self_eq_true]
          (refine Ev.shift ?_; simp only [quorums_Parts.j2, hw, Option.bind_some, ↓reduceIte, Bool.false_eq_true, reduceCtorEq, decide_eq_true_eq, Go.Proofs.YtkjlcbfjllpcnaaW.PrintWords.rd, rd_T32, rd_T34])
          exact k
        · have hr := rch_spec (c := c) h10
          have hrd := rch_decl hdec
          rw [hdec] at hget
          simp only [if_true] at hget
          have hne : ((rch c i : Int) == 0) = false := by
            have : rch c i ≠ 0 := fun e => by have := rch_self (c := c) h10; rw [e, Nat.zero_testBit] at this; cases this
            simp; omega
          refine Or.inl ⟨(o.1 ++ [(prt c i : Int)], o.2 ||| prt c i), ?_, fun k => ?_⟩
          · rw [partsF_succ, ← h, partsStep, if_neg (by rw [hdone, hdec]; simp)]
          · (refine Ev.shift ?_; simp only [quorums_Parts.l1, hi0, hi1, hi2, hand, hdone, Int.toNat_natCast, hget, hne, Option.bind_some, ↓reduceIte, Bool.false_eq_true, reduceCtorEq, decide_eq_true_eq, Go.Proofs.YtkjlcbfjllpcnaaW.PrintWords.rd, rd_T32, rd_T34])
            (refine Ev.shift ?_; simp only [quorums_Parts.j2, Option.bind_some, ↓reduceIte, Bool.false_eq_true, reduceCtorEq, decide_eq_true_eq, Go.Proofs.YtkjlcbfjllpcnaaW.PrintWords.rd, rd_T32, rd_T34])
            refine Ev.bind1 (Nodes_ev hr.2.2.1) ?_
            have hl2 := nodesL_len (rch c i)
            have hpl := prt_lt (c := c) h10
            refine Ev.fold (xs := nodesL (rch c i)) (L := fun (a : Nat) q k => quorums_Parts.l2 k (rchL c) o.1 (o.2 : Int) (i : Int) (a : Int) (rchL c) (c.length : Int) (i : Int) (nodesL (rch c i)) ((nodesL (rch c i)).length : Int) q) (by omega) (fun pre ys a => a < 1024 ∧ ys.foldl (fun a n => a ||| if (rch c n.toNat).testBit i = true then 2 ^ n.toNat else 0) a = prt c i) ?_ ?_ 0 ⟨by decide, rfl⟩
            · rintro a q ⟨ha, hI⟩ hq
              rw [List.foldl_nil] at hI
              subst hI
              have holen : o.1.length < 17592186044416 := by have := ih.len; omega
              (refine Ev.shift ?_; simp only [quorums_Parts.l2, hq, holen, or_nat' ih.lt hpl, hw, Option.bind_some, ↓reduceIte, Bool.false_eq_true, reduceCtorEq, decide_eq_true_eq, Go.Proofs.YtkjlcbfjllpcnaaW.PrintWords.rd, rd_T32, rd_T34])
              exact k
            · rintro pre y ys a q e ⟨ha, hI⟩ hq h0 hlt hwq hrdq
              obtain ⟨m, rfl, hm10, hm⟩ := inS_iff.1 (nodesL_mem.1 (show y ∈ nodesL (rch c i) by rw [e]; simp))
              have hmd := hrd m hm
              have hml := decl_len hmd
              have hm0 : (0 : Int) ≤ m := by omega
              have hm1 : (m : Int) < (c.length : Int) := by omega
              have hm2 : (m : Int) < ((rchL c).length : Int) := by omega
              have hgm := rchL_get (c := c) hml
              rw [hmd] at hgm
              simp only [if_true] at hgm
              have hrm := (rch_spec (c := c) hm10).2.2.1
              have hhas := Has_eq hrm (i : Int)
              rw [inS_nat _ _ h10] at hhas
              rw [List.foldl_cons, Int.toNat_natCast] at hI
              refine Or.inl ⟨_, ⟨?_, hI⟩, fun k => ?_⟩
              · split
                · exact or_lt10 ha (two_lt10 hm10)
                · rw [Nat.or_zero]; exact ha
              · (refine Ev.shift ?_; simp only [quorums_Parts.l2, h0, hlt, hwq, hrdq, hm0, hm1, hm2, Int.toNat_natCast, hgm, hhas, Option.bind_some, ↓reduceIte, Bool.false_eq_true, reduceCtorEq, decide_eq_true_eq, Go.Proofs.YtkjlcbfjllpcnaaW.PrintWords.rd, rd_T32, rd_T34])
                cases hb : (rch c m).testBit i
                · simp only [hb, Bool.false_eq_true, if_false, Nat.or_zero] at k ⊢
                  exact k
                · simp only [hb, if_true] at k ⊢
                  rw [shl_nat' hm10, or_nat' ha (two_lt10 hm10)]
                  exact k
      · refine Or.inl ⟨o, skip (Or.inl hdone), fun k => ?_⟩
        (refine Ev.shift ?_; simp only [quorums_Parts.l1, hi0, hi1, hi2, hand, hdone, Int.toNat_natCast, Option.bind_some, ↓reduceIte, Bool.false_eq_true, reduceCtorEq, decide_eq_true_eq, Go.Proofs.YtkjlcbfjllpcnaaW.PrintWords.rd, rd_T32, rd_T34])
        (refine Ev.shift ?_; simp only [quorums_Parts.j2, hw, Option.bind_some, ↓reduceIte, Bool.false_eq_true, reduceCtorEq, decide_eq_true_eq, Go.Proofs.YtkjlcbfjllpcnaaW.PrintWords.rd, rd_T32, rd_T34])
        exact k
  · rintro pre y ys l i e ⟨hI, hll⟩ hi h0 hlt hw hrd
    obtain ⟨m, rfl, hm10, hm⟩ := inS_iff.1 (nodesL_mem.1 (show y ∈ nodesL (decl c) by rw [e]; simp))
    have hml := decl_len hm
    have hm0 : (0 : Int) ≤ m := by omega
    have hm1 : (m : Int) < (l.length : Int) := by omega
    rw [List.foldl_cons] at hI
    refine Or.inl ⟨setR c l (m : Int), ⟨hI, by rw [setR, List.length_set]; exact hll⟩, fun k => ?_⟩
    (refine Ev.shift ?_; simp only [quorums_Parts.l0, h0, hlt, hw, hrd, Option.bind_some, ↓reduceIte, Bool.false_eq_true, reduceCtorEq, decide_eq_true_eq, Go.Proofs.YtkjlcbfjllpcnaaW.PrintWords.rd, rd_T32, rd_T34])
    refine Ev.bind1 (reached_ev hc hm) ?_
    simp only [hm0, hm1, if_true]
    exact k
def memS (n : Nat) (t : Int) : S34 := ⟨true, ⟨t, (List.range n).map Int.ofNat, []⟩⟩
def sameC (n : Nat) (t : Int) : List S34 := List.replicate n (memS n t)
theorem sameA_ev {n : Nat} (hn : n ≤ 1000) (t : Int) : Ev (fun k => trustquorumlaw10_same.f k (n : Int) t) (sameC n t) := by
  have hlt : ¬ (n : Int) < (n : Int) := by omega
  simp only [trustquorumlaw10_same.f]
  refine Ev.count (L := fun (l : List Int) i k => trustquorumlaw10_same.l0 k (n : Int) i t l) n (by omega) (fun i l => l = (List.range i).map Int.ofNat) ?_ ?_ [] rfl
  · intro l hl
    (refine Ev.shift ?_; simp only [trustquorumlaw10_same.l0, hlt, Option.bind_some, ↓reduceIte, Bool.false_eq_true, reduceCtorEq, decide_eq_true_eq, Go.Proofs.YtkjlcbfjllpcnaaW.PrintWords.rd, rd_T32, rd_T34])
    subst hl
    refine Ev.count (L := fun (c : List S34) i k => trustquorumlaw10_same.l1 k (n : Int) i t ((List.range n).map Int.ofNat) c) n (by omega) (fun i c => c = List.replicate i (memS n t)) ?_ ?_ [] rfl
    · intro c h
      (refine Ev.shift ?_; simp only [trustquorumlaw10_same.l1, hlt, Option.bind_some, ↓reduceIte, Bool.false_eq_true, reduceCtorEq, decide_eq_true_eq, Go.Proofs.YtkjlcbfjllpcnaaW.PrintWords.rd, rd_T32, rd_T34])
      rw [h]
      exact Ev.now _
    · intro i c hi h hw
      have h1 : (i : Int) < (n : Int) := by omega
      have h2 : c.length < 2199023255552 := by rw [h, List.length_replicate]; omega
      refine Or.inl ⟨c ++ [memS n t], by rw [h, List.replicate_succ'], fun k => ?_⟩
      (refine Ev.shift ?_; simp only [trustquorumlaw10_same.l1, h1, h2, hw, Option.bind_some, ↓reduceIte, Bool.false_eq_true, reduceCtorEq, decide_eq_true_eq, Go.Proofs.YtkjlcbfjllpcnaaW.PrintWords.rd, rd_T32, rd_T34])
      exact k
  · intro i l hi h hw
    have h1 : (i : Int) < (n : Int) := by omega
    have h2 : l.length < 17592186044416 := by rw [h, List.length_map, List.length_range]; omega
    refine Or.inl ⟨l ++ [(i : Int)], by rw [h, List.range_succ, List.map_append]; rfl, fun k => ?_⟩
    (refine Ev.shift ?_; simp only [trustquorumlaw10_same.l0, h1, h2, hw, Option.bind_some, ↓reduceIte, Bool.false_eq_true, reduceCtorEq, decide_eq_true_eq, Go.Proofs.YtkjlcbfjllpcnaaW.PrintWords.rd, rd_T32, rd_T34])
    exact k
theorem s3_light : Light (sameC 3 2) := ⟨by decide, by decide⟩
theorem s3_min : minQ (sameC 3 2) = [3, 5, 6] := by
  have e : allQ (sameC 3 2) = [3, 5, 6, 7] := by decide +kernel
  have e2 : sortS [3, 5, 6, 7] = [3, 5, 6, 7] := sortS_eq (List.Perm.refl _) (by decide)
  have e3 : ([3, 5, 6, 7] : List Int).filter vld = [3, 5, 6, 7] := by decide
  rw [minQ, e, leastS, e3, e2]
  decide
theorem awake10_ev : Ev (fun k => trustquorumlaw10_awake.f k) true := by
  have hs : Ev (fun k => trustquorumlaw10_same.f k 3 2) (sameC 3 2) := sameA_ev (n := 3) (by decide) 2
  have h10 : (sameC 3 2).length ≤ 10 := by decide
  have hv : valC (sameC 3 2) = 0 := by decide
  have hm := Minimal_ev s3_light h10 hv
  rw [s3_min] at hm
  have hn := Count_ev s3_light h10 hv
  have e4 : ((allQ (sameC 3 2)).length : Int) = 4 := by decide +kernel
  rw [e4] at hn
  have hp := Parts_ev s3_light h10 hv
  have e5 : partsS (sameC 3 2) = [7] := by decide +kernel
  rw [e5] at hp
  simp only [trustquorumlaw10_awake.f]
  refine Ev.bind1 hs ?_
  refine Ev.bind1 hm ?_
  refine Ev.bind1 hs ?_
  refine Ev.bind1 hn ?_
  refine Ev.bind1 hs ?_
  refine Ev.bind1 hp ?_
  simp only [if_true]
  refine Ev.bind1 (Ints_ev (by decide)) ?_
  simp only [decide_true, if_true]
  refine Ev.bind1 (Ints_ev (by decide)) ?_
  simp only [decide_true, if_true]
  exact Ev.now _
end Go.Proofs.Ytkjlcbfjllpcnaa.X
