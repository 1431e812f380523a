/- Proof of the statement QuorumsSymmetric: part 5 of 6, what it computes and why that answers true. -/
import Derived.Test.YtkjlcbfjllpcnaaKQS4
set_option linter.unusedVariables false
set_option linter.unusedSimpArgs false
namespace Go.Proofs.Ytkjlcbfjllpcnaa.X
open Go.RowKit Go.Proofs.YtkjlcbfjllpcnaaW.PrintWords Go.Proofs.YtkjlcbfjllpcnaaW.PrintLast Go.Proofs.YtkjlcbfjllpcnaaW.PrintMore
attribute [local go_sem] max2_int min2_int max_two min_two max_three min_three max_four min_four
set_option linter.unusedVariables false
set_option linter.unusedSimpArgs false
mutual
def quorums_Parts.l0:Nat→List Int→List Int→Int→Int→List (S34)→Option (List Int × Int)
 | 0,_,_,_,_,_=>none
 | k+1,x5,x26,x27,x28,x683000=>if x28 < x27 then (if 0≤x28 then (if x28 < (x26.length:Int) then ((quorums_reached.f k x683000 (rd x26 x28)).bind fun t692=>(if 0≤(rd x26 x28) then (if (rd x26 x28) < (x5.length:Int) then (quorums_Parts.l0 k (x5.set ((rd x26 x28):Int).toNat t692) x26 x27 (wrap64 (x28+1)) x683000) else (none)) else (none))) else (none)) else (none)) else (quorums_Parts.l1 k x5 ([]:List Int) 0 x5 (x5.length:Int) 0)
def quorums_Parts.l1:Nat→List Int→List Int→Int→List Int→Int→Int→Option (List Int × Int)
 | 0,_,_,_,_,_,_=>none
 | k+1,x5,x8,x9,x39,x40,x41=>if x41 < x40 then (if 0≤x41 then (if x41 < (x39.length:Int) then (if (Go.bits .and .i64 x9 (shl .i64 1 x41))=0 then (quorums_Parts.j2 k x5 x8 x9 x41 (rd x39 x41) x39 x40 x41 ((rd x39 x41) == 0)) else (quorums_Parts.j2 k x5 x8 x9 x41 (rd x39 x41) x39 x40 x41 true)) else (none)) else (none)) else (some (x8,0))
def quorums_Parts.j2:Nat→List Int→List Int→Int→Int→Int→List Int→Int→Int→Bool→Option (List Int × Int)
 | 0,_,_,_,_,_,_,_,_,_=>none
 | k+1,x5,x8,x9,x10,x11,x39,x40,x41,x54=>if x54=true then (quorums_Parts.l1 k x5 x8 x9 x39 x40 (wrap64 (x41+1))) else ((nodeset_Nodes.f k x11).bind fun t695=>(quorums_Parts.l2 k x5 x8 x9 x10 0 x39 x40 x41 t695 (t695.length:Int) 0))
def quorums_Parts.l2:Nat→List Int→List Int→Int→Int→Int→List Int→Int→Int→List Int→Int→Int→Option (List Int × Int)
 | 0,_,_,_,_,_,_,_,_,_,_,_=>none
 | k+1,x5,x8,x9,x10,x12,x39,x40,x41,x56,x57,x58=>if x58 < x57 then (if 0≤x58 then (if x58 < (x56.length:Int) then (if 0≤(rd x56 x58) then (if (rd x56 x58) < (x5.length:Int) then ((nodeset_Has.f (rd x5 (rd x56 x58)) x10).bind fun t700=>(if t700=true then (quorums_Parts.l2 k x5 x8 x9 x10 (Go.bits .or .i64 x12 (shl .i64 1 (rd x56 x58))) x39 x40 x41 x56 x57 (wrap64 (x58+1))) else (quorums_Parts.l2 k x5 x8 x9 x10 x12 x39 x40 x41 x56 x57 (wrap64 (x58+1))))) else (none)) else (none)) else (none)) else (none)) else (if x8.length < 17592186044416 then (quorums_Parts.l1 k x5 (x8++[x12]) (Go.bits .or .i64 x9 x12) x39 x40 (wrap64 (x41+1))) else (none))
end
def quorums_Parts.f (k:Nat) (l0_0:List (S34)):Option (List Int × Int):=(configuration_Valid.f k l0_0).bind fun t683=>(if t683=0 then (if 0≤(l0_0.length:Int) then (if ((l0_0.length:Int):Int).toNat≤35184372088832 then ((configuration_Declared.f k l0_0).bind fun t687=>((nodeset_Nodes.f k t687).bind fun t688=>(quorums_Parts.l0 k (List.replicate ((l0_0.length:Int):Int).toNat 0) t688 (t688.length:Int) 0 l0_0))) else (none)) else (none)) else (some (([]:List Int),t683)))
set_option maxHeartbeats 8000000 in
set_option maxRecDepth 100000 in
theorem quorums_Parts.calls (k:Nat) (A0_0:Option Addr) (c0_0:Nat) (l0_0:List (S34)) (r1:List Int) (r2:Int) (w:World) (hr0_0:Kd.C k34 w A0_0 l0_0.length l0_0) (hc0_0:l0_0.length≤c0_0) (h:quorums_Parts.f k l0_0=some (r1,r2)) :
  Calls Try.prog 39 #[.agg #[.slice A0_0 l0_0.length c0_0]] w fun e w'=>∃ v0_:Value,e=.returned (.tuple #[v0_,.int .i64 r2])∧Kd.R (Kd.int .i64) 3 w' w.heap.size (fun _=>True) v0_ r1∧Below w.heap.size w w':=by
 have hu27:=Try.underlying27
 have HR0_0:=Z hr0_0
 have HC0_0:=Z hc0_0
 clear hr0_0 hc0_0
 have HB:=Z (Below.refl w.heap.size w)
 have H:((configuration_Valid.f k l0_0).bind fun t683=>(if t683=0 then (if 0≤(l0_0.length:Int) then (if ((l0_0.length:Int):Int).toNat≤35184372088832 then ((configuration_Declared.f k l0_0).bind fun t687=>((nodeset_Nodes.f k t687).bind fun t688=>(quorums_Parts.l0 k (List.replicate ((l0_0.length:Int):Int).toNat 0) t688 (t688.length:Int) 0 l0_0))) else (none)) else (none)) else (some (([]:List Int),t683))))=some (r1,r2):=h
 clear h
 replace H:=Option.bind_eq_some_iff.mp H
 obtain ⟨t683,A20,H⟩:=H
 try dsimp only at H
 have A2:=Z A20
 clear A20
 by_cases c3:t683=0
 ·rw [if_pos c3] at H
  have c3b0:(t683 == 0)=true:=beq_iff_eq.mpr c3
  have c3b1:(t683 != 0)=false:=bne_eq_false_iff_eq.mpr c3
  clear c3
  by_cases c4:0≤(l0_0.length:Int)
  ·rw [if_pos c4] at H
   have c4b0:=eq_true c4
   have c4b1:decide (0≤(l0_0.length:Int))=true:=decide_eq_true c4
   clear c4
   by_cases c5:((l0_0.length:Int):Int).toNat≤35184372088832
   ·rw [if_pos c5] at H
    have c5b0:=eq_true c5
    have c5b1:decide (((l0_0.length:Int):Int).toNat≤35184372088832)=true:=decide_eq_true c5
    clear c5
    obtain ⟨y684,hy684⟩:∃ y_:List Int,y_=(List.replicate ((l0_0.length:Int):Int).toNat 0):=⟨_,rfl⟩
    first|rw [← hy684] at H|(replace H:=(Option.bind_some _ _).symm.trans H;rw [← hy684] at H)
    have Ny684:=Z hy684
    clear hy684
    replace H:=Option.bind_eq_some_iff.mp H
    obtain ⟨t687,A60,H⟩:=H
    try dsimp only at H
    have A6:=Z A60
    clear A60
    replace H:=Option.bind_eq_some_iff.mp H
    obtain ⟨t688,A70,H⟩:=H
    try dsimp only at H
    have A7:=Z A70
    clear A70
    have H':=Z H
    clear H
    go_enter Try.func39,Try.ntmps39
    go_wp2_with (first|((with_reducible refine gate_dst (N:=1) rfl ?_);refine box_event ?hg (N:=1) ?hd (cs:=#[.slice A0_0 l0_0.length c0_0]) (t:=27) ?hr ?_;(case hd=>rfl);(case hg=>rfl);(case hr=>first|(go_simp;done)|(go_simp;rfl));intro gb682 hg w8 hbox hb;have n0_:=Z (below_step pB hb);have n1_:=Z (hbox);have n2_:=Z ((pT hg:w.heap.size≤gb682));have n3_:=Z ((pT hg:w.heap.size≤gb682));clear HB;have HB:=n0_;have BK682:=n1_;have GW682:=n2_;have GE682:=n3_;clear n0_ n1_ n2_ n3_;clear hb hbox hg;have hcz9_0:w8.cell? ⟨gb682,0,none⟩=some (.slice A0_0 l0_0.length c0_0):=(kC BK682.out 0).trans rfl;have hfz9_0:=kF BK682.out 0)|((with_reducible refine gate_callee (f:=63) rfl ?_);refine goesL_ (some 16) rfl rfl Try.func63 (by kernel_rfl) rfl #[.agg #[.slice A0_0 l0_0.length c0_0]] rfl pG ?_;(with_reducible refine (configuration_Valid.calls k _ _ l0_0 t683 _ ?side1 ?side2 A2.out).mono ?_);(case side1=>repeat (first|exact (Kd.C_below HR0_0.out HB.out)|(with_reducible refine Kd.C_alloc ?_ _)|(with_reducible refine Kd.C_drewN ?_ _)|(with_reducible refine Kd.C_drew ?_)));(case side2=>exact HC0_0.out);rintro e w10 ⟨rfl,hb⟩;refine ⟨_,rfl,?_⟩;have n0_:=Z (blk_below (g:=gb682) (o:=.cells #[.slice A0_0 l0_0.length c0_0] 27 (0,0)) (pK BK682) hb);have n1_:=Z (below_step pB hb);clear BK682;clear HB;have BK682:=n0_;have HB:=n1_;clear n0_ n1_;(try clear hb);(try clear hb2);(try clear hk);(try clear hi);have hcz11_0:w10.cell? ⟨gb682,0,none⟩=some (.slice A0_0 l0_0.length c0_0):=(kC BK682.out 0).trans rfl;have hfz11_0:=kF BK682.out 0)|((with_reducible refine gate_dst (N:=23) rfl ?_);refine Kd.R_make (Kd.int .i64) _ 3 rfl (N:=23) rfl 22 _ _ rfl (l0_0.length:Int) rfl rfl Try.underlying22 (.int .i64 0) 8 info3 rfl (by decide) (by omega) 0 (ok:=fun _=>True) (okp:=fun _=>True) rfl (fun _ hk=>hk) trivial (of_decide_eq_true (by first|(with_reducible assumption)|assumption)) (Nat.le_trans (Nat.mul_le_mul_right _ (of_decide_eq_true (by first|(with_reducible assumption)|assumption):(l0_0.length:Int).toNat≤35184372088832)) (by omega)) (Below.refl _ _) (Nat.le_refl _) ?_;intro v685 w12 ho13 hb hg_ hnew_;clear hg_ hnew_;(first|rw [← Ny684.out] at ho13|(simp only [Int.reduceToNat] at ho13;rw [← Ny684.out] at ho13));have n0_:=Z (Kd.R_lower ho13 (below_size pB));have n1_:=Z (blk_below (g:=gb682) (o:=.cells #[.slice A0_0 l0_0.length c0_0] 27 (0,0)) (pK BK682) hb);have n2_:=Z (below_step pB hb);clear BK682;clear HB;have HO686:=n0_;have BK682:=n1_;have HB:=n2_;clear n0_ n1_ n2_;clear hb ho13;have hcz14_0:w12.cell? ⟨gb682,0,none⟩=some (.slice A0_0 l0_0.length c0_0):=(kC BK682.out 0).trans rfl;have hfz14_0:=kF BK682.out 0)|((with_reducible refine gate_callee (f:=61) rfl ?_);refine goesL_ (some 25) rfl rfl Try.func61 (by kernel_rfl) rfl #[.agg #[.slice A0_0 l0_0.length c0_0]] rfl pG ?_;(with_reducible refine (configuration_Declared.calls k _ _ l0_0 t687 _ ?side1 ?side2 A6.out).mono ?_);(case side1=>repeat (first|exact (Kd.C_below HR0_0.out HB.out)|(with_reducible refine Kd.C_alloc ?_ _)|(with_reducible refine Kd.C_drewN ?_ _)|(with_reducible refine Kd.C_drew ?_)));(case side2=>exact HC0_0.out);rintro e w15 ⟨rfl,hb⟩;refine ⟨_,rfl,?_⟩;have n0_:=Z (Kd.R_below (pR HO686) hb);have n1_:=Z (blk_below (g:=gb682) (o:=.cells #[.slice A0_0 l0_0.length c0_0] 27 (0,0)) (pK BK682) hb);have n2_:=Z (below_step pB hb);clear HO686;clear BK682;clear HB;have HO686:=n0_;have BK682:=n1_;have HB:=n2_;clear n0_ n1_ n2_;(try clear hb);(try clear hb2);(try clear hk);(try clear hi))|((with_reducible refine gate_callee (f:=77) rfl ?_);refine goesL_ (some 26) rfl rfl Try.func77 (by kernel_rfl) rfl #[.int .i64 t687] rfl pG ?_;(with_reducible refine (nodeset_Nodes.calls k t687 t688 _ A7.out).mono ?_);rintro e w16 ⟨v689,rfl,ho0,hb⟩;refine ⟨_,rfl,?_⟩;have n0_:=Z (Kd.R_elder' (pR HO686) (Kd.R_base ho0) hb);have n1_:=Z (Kd.R_lower (Kd.R_new' ho0 (Kd.R_lt (pR HO686))) (below_size pB));have n2_:=Z (blk_below (g:=gb682) (o:=.cells #[.slice A0_0 l0_0.length c0_0] 27 (0,0)) (pK BK682) hb);have n3_:=Z (below_step pB hb);clear HO686;clear BK682;clear HB;have HO686:=n0_;have HO690:=n1_;have BK682:=n2_;have HB:=n3_;clear n0_ n1_ n2_ n3_;(try clear hb);(try clear hb2);(try clear hk);(try clear hi);(try clear ho0);obtain ⟨Ao17,co17,eo17⟩:=Kd.R_slice HO690.out;subst eo17))
    go_loopg [28] k (fun kq v28 w'=>∃ (x5_1:List Int) (x28_1:Int),v28=.int .i64 x28_1∧Aside0 (quorums_Parts.l0 kq x5_1 t688 (t688.length:Int) x28_1 l0_0=some (r1,r2))∧Aside0 (kq≤k)∧Aside0 (Kd.R (Kd.int .i64) 3 w' w.heap.size (fun k_=>some k_ ≠ ((.slice Ao17 t688.length co17):Value).ownBlock) v685 x5_1)∧Aside0 (Kd.R (Kd.int .i64) 3 w' w.heap.size (fun k_=>some k_ ≠ (v685:Value).ownBlock) (.slice Ao17 t688.length co17) t688)∧Aside0 (w'.heap[gb682]?=some (.cells #[(.slice A0_0 l0_0.length c0_0)] 27 (0,0)))∧Aside0 (Below w.heap.size w w'))
    case atStart=>exact ⟨(y684),(0),pE,H',⟨Nat.le_refl _⟩,⟨by (with_reducible repeat (first|apply Kd.R_alloc|apply Kd.R_drewN|apply Kd.R_drew));exact Kd.R_mono HO686.out (fun _ hk=>hk.2)⟩,⟨by (with_reducible repeat (first|apply Kd.R_alloc|apply Kd.R_drewN|apply Kd.R_drew));exact Kd.R_mono HO690.out (fun _ hk=>hk.2)⟩,⟨pK BK682⟩,⟨pB⟩⟩
    case round =>
     clear H'
     try clear p2
     try clear c3
     try clear c3b0
     try clear c3b1
     try clear c4
     try clear c4b0
     try clear c4b1
     try clear c5
     try clear c5b0
     try clear c5b1
     try clear c6
     try clear c7
     try clear hcz11_0
     try clear hcz14_0
     try clear hcz9_0
     try clear hfz11_0
     try clear hfz14_0
     try clear hfz9_0
     obtain ⟨x5_1,x28_1,rfl,HA,HK1,HO_5,HO_26,BK682,HB⟩:=hrel
     cases gk with
     | zero=>exact absurd HA.out (by simp [quorums_Parts.l0])
     | succ k1 =>
      have H:=HA.out
      clear HA
      simp only [quorums_Parts.l0] at H
      by_cases c18:x28_1 < (t688.length:Int)
      ·rw [if_pos c18] at H
       have c18b0:decide (x28_1 < (t688.length:Int))=true:=decide_eq_true c18
       clear c18
       by_cases c19:0≤x28_1
       ·rw [if_pos c19] at H
        have c19b0:decide (0≤x28_1)=true:=decide_eq_true c19
        clear c19
        by_cases c20:x28_1 < (t688.length:Int)
        ·rw [if_pos c20] at H
         have c20b0:decide (x28_1 < (t688.length:Int))=true:=decide_eq_true c20
         clear c20
         replace H:=Option.bind_eq_some_iff.mp H
         obtain ⟨t692,A210,H⟩:=H
         try dsimp only at H
         have A21:=Z A210
         clear A210
         by_cases c22:0≤(rd t688 x28_1)
         ·rw [if_pos c22] at H
          have c22b0:decide (0≤(rd t688 x28_1))=true:=decide_eq_true c22
          clear c22
          by_cases c23:(rd t688 x28_1) < (x5_1.length:Int)
          ·rw [if_pos c23] at H
           have c23b0:decide ((rd t688 x28_1) < (x5_1.length:Int))=true:=decide_eq_true c23
           clear c23
           obtain ⟨y693,hy693⟩:∃ y_:List Int,y_=(x5_1.set ((rd t688 x28_1):Int).toNat t692):=⟨_,rfl⟩
           first|rw [← hy693] at H|(replace H:=(Option.bind_some _ _).symm.trans H;rw [← hy693] at H)
           have Ny693:=Z hy693
           clear hy693
           have H':=Z H
           clear H
           have p691:0≤(x28_1:Int):=of_decide_eq_true (by first|(with_reducible assumption)|assumption)
           have q691:x28_1 < (t688.length:Int):=of_decide_eq_true (by first|(with_reducible assumption)|assumption)
           obtain ⟨ad691,e691,hx691_0⟩:=Kd.at_int (Kd.R_reads' HO_26.out).2.2 x28_1 p691 q691
           cases e691
           replace p691:=eq_true p691
           replace q691:=eq_true q691
           have hcz25_0:wr.cell? ⟨gb682,0,none⟩=some (.slice A0_0 l0_0.length c0_0):=(kC BK682.out 0).trans rfl
           have hfz25_0:=kF BK682.out 0
           go_wp2_with (first|((with_reducible refine gate_callee (f:=78) rfl ?_);refine goesL_ (some 36) rfl rfl Try.func78 (by kernel_rfl) rfl #[.agg #[.slice A0_0 l0_0.length c0_0],.int .i64 (rd t688 x28_1)] rfl pG ?_;(with_reducible refine (quorums_reached.calls k1 _ _ l0_0 (rd t688 x28_1) t692 _ ?side1 ?side2 A21.out).mono ?_);(case side1=>repeat (first|exact (Kd.C_below HR0_0.out HB.out)|(with_reducible refine Kd.C_alloc ?_ _)|(with_reducible refine Kd.C_drewN ?_ _)|(with_reducible refine Kd.C_drew ?_)));(case side2=>exact HC0_0.out);rintro e w26 ⟨rfl,hb⟩;refine ⟨_,rfl,?_⟩;have n0_:=Z (Kd.R_below (pR HO_5) hb);have n1_:=Z (Kd.R_below (pR HO_26) hb);have n2_:=Z (blk_below (g:=gb682) (o:=.cells #[.slice A0_0 l0_0.length c0_0] 27 (0,0)) (pK BK682) hb);have n3_:=Z (below_step pB hb);clear HO_5;clear HO_26;clear BK682;clear HB;have HO_5:=n0_;have HO_26:=n1_;have BK682:=n2_;have HB:=n3_;clear n0_ n1_ n2_ n3_;(try clear hb);(try clear hb2);(try clear hk);(try clear hi);have p24:0≤((rd t688 x28_1):Int):=of_decide_eq_true (by first|(with_reducible assumption)|assumption);have q24:((rd t688 x28_1):Int) < ((x5_1.length:Int):Int):=of_decide_eq_true (by first|(with_reducible assumption)|assumption);obtain ⟨go24,co24,eo24,gb24,gl24,cl24,HG24⟩:=Kd.R_form HO_5.out (by omega);(first|cases eo24|(injection eo24 with ea_ en_ ec_;(first|subst ea_|(injection ea_ with ea_;subst ea_));subst ec_;clear en_));have GB24:=Z gb24;have GG24:=Z HG24;clear gb24 gl24 HG24;obtain ⟨hx24_0,hf24_0⟩:=Kd.R_celln 0 HO_5.out ((rd t688 x28_1):Int) p24 q24;replace p24:=eq_true p24;replace q24:=eq_true q24;obtain ⟨hy27_,hz27_⟩:=Kd.R_celln 0 HO_5.out ((rd t688 x28_1):Int) (of_decide_eq_true (by first|(with_reducible assumption)|assumption)) (of_decide_eq_true (by first|(with_reducible assumption)|assumption));have HP27:=Kd.R_putg HO_5.out ((rd t688 x28_1):Int) t692)|((with_reducible refine gate_store (t:=3) (p:=37) rfl ?_);refine store_event (t:=3) (p:=37) (v:=?vo_w28) (w1:=(w26.setCell ⟨go24,((rd t688 x28_1):Int).toNat,none⟩ (.int .i64 t692))) ?hg ?ho ?hn ?hr ?_;(case ho=>rfl);(case hg=>rfl);(case hn=>rfl);(case hr=>first|(go_simp;done)|(go_simp;rfl));intro w28 hw;have hg:w26.grownBy w28 (some go24):=(by rw [hw];exact HP27.2);have hp_:Kd.R (Kd.int .i64) 3 w28 w.heap.size (fun k_=>some k_ ≠ (.slice (some ad691) t688.length co17:Value).ownBlock) (.slice (some ⟨go24,0,none⟩) x5_1.length co24) y693:=(by rw [hw,Ny693.out];exact HP27.1);clear HP27;have n0_:=Z (hp_);have n1_:=Z (Kd.R_after (v:=(.slice (some ⟨go24,0,none⟩) x5_1.length co24)) (v1:=(.slice (some ⟨go24,0,none⟩) x5_1.length co24)) (ok:=(fun _=>True)) (by (with_reducible repeat (first|apply Kd.R_alloc|apply Kd.R_drewN|apply Kd.R_drew));exact Kd.R_mono HO_26.out (fun _ hk=>⟨trivial,hk⟩)) hg (.inl rfl));have n2_:=Z (blk_grown (g:=gb682) (o:=.cells #[.slice A0_0 l0_0.length c0_0] 27 (0,0)) (pK BK682) hg (Kd.R_ne HO_5.out BK682.out (by decide)));have n3_:=Z ((by rw [hw];exact wS (HB.out) GB24.out:Below w.heap.size w w28));clear HO_5;clear HO_26;clear BK682;clear HB;have HO_5:=n0_;have HO_26:=n1_;have BK682:=n2_;have HB:=n3_;clear n0_ n1_ n2_ n3_;clear hg hw hp_))
           go_roundg k1
           case measure=>have:=HK1.out;omega
           case rel=>exact ⟨(y693),(wrap64 (x28_1+1)),pE,H',⟨by have:=HK1.out;omega⟩,⟨pR HO_5⟩,⟨by (with_reducible repeat (first|apply Kd.R_alloc|apply Kd.R_drewN|apply Kd.R_drew));exact Kd.R_mono HO_26.out (fun _ hk=>hk.2)⟩,⟨pK BK682⟩,⟨pB⟩⟩
          ·rw [if_neg c23] at H
           exact absurd H (by simp)
         ·rw [if_neg c22] at H
          exact absurd H (by simp)
        ·rw [if_neg c20] at H
         exact absurd H (by simp)
       ·rw [if_neg c19] at H
        exact absurd H (by simp)
      ·rw [if_neg c18] at H
       have c18b0:decide (x28_1 < (t688.length:Int))=false:=decide_eq_false c18
       clear c18
       have H':=Z H
       clear H
       obtain ⟨Ao29,co29,eo29⟩:=Kd.R_slice HO_5.out
       subst eo29
       go_wp2
       go_loopg [8,9,41] k1 (fun kq v8 v9 v41 w'=>∃ (x8_2:List Int) (x9_2:Int) (x41_2:Int),v9=.int .i64 x9_2∧v41=.int .i64 x41_2∧Aside0 (quorums_Parts.l1 kq x5_1 x8_2 x9_2 x5_1 (x5_1.length:Int) x41_2=some (r1,r2))∧Aside0 (kq≤k1)∧Aside0 (Kd.R (Kd.int .i64) 3 w' w.heap.size (fun k_=>some k_ ≠ (v8:Value).ownBlock) (.slice Ao29 x5_1.length co29) x5_1)∧Aside0 (Kd.R (Kd.int .i64) 3 w' w.heap.size (fun k_=>some k_ ≠ ((.slice Ao29 x5_1.length co29):Value).ownBlock∧some k_ ≠ ((.slice Ao29 x5_1.length co29):Value).ownBlock) v8 x8_2)∧Aside0 (Kd.R (Kd.int .i64) 3 w' w.heap.size (fun k_=>some k_ ≠ (v8:Value).ownBlock) (.slice Ao29 x5_1.length co29) x5_1)∧Aside0 (w'.heap[gb682]?=some (.cells #[(.slice A0_0 l0_0.length c0_0)] 27 (0,0)))∧Aside0 (Below w.heap.size w w'))
       case atStart=>exact ⟨(([]:List Int)),(0),(0),pE,pE,H',⟨Nat.le_refl _⟩,⟨by (with_reducible repeat (first|apply Kd.R_alloc|apply Kd.R_drewN|apply Kd.R_drew));exact Kd.R_mono HO_5.out (fun _ hk=>(by simp [Value.ownBlock]))⟩,⟨pN⟩,⟨by (with_reducible repeat (first|apply Kd.R_alloc|apply Kd.R_drewN|apply Kd.R_drew));exact Kd.R_mono HO_5.out (fun _ hk=>(by simp [Value.ownBlock]))⟩,⟨pK BK682⟩,⟨pB⟩⟩
       case round =>
        clear H'
        try clear c1
        try clear c2
        try clear p2
        try clear q2
        try clear hx2
        try clear hf2
        try clear c3
        try clear c3b0
        try clear c3b1
        try clear c4
        try clear c4b0
        try clear c4b1
        try clear c5
        try clear c5b0
        try clear c5b1
        try clear c6
        try clear p6
        try clear q6
        try clear hx6
        try clear c7
        try clear c18
        try clear c18b0
        try clear c19
        try clear c19b0
        try clear c20
        try clear c20b0
        try clear c22
        try clear c22b0
        try clear c23
        try clear c23b0
        try clear p24
        try clear q24
        try clear hx24
        try clear hf24
        try clear hcz11_0
        try clear hcz14_0
        try clear hcz25_0
        try clear hcz9_0
        try clear hfz11_0
        try clear hfz14_0
        try clear hfz25_0
        try clear hfz9_0
        try clear hx24_0
        try clear hx691_0
        try clear p691
        try clear q691
        obtain ⟨x8_2,x9_2,x41_2,rfl,rfl,HA,HK2,HO_5,HO_8,HO_39,BK682,HB⟩:=hrel
        cases gk with
        | zero=>exact absurd HA.out (by simp [quorums_Parts.l1])
        | succ k2 =>
         have H:=HA.out
         clear HA
         simp only [quorums_Parts.l1] at H
         by_cases c30:x41_2 < (x5_1.length:Int)
         ·rw [if_pos c30] at H
          have c30b0:decide (x41_2 < (x5_1.length:Int))=true:=decide_eq_true c30
          clear c30
          by_cases c31:0≤x41_2
          ·rw [if_pos c31] at H
           have c31b0:decide (0≤x41_2)=true:=decide_eq_true c31
           clear c31
           by_cases c32:x41_2 < (x5_1.length:Int)
           ·rw [if_pos c32] at H
            have c32b0:decide (x41_2 < (x5_1.length:Int))=true:=decide_eq_true c32
            clear c32
            have HC33:=Z H
            clear H
            have p694:0≤(x41_2:Int):=of_decide_eq_true (by first|(with_reducible assumption)|assumption)
            have q694:x41_2 < (x5_1.length:Int):=of_decide_eq_true (by first|(with_reducible assumption)|assumption)
            obtain ⟨ad694,e694,hx694_0⟩:=Kd.at_int (Kd.R_reads' HO_39.out).2.2 x41_2 p694 q694
            cases e694
            replace p694:=eq_true p694
            replace q694:=eq_true q694
            go_upto_region 15 with (fail)
            go_cut [54] (fun v54 wc=>∃ (kq:Nat) (x54_32:Bool),v54=.bool x54_32∧Aside0 (quorums_Parts.j2 kq x5_1 x8_2 x9_2 x41_2 (rd x5_1 x41_2) x5_1 (x5_1.length:Int) x41_2 x54_32=some (r1,r2))∧Aside0 (kq≤k2)∧Aside0 (Kd.R (Kd.int .i64) 3 wc w.heap.size (fun k_=>some k_ ≠ (u8:Value).ownBlock) (.slice (some ad694) x5_1.length co29) x5_1)∧Aside0 (Kd.R (Kd.int .i64) 3 wc w.heap.size (fun k_=>some k_ ≠ ((.slice (some ad694) x5_1.length co29):Value).ownBlock∧some k_ ≠ ((.slice (some ad694) x5_1.length co29):Value).ownBlock) u8 x8_2)∧Aside0 (Kd.R (Kd.int .i64) 3 wc w.heap.size (fun k_=>some k_ ≠ (u8:Value).ownBlock) (.slice (some ad694) x5_1.length co29) x5_1)∧Aside0 (wc.heap[gb682]?=some (.cells #[(.slice A0_0 l0_0.length c0_0)] 27 (0,0)))∧Aside0 (Below w.heap.size w wc))
            case first =>
             have H:=HC33.out
             clear HC33
             have c34b0:=eq_true (of_decide_eq_true (by first|(with_reducible assumption)|assumption):0≤x41_2)
             obtain ⟨ji35,hji35⟩:∃ j_:Int,(shl .i64 1 x41_2)=j_:=⟨_,rfl⟩
             replace H:(if (Go.bits .and .i64 x9_2 (ji35))=0 then (quorums_Parts.j2 k2 x5_1 x8_2 x9_2 x41_2 (rd x5_1 x41_2) x5_1 (x5_1.length:Int) x41_2 ((rd x5_1 x41_2) == 0)) else (quorums_Parts.j2 k2 x5_1 x8_2 x9_2 x41_2 (rd x5_1 x41_2) x5_1 (x5_1.length:Int) x41_2 true))=some (r1,r2):=by first|(rw [hji35] at H;exact H)|(simp only [hji35] at H ⊢;exact H)
             have hji35_:(IntKind.i64.wrap (1 * 2 ^ min x41_2.toNat 64))=ji35:=hji35
             have hji35z:x41_2≤64→(IntKind.i64.wrap (1 * 2 ^ x41_2.toNat))=ji35:=shl_small hji35
             have hji35u:(IntKind.i64.wrap (2 ^ min x41_2.toNat 64))=ji35:=by have h_:=hji35_;rw [Int.one_mul] at h_;exact h_
             have hji35v:x41_2≤64→(IntKind.i64.wrap (2 ^ x41_2.toNat))=ji35:=fun hle_=>by have h_:=hji35z hle_;rw [Int.one_mul] at h_;exact h_
             have hji35y:(wrap64 (1 * 2 ^ min x41_2.toNat 64))=ji35:=(i64_w _).symm.trans hji35_
             have hji35x:x41_2≤64→(wrap64 (1 * 2 ^ x41_2.toNat))=ji35:=fun h_=>(i64_w _).symm.trans (hji35z h_)
             by_cases c36:(Go.bits .and .i64 x9_2 (ji35))=0
             ·rw [if_pos c36] at H
              have c36b0:((Go.bits .and .i64 x9_2 (ji35)) == 0)=true:=beq_iff_eq.mpr c36
              have c36b1:((Go.bits .and .i64 x9_2 (ji35)) != 0)=false:=bne_eq_false_iff_eq.mpr c36
              clear c36
              (first|rw [c36b0]|(simp only [i64_w,i32_w];rw [c36b0])|skip)
              have H':=Z H
              clear H
              go_wp2
              go_meet
              case rel=>exact ⟨_,(((rd x5_1 x41_2) == 0)),pE,H',⟨by have:=HK1.out;have:=HK2.out;first|omega|exact Nat.le_refl _⟩,⟨pR HO_5⟩,⟨pR HO_8⟩,⟨pR HO_39⟩,⟨pK BK682⟩,⟨pB⟩⟩
             ·rw [if_neg c36] at H
              have c36b0:((Go.bits .and .i64 x9_2 (ji35)) == 0)=false:=beq_eq_false_iff_ne.mpr c36
              have c36b1:((Go.bits .and .i64 x9_2 (ji35)) != 0)=true:=bne_iff_ne.mpr c36
              (first|rw [c36b0]|(simp only [i64_w,i32_w];rw [c36b0])|skip)
              have H':=Z H
              clear H
              go_wp2
              go_meet
              case rel=>exact ⟨_,(true),pE,H',⟨by have:=HK1.out;have:=HK2.out;first|omega|exact Nat.le_refl _⟩,⟨pR HO_5⟩,⟨pR HO_8⟩,⟨pR HO_39⟩,⟨pK BK682⟩,⟨pB⟩⟩
            case rest =>
             clear HC33
             try clear c1
             try clear c2
             try clear p2
             try clear q2
             try clear hx2
             try clear hf2
             try clear c3
             try clear c3b0
             try clear c3b1
             try clear c4
             try clear c4b0
             try clear c4b1
             try clear c5
             try clear c5b0
             try clear c5b1
             try clear c6
             try clear p6
             try clear q6
             try clear hx6
             try clear c7
             try clear c18
             try clear c18b0
             try clear c19
             try clear c19b0
             try clear c20
             try clear c20b0
             try clear c22
             try clear c22b0
             try clear c23
             try clear c23b0
             try clear p24
             try clear q24
             try clear hx24
             try clear hf24
             try clear c30
             try clear c30b0
             try clear c31
             try clear c31b0
             try clear c32
             try clear c32b0
             try clear c34
             try clear c34b0
             try clear c36
             try clear c36b0
             try clear c36b1
             try clear hcz11_0
             try clear hcz14_0
             try clear hcz25_0
             try clear hcz9_0
             try clear hfz11_0
             try clear hfz14_0
             try clear hfz25_0
             try clear hfz9_0
             try clear hx24_0
             try clear hx691_0
             try clear hx694_0
             try clear p691
             try clear p694
             try clear q691
             try clear q694
             obtain ⟨kq,x54_32,rfl,HA,HJ32,HO_5,HO_8,HO_39,BK682,HB⟩:=hcut
             cases kq with
             | zero=>exact absurd HA.out (by simp [quorums_Parts.j2])
             | succ kj32 =>
              have H:=HA.out
              clear HA
              simp only [quorums_Parts.j2] at H
              by_cases c37:x54_32=true
              ·subst c37
               rw [if_pos rfl] at H
               have H':=Z H
               clear H
               go_wp2
               go_roundg kj32
               case measure=>have:=HK1.out;have:=HK2.out;have:=HJ32.out;omega
               case rel=>exact ⟨(x8_2),(x9_2),(wrap64 (x41_2+1)),pE,pE,H',⟨by have:=HK1.out;have:=HK2.out;have:=HJ32.out;omega⟩,⟨pR HO_5⟩,⟨pR HO_8⟩,⟨pR HO_39⟩,⟨pK BK682⟩,⟨pB⟩⟩
              ·replace c37:=Bool.eq_false_iff.mpr c37
               subst c37
               rw [if_neg (show ¬ (false=true) by decide)] at H
               replace H:=Option.bind_eq_some_iff.mp H
               obtain ⟨t695,A380,H⟩:=H
               try dsimp only at H
               have A38:=Z A380
               clear A380
               have H':=Z H
               clear H
               go_wp2_with (first|((with_reducible refine gate_callee (f:=77) rfl ?_);refine goesL_ (some 56) rfl rfl Try.func77 (by kernel_rfl) rfl #[.int .i64 (rd x5_1 x41_2)] rfl pG ?_;(with_reducible refine (nodeset_Nodes.calls kj32 (rd x5_1 x41_2) t695 _ A38.out).mono ?_);rintro e w39 ⟨v696,rfl,ho0,hb⟩;refine ⟨_,rfl,?_⟩;have n0_:=Z (Kd.R_elder' (pR HO_5) (Kd.R_base ho0) hb);have n1_:=Z (Kd.R_elder' (pR HO_8) (Kd.R_base ho0) hb);have n2_:=Z (Kd.R_elder' (pR HO_39) (Kd.R_base ho0) hb);have n3_:=Z (Kd.R_lower (Kd.R_new' (Kd.R_new' (Kd.R_new' ho0 (Kd.R_lt (pR HO_5))) (Kd.R_lt (pR HO_8))) (Kd.R_lt (pR HO_39))) (below_size pB));have n4_:=Z (blk_below (g:=gb682) (o:=.cells #[.slice A0_0 l0_0.length c0_0] 27 (0,0)) (pK BK682) hb);have n5_:=Z (below_step pB hb);clear HO_5;clear HO_8;clear HO_39;clear BK682;clear HB;have HO_5:=n0_;have HO_8:=n1_;have HO_39:=n2_;have HO697:=n3_;have BK682:=n4_;have HB:=n5_;clear n0_ n1_ n2_ n3_ n4_ n5_;(try clear hb);(try clear hb2);(try clear hk);(try clear hi);(try clear ho0);obtain ⟨Ao40,co40,eo40⟩:=Kd.R_slice HO697.out;subst eo40))
               go_loopg [12,58] kj32 (fun kq v12 v58 w'=>∃ (x12_4:Int) (x58_4:Int),v12=.int .i64 x12_4∧v58=.int .i64 x58_4∧Aside0 (quorums_Parts.l2 kq x5_1 x8_2 x9_2 x41_2 x12_4 x5_1 (x5_1.length:Int) x41_2 t695 (t695.length:Int) x58_4=some (r1,r2))∧Aside0 (kq≤kj32)∧Aside0 (Kd.R (Kd.int .i64) 3 w' w.heap.size (fun k_=>some k_ ≠ (u8:Value).ownBlock∧some k_ ≠ ((.slice Ao40 t695.length co40):Value).ownBlock) (.slice (some ad694) x5_1.length co29) x5_1)∧Aside0 (Kd.R (Kd.int .i64) 3 w' w.heap.size (fun k_=>some k_ ≠ ((.slice (some ad694) x5_1.length co29):Value).ownBlock∧some k_ ≠ ((.slice (some ad694) x5_1.length co29):Value).ownBlock∧some k_ ≠ ((.slice Ao40 t695.length co40):Value).ownBlock) u8 x8_2)∧Aside0 (Kd.R (Kd.int .i64) 3 w' w.heap.size (fun k_=>some k_ ≠ (u8:Value).ownBlock∧some k_ ≠ ((.slice Ao40 t695.length co40):Value).ownBlock) (.slice (some ad694) x5_1.length co29) x5_1)∧Aside0 (Kd.R (Kd.int .i64) 3 w' w.heap.size (fun k_=>some k_ ≠ ((.slice (some ad694) x5_1.length co29):Value).ownBlock∧some k_ ≠ (u8:Value).ownBlock∧some k_ ≠ ((.slice (some ad694) x5_1.length co29):Value).ownBlock) (.slice Ao40 t695.length co40) t695)∧Aside0 (w'.heap[gb682]?=some (.cells #[(.slice A0_0 l0_0.length c0_0)] 27 (0,0)))∧Aside0 (Below w.heap.size w w'))
               case atStart=>exact ⟨(0),(0),pE,pE,H',⟨Nat.le_refl _⟩,⟨pR HO_5⟩,⟨by (with_reducible repeat (first|apply Kd.R_alloc|apply Kd.R_drewN|apply Kd.R_drew));exact Kd.R_mono HO_8.out (fun _ hk=>⟨hk.1.1,⟨hk.1.2,hk.2⟩⟩)⟩,⟨pR HO_39⟩,⟨by (with_reducible repeat (first|apply Kd.R_alloc|apply Kd.R_drewN|apply Kd.R_drew));exact Kd.R_mono HO697.out (fun _ hk=>⟨hk.1.1.2,⟨hk.1.2,hk.2⟩⟩)⟩,⟨pK BK682⟩,⟨pB⟩⟩
               case round =>
                clear H'
                try clear c1
                try clear c2
                try clear p2
                try clear q2
                try clear hx2
                try clear hf2
                try clear c3
                try clear c3b0
                try clear c3b1
                try clear c4
                try clear c4b0
                try clear c4b1
                try clear c5
                try clear c5b0
                try clear c5b1
                try clear c6
                try clear p6
                try clear q6
                try clear hx6
                try clear c7
                try clear c18
                try clear c18b0
                try clear c19
                try clear c19b0
                try clear c20
                try clear c20b0
                try clear c22
                try clear c22b0
                try clear c23
                try clear c23b0
                try clear p24
                try clear q24
                try clear hx24
                try clear hf24
                try clear c30
                try clear c30b0
                try clear c31
                try clear c31b0
                try clear c32
                try clear c32b0
                try clear c34
                try clear c34b0
                try clear c36
                try clear c36b0
                try clear c36b1
                try clear c37
                try clear c39
                try clear hcz11_0
                try clear hcz14_0
                try clear hcz25_0
                try clear hcz9_0
                try clear hfz11_0
                try clear hfz14_0
                try clear hfz25_0
                try clear hfz9_0
                try clear hx24_0
                try clear hx691_0
                try clear hx694_0
                try clear p691
                try clear p694
                try clear q691
                try clear q694
                obtain ⟨x12_4,x58_4,rfl,rfl,HA,HK4,HO_5,HO_8,HO_39,HO_56,BK682,HB⟩:=hrel
                cases gk with
                | zero=>exact absurd HA.out (by simp [quorums_Parts.l2])
                | succ k4 =>
                 have H:=HA.out
                 clear HA
                 simp only [quorums_Parts.l2] at H
                 by_cases c41:x58_4 < (t695.length:Int)
                 ·rw [if_pos c41] at H
                  have c41b0:decide (x58_4 < (t695.length:Int))=true:=decide_eq_true c41
                  clear c41
                  by_cases c42:0≤x58_4
                  ·rw [if_pos c42] at H
                   have c42b0:decide (0≤x58_4)=true:=decide_eq_true c42
                   clear c42
                   by_cases c43:x58_4 < (t695.length:Int)
                   ·rw [if_pos c43] at H
                    have c43b0:decide (x58_4 < (t695.length:Int))=true:=decide_eq_true c43
                    clear c43
                    by_cases c44:0≤(rd t695 x58_4)
                    ·rw [if_pos c44] at H
                     have c44b0:decide (0≤(rd t695 x58_4))=true:=decide_eq_true c44
                     clear c44
                     by_cases c45:(rd t695 x58_4) < (x5_1.length:Int)
                     ·rw [if_pos c45] at H
                      have c45b0:decide ((rd t695 x58_4) < (x5_1.length:Int))=true:=decide_eq_true c45
                      clear c45
                      replace H:=Option.bind_eq_some_iff.mp H
                      obtain ⟨t700,A460,H⟩:=H
                      try dsimp only at H
                      have A46:=Z A460
                      clear A460
                      by_cases c47:t700=true
                      ·subst c47
                       rw [if_pos rfl] at H
                       have c48b0:=eq_true (of_decide_eq_true (by first|(with_reducible assumption)|assumption):0≤(rd t695 x58_4))
                       obtain ⟨ji49,hji49⟩:∃ j_:Int,(shl .i64 1 (rd t695 x58_4))=j_:=⟨_,rfl⟩
                       replace H:(quorums_Parts.l2 k4 x5_1 x8_2 x9_2 x41_2 (Go.bits .or .i64 x12_4 (ji49)) x5_1 (x5_1.length:Int) x41_2 t695 (t695.length:Int) (wrap64 (x58_4+1)))=some (r1,r2):=by first|(rw [hji49] at H;exact H)|(simp only [hji49] at H ⊢;exact H)
                       (try rw [hji49] at A46)
                       have hji49_:(IntKind.i64.wrap (1 * 2 ^ min (rd t695 x58_4).toNat 64))=ji49:=hji49
                       have hji49z:(rd t695 x58_4)≤64→(IntKind.i64.wrap (1 * 2 ^ (rd t695 x58_4).toNat))=ji49:=shl_small hji49
                       have hji49u:(IntKind.i64.wrap (2 ^ min (rd t695 x58_4).toNat 64))=ji49:=by have h_:=hji49_;rw [Int.one_mul] at h_;exact h_
                       have hji49v:(rd t695 x58_4)≤64→(IntKind.i64.wrap (2 ^ (rd t695 x58_4).toNat))=ji49:=fun hle_=>by have h_:=hji49z hle_;rw [Int.one_mul] at h_;exact h_
                       have hji49y:(wrap64 (1 * 2 ^ min (rd t695 x58_4).toNat 64))=ji49:=(i64_w _).symm.trans hji49_
                       have hji49x:(rd t695 x58_4)≤64→(wrap64 (1 * 2 ^ (rd t695 x58_4).toNat))=ji49:=fun h_=>(i64_w _).symm.trans (hji49z h_)
                       have H':=Z H
                       clear H
                       have p698:0≤(x58_4:Int):=of_decide_eq_true (by first|(with_reducible assumption)|assumption)
                       have q698:x58_4 < (t695.length:Int):=of_decide_eq_true (by first|(with_reducible assumption)|assumption)
                       obtain ⟨ad698,e698,hx698_0⟩:=Kd.at_int (Kd.R_reads' HO_56.out).2.2 x58_4 p698 q698
                       cases e698
                       replace p698:=eq_true p698
                       replace q698:=eq_true q698
                       have p699:0≤((rd t695 x58_4):Int):=of_decide_eq_true (by first|(with_reducible assumption)|assumption)
                       have q699:(rd t695 x58_4) < (x5_1.length:Int):=of_decide_eq_true (by first|(with_reducible assumption)|assumption)
                       obtain ⟨ad699,e699,hx699_0⟩:=Kd.at_int (Kd.R_reads' HO_5.out).2.2 (rd t695 x58_4) p699 q699
                       obtain rfl:ad694=ad699:=(by injection e699)
                       replace p699:=eq_true p699
                       replace q699:=eq_true q699
                       go_wp2_with (first|((with_reducible refine gate_callee (f:=60) rfl ?_);refine goesL_ (some 67) rfl rfl Try.func60 (by kernel_rfl) rfl #[.int .i64 (rd x5_1 (rd t695 x58_4)),.int .i64 x41_2] rfl pG ?_;(with_reducible refine (nodeset_Has.calls (rd x5_1 (rd t695 x58_4)) x41_2 true _ A46.out).mono ?_);rintro e w' ⟨rfl,⟨nd,rfl⟩⟩;refine ⟨_,rfl,?_⟩))
                       go_roundg k4
                       case measure=>have:=HK1.out;have:=HK2.out;have:=HJ32.out;have:=HK4.out;omega
                       case rel=>exact ⟨(Go.bits .or .i64 x12_4 (ji49)),(wrap64 (x58_4+1)),(by first|exact pE|(simp only [← hji49] <;> (first|rfl|simp))),pE,H',⟨by have:=HK1.out;have:=HK2.out;have:=HJ32.out;have:=HK4.out;omega⟩,⟨pR HO_5⟩,⟨pR HO_8⟩,⟨pR HO_39⟩,⟨pR HO_56⟩,⟨pK BK682⟩,⟨pB⟩⟩
                      ·replace c47:=Bool.eq_false_iff.mpr c47
                       subst c47
                       rw [if_neg (show ¬ (false=true) by decide)] at H
                       have H':=Z H
                       clear H
                       have p698:0≤(x58_4:Int):=of_decide_eq_true (by first|(with_reducible assumption)|assumption)
                       have q698:x58_4 < (t695.length:Int):=of_decide_eq_true (by first|(with_reducible assumption)|assumption)
                       obtain ⟨ad698,e698,hx698_0⟩:=Kd.at_int (Kd.R_reads' HO_56.out).2.2 x58_4 p698 q698
                       cases e698
                       replace p698:=eq_true p698
                       replace q698:=eq_true q698
                       have p699:0≤((rd t695 x58_4):Int):=of_decide_eq_true (by first|(with_reducible assumption)|assumption)
                       have q699:(rd t695 x58_4) < (x5_1.length:Int):=of_decide_eq_true (by first|(with_reducible assumption)|assumption)
                       obtain ⟨ad699,e699,hx699_0⟩:=Kd.at_int (Kd.R_reads' HO_5.out).2.2 (rd t695 x58_4) p699 q699
                       obtain rfl:ad694=ad699:=(by injection e699)
                       replace p699:=eq_true p699
                       replace q699:=eq_true q699
                       go_wp2_with (first|((with_reducible refine gate_callee (f:=60) rfl ?_);refine goesL_ (some 67) rfl rfl Try.func60 (by kernel_rfl) rfl #[.int .i64 (rd x5_1 (rd t695 x58_4)),.int .i64 x41_2] rfl pG ?_;(with_reducible refine (nodeset_Has.calls (rd x5_1 (rd t695 x58_4)) x41_2 false _ A46.out).mono ?_);rintro e w' ⟨rfl,⟨nd,rfl⟩⟩;refine ⟨_,rfl,?_⟩))
                       go_roundg k4
                       case measure=>have:=HK1.out;have:=HK2.out;have:=HJ32.out;have:=HK4.out;omega
                       case rel=>exact ⟨(x12_4),(wrap64 (x58_4+1)),pE,pE,H',⟨by have:=HK1.out;have:=HK2.out;have:=HJ32.out;have:=HK4.out;omega⟩,⟨pR HO_5⟩,⟨pR HO_8⟩,⟨pR HO_39⟩,⟨pR HO_56⟩,⟨pK BK682⟩,⟨pB⟩⟩
                     ·rw [if_neg c45] at H
                      exact absurd H (by simp)
                    ·rw [if_neg c44] at H
                     exact absurd H (by simp)
                   ·rw [if_neg c43] at H
                    exact absurd H (by simp)
                  ·rw [if_neg c42] at H
                   exact absurd H (by simp)
                 ·rw [if_neg c41] at H
                  have c41b0:decide (x58_4 < (t695.length:Int))=false:=decide_eq_false c41
                  clear c41
                  by_cases c50:x8_2.length < 17592186044416
                  ·rw [if_pos c50] at H
                   have LMc50:=Z c50
                   clear c50
                   obtain ⟨y701,hy701⟩:∃ y_:List Int,y_=(x8_2++[x12_4]):=⟨_,rfl⟩
                   first|rw [← hy701] at H|(replace H:=(Option.bind_some _ _).symm.trans H;rw [← hy701] at H)
                   have Ny701:=Z hy701
                   clear hy701
                   have H':=Z H
                   clear H
                   go_wp2_with (first|((with_reducible refine gate_builtin (b:=.append) (xs:=#[.tmp 73,.tmp 75]) rfl ?_);at_builtin;refine Kd.R_append (Kd.int .i64) (w0:=w) w.heap.size rfl (.tmp 73) (.tmp 75) 22 3 (.int .i64 0) 8 rfl Try.underlying22 info3 rfl (by decide) (by omega) u8 x8_2 x12_4 [.int .i64 x12_4] (fun k_=>some k_ ≠ (.slice (some ad694) x5_1.length co29:Value).ownBlock∧some k_ ≠ (.slice (some ad694) x5_1.length co29:Value).ownBlock∧some k_ ≠ (.slice Ao40 t695.length co40:Value).ownBlock) (fun _=>False) rfl rfl ?aP (fun _ hk=>hk.elim) ?aF ?aO ?aB ?aS ?aL ?_;(case aP=>exact rfl);(case aB=>exact pB);(case aF=>exact (fun k_ hk=>⟨Kd.fresh' (Kd.R_lt (pR HO_5)) k_ hk,Kd.fresh' (Kd.R_lt (pR HO_39)) k_ hk,Kd.fresh' (Kd.R_lt (pR HO_56)) k_ hk⟩));(case aO=>exact (pR HO_8));(case aS=>exact (below_size pB));(case aL=>have:=LMc50.out;omega);intro v702 w51 ho hb hg hat;rw [← Ny701.out] at ho;have n0_:=Z (Kd.R_after (ok:=(fun k_=>some k_ ≠ (.slice Ao40 t695.length co40:Value).ownBlock)) (by (with_reducible repeat (first|apply Kd.R_alloc|apply Kd.R_drewN|apply Kd.R_drew));exact Kd.R_mono HO_5.out (fun _ hk=>⟨hk.2,hk.1⟩)) hg hat);have n1_:=Z (Kd.R_after (ok:=(fun k_=>some k_ ≠ (.slice Ao40 t695.length co40:Value).ownBlock)) (by (with_reducible repeat (first|apply Kd.R_alloc|apply Kd.R_drewN|apply Kd.R_drew));exact Kd.R_mono HO_39.out (fun _ hk=>⟨hk.2,hk.1⟩)) hg hat);have n2_:=Z (Kd.R_after (ok:=(fun k_=>some k_ ≠ (.slice (some ad694) x5_1.length co29:Value).ownBlock∧some k_ ≠ (.slice (some ad694) x5_1.length co29:Value).ownBlock)) (by (with_reducible repeat (first|apply Kd.R_alloc|apply Kd.R_drewN|apply Kd.R_drew));exact Kd.R_mono HO_56.out (fun _ hk=>⟨⟨hk.1,hk.2.2⟩,hk.2.1⟩)) hg hat);have n3_:=Z (blk_grown (g:=gb682) (o:=.cells #[.slice A0_0 l0_0.length c0_0] 27 (0,0)) (pK BK682) hg (Kd.R_ne HO_8.out BK682.out (by decide)));have n4_:=Z (hb);have n5_:=Z (ho);clear HO_5;clear HO_39;clear HO_56;clear BK682;clear HB;clear HO_8;have HO_5:=n0_;have HO_39:=n1_;have HO_56:=n2_;have BK682:=n3_;have HB:=n4_;have HO703:=n5_;clear n0_ n1_ n2_ n3_ n4_ n5_;clear ho hb hg hat))
                   go_roundg k4
                   case measure=>have:=HK1.out;have:=HK2.out;have:=HJ32.out;have:=HK4.out;omega
                   case rel=>exact ⟨(y701),(Go.bits .or .i64 x9_2 x12_4),(wrap64 (x41_2+1)),pE,pE,H',⟨by have:=HK1.out;have:=HK2.out;have:=HJ32.out;have:=HK4.out;omega⟩,⟨by (with_reducible repeat (first|apply Kd.R_alloc|apply Kd.R_drewN|apply Kd.R_drew));exact Kd.R_mono HO_5.out (fun _ hk=>hk.2)⟩,⟨by (with_reducible repeat (first|apply Kd.R_alloc|apply Kd.R_drewN|apply Kd.R_drew));exact Kd.R_mono HO703.out (fun _ hk=>⟨hk.1,hk.2.1⟩)⟩,⟨by (with_reducible repeat (first|apply Kd.R_alloc|apply Kd.R_drewN|apply Kd.R_drew));exact Kd.R_mono HO_39.out (fun _ hk=>hk.2)⟩,⟨pK BK682⟩,⟨pB⟩⟩
                  ·rw [if_neg c50] at H
                   exact absurd H (by simp)
           ·rw [if_neg c32] at H
            exact absurd H (by simp)
          ·rw [if_neg c31] at H
           exact absurd H (by simp)
         ·rw [if_neg c30] at H
          have c30b0:decide (x41_2 < (x5_1.length:Int))=false:=decide_eq_false c30
          clear c30
          simp only [Option.some.injEq,Prod.mk.injEq] at H
          obtain ⟨rfl,rfl⟩:=H
          go_wp2
          go_ret2
          exact ⟨_,pF,by (with_reducible repeat (first|apply Kd.R_alloc|apply Kd.R_drewN|apply Kd.R_drew));exact Kd.R_mono HO_8.out (fun _ hk=>trivial),pB⟩
   ·rw [if_neg c5] at H
    exact absurd H (by simp)
  ·rw [if_neg c4] at H
   exact absurd H (by simp)
 ·rw [if_neg c3] at H
  have c3b0:(t683 == 0)=false:=beq_eq_false_iff_ne.mpr c3
  have c3b1:(t683 != 0)=true:=bne_iff_ne.mpr c3
  simp only [Option.some.injEq,Prod.mk.injEq] at H
  obtain ⟨rfl,rfl⟩:=H
  go_enter Try.func39,Try.ntmps39
  go_wp2_with (first|((with_reducible refine gate_dst (N:=1) rfl ?_);refine box_event ?hg (N:=1) ?hd (cs:=#[.slice A0_0 l0_0.length c0_0]) (t:=27) ?hr ?_;(case hd=>rfl);(case hg=>rfl);(case hr=>first|(go_simp;done)|(go_simp;rfl));intro gb682 hg w52 hbox hb;have n0_:=Z (below_step pB hb);have n1_:=Z (hbox);have n2_:=Z ((pT hg:w.heap.size≤gb682));have n3_:=Z ((pT hg:w.heap.size≤gb682));clear HB;have HB:=n0_;have BK682:=n1_;have GW682:=n2_;have GE682:=n3_;clear n0_ n1_ n2_ n3_;clear hb hbox hg;have hcz53_0:w52.cell? ⟨gb682,0,none⟩=some (.slice A0_0 l0_0.length c0_0):=(kC BK682.out 0).trans rfl;have hfz53_0:=kF BK682.out 0)|((with_reducible refine gate_callee (f:=63) rfl ?_);refine goesL_ (some 16) rfl rfl Try.func63 (by kernel_rfl) rfl #[.agg #[.slice A0_0 l0_0.length c0_0]] rfl pG ?_;(with_reducible refine (configuration_Valid.calls k _ _ l0_0 t683 _ ?side1 ?side2 A2.out).mono ?_);(case side1=>repeat (first|exact (Kd.C_below HR0_0.out HB.out)|(with_reducible refine Kd.C_alloc ?_ _)|(with_reducible refine Kd.C_drewN ?_ _)|(with_reducible refine Kd.C_drew ?_)));(case side2=>exact HC0_0.out);rintro e w54 ⟨rfl,hb⟩;refine ⟨_,rfl,?_⟩;have n0_:=Z (blk_below (g:=gb682) (o:=.cells #[.slice A0_0 l0_0.length c0_0] 27 (0,0)) (pK BK682) hb);have n1_:=Z (below_step pB hb);clear BK682;clear HB;have BK682:=n0_;have HB:=n1_;clear n0_ n1_;(try clear hb);(try clear hb2);(try clear hk);(try clear hi)))
  go_ret2
  exact ⟨_,pF,pN,pB⟩
def trustquorumlaw10_awake.f (k:Nat) :Option (Bool):=(trustquorumlaw10_same.f k 3 2).bind fun t709=>((quorums_Minimal.f k t709).bind fun bt712=>((trustquorumlaw10_same.f k 3 2).bind fun t716=>((quorums_Count.f k t716).bind fun bt719=>((trustquorumlaw10_same.f k 3 2).bind fun t721=>((quorums_Parts.f k t721).bind fun bt724=>(if bt712.2=0 then (if bt719.2=0 then (if bt724.2=0 then ((trustquorummake_Ints.f k bt712.1 (([3,5,6]:List Int))).bind fun t731=>(if t731=true then (if bt719.1=4 then ((trustquorummake_Ints.f k bt724.1 (([7]:List Int))).bind fun t735=>(some t735)) else (some false)) else (some false))) else (some false)) else (some false)) else (some false)))))))
set_option maxHeartbeats 8000000 in
set_option maxRecDepth 100000 in
theorem trustquorumlaw10_awake.calls (k:Nat)  (w:World) (h:trustquorumlaw10_awake.f k =some true) :
  Calls Try.prog 38 #[] w fun e w'=>e=.returned (.bool true)∧Below w.heap.size w w':=by
 have HB:=Z (Below.refl w.heap.size w)
 have H:((trustquorumlaw10_same.f k 3 2).bind fun t709=>((quorums_Minimal.f k t709).bind fun bt712=>((trustquorumlaw10_same.f k 3 2).bind fun t716=>((quorums_Count.f k t716).bind fun bt719=>((trustquorumlaw10_same.f k 3 2).bind fun t721=>((quorums_Parts.f k t721).bind fun bt724=>(if bt712.2=0 then (if bt719.2=0 then (if bt724.2=0 then ((trustquorummake_Ints.f k bt712.1 (([3,5,6]:List Int))).bind fun t731=>(if t731=true then (if bt719.1=4 then ((trustquorummake_Ints.f k bt724.1 (([7]:List Int))).bind fun t735=>(some t735)) else (some false)) else (some false))) else (some false)) else (some false)) else (some false))))))))=some true:=h
 clear h
 replace H:=Option.bind_eq_some_iff.mp H
 obtain ⟨t709,A10,H⟩:=H
 try dsimp only at H
 have A1:=Z A10
 clear A10
 replace H:=Option.bind_eq_some_iff.mp H
 obtain ⟨⟨t712,t715⟩,A20,H⟩:=H
 try dsimp only at H
 have A2:=Z A20
 clear A20
 replace H:=Option.bind_eq_some_iff.mp H
 obtain ⟨t716,A30,H⟩:=H
 try dsimp only at H
 have A3:=Z A30
 clear A30
 replace H:=Option.bind_eq_some_iff.mp H
 obtain ⟨⟨t719,t720⟩,A40,H⟩:=H
 try dsimp only at H
 have A4:=Z A40
 clear A40
 replace H:=Option.bind_eq_some_iff.mp H
 obtain ⟨t721,A50,H⟩:=H
 try dsimp only at H
 have A5:=Z A50
 clear A50
 replace H:=Option.bind_eq_some_iff.mp H
 obtain ⟨⟨t724,t727⟩,A60,H⟩:=H
 try dsimp only at H
 have A6:=Z A60
 clear A60
 by_cases c7:t715=0
 ·rw [if_pos c7] at H
  have c7b0:(t715 == 0)=true:=beq_iff_eq.mpr c7
  have c7b1:(t715 != 0)=false:=bne_eq_false_iff_eq.mpr c7
  clear c7
  by_cases c8:t720=0
  ·rw [if_pos c8] at H
   have c8b0:(t720 == 0)=true:=beq_iff_eq.mpr c8
   have c8b1:(t720 != 0)=false:=bne_eq_false_iff_eq.mpr c8
   clear c8
   by_cases c9:t727=0
   ·rw [if_pos c9] at H
    have c9b0:(t727 == 0)=true:=beq_iff_eq.mpr c9
    have c9b1:(t727 != 0)=false:=bne_eq_false_iff_eq.mpr c9
    clear c9
    obtain ⟨y728,hy728⟩:∃ y_:List Int,y_=(([3,5,6]:List Int)):=⟨_,rfl⟩
    first|rw [← hy728] at H|(replace H:=(Option.bind_some _ _).symm.trans H;rw [← hy728] at H)
    have Ny728:=Z hy728
    clear hy728
    replace H:=Option.bind_eq_some_iff.mp H
    obtain ⟨t731,A100,H⟩:=H
    try dsimp only at H
    have A10:=Z A100
    clear A100
    by_cases c11:t731=true
    ·subst c11
     rw [if_pos rfl] at H
     by_cases c12:t719=4
     ·rw [if_pos c12] at H
      have c12b0:(t719 == 4)=true:=beq_iff_eq.mpr c12
      have c12b1:(t719 != 4)=false:=bne_eq_false_iff_eq.mpr c12
      clear c12
      obtain ⟨y732,hy732⟩:∃ y_:List Int,y_=(([7]:List Int)):=⟨_,rfl⟩
      first|rw [← hy732] at H|(replace H:=(Option.bind_some _ _).symm.trans H;rw [← hy732] at H)
      have Ny732:=Z hy732
      clear hy732
      replace H:=Option.bind_eq_some_iff.mp H
      obtain ⟨t735,A130,H⟩:=H
      try dsimp only at H
      have A13:=Z A130
      clear A130
      have HT:=Z (Option.some.inj H)
      clear H
      go_enter Try.func38,Try.ntmps38
      go_wp2_with (first|((with_reducible refine gate_callee (f:=40) rfl ?_);refine goesL_ (some 8) rfl rfl Try.func40 (by kernel_rfl) rfl #[.int .i64 3,.int .i64 2] rfl pG ?_;(with_reducible refine (trustquorumlaw10_same.calls k 3 2 t709 _ A1.out).mono ?_);rintro e w14 ⟨v710,rfl,ho0,hb⟩;refine ⟨_,rfl,?_⟩;have n0_:=Z (Kd.R_lower ho0 (below_size pB));have n1_:=Z (below_step pB hb);clear HB;have HO711:=n0_;have HB:=n1_;clear n0_ n1_;(try clear hb);(try clear hb2);(try clear hk);(try clear hi);(try clear ho0);obtain ⟨Ao15,co15,eo15⟩:=Kd.R_slice HO711.out;subst eo15)|((with_reducible refine gate_callee (f:=36) rfl ?_);refine goesL_ (some 9) rfl rfl Try.func36 (by kernel_rfl) rfl #[.agg #[.slice Ao15 t709.length co15]] rfl pG ?_;(with_reducible refine (quorums_Minimal.calls k _ _ t709 t712 t715 _ ?side1 ?side2 A2.out).mono ?_);(case side1=>repeat (first|exact (Kd.R_reads' HO711.out).2.2|(with_reducible refine Kd.C_alloc ?_ _)|(with_reducible refine Kd.C_drewN ?_ _)|(with_reducible refine Kd.C_drew ?_)));(case side2=>exact (Kd.R_reads' HO711.out).2.1);rintro e w16 ⟨v713,rfl,ho0,hb⟩;refine ⟨_,rfl,?_⟩;have n0_:=Z (Kd.R_elder' (pR HO711) (Kd.R_base ho0) hb);have n1_:=Z (Kd.R_lower ho0 (below_size pB));have n2_:=Z (below_step pB hb);clear HO711;clear HB;have HO711:=n0_;have HO714:=n1_;have HB:=n2_;clear n0_ n1_ n2_;(try clear hb);(try clear hb2);(try clear hk);(try clear hi);(try clear ho0))|((with_reducible refine gate_callee (f:=40) rfl ?_);refine goesL_ (some 13) rfl rfl Try.func40 (by kernel_rfl) rfl #[.int .i64 3,.int .i64 2] rfl pG ?_;(with_reducible refine (trustquorumlaw10_same.calls k 3 2 t716 _ A3.out).mono ?_);rintro e w17 ⟨v717,rfl,ho0,hb⟩;refine ⟨_,rfl,?_⟩;have n0_:=Z (Kd.R_elder' (pR HO711) (Kd.R_base ho0) hb);have n1_:=Z (Kd.R_below (pR HO714) hb);have n2_:=Z (Kd.R_lower (Kd.R_new' (Kd.R_new' ho0 (Kd.R_lt (pR HO711))) (Kd.R_lt (pR HO714))) (below_size pB));have n3_:=Z (below_step pB hb);clear HO711;clear HO714;clear HB;have HO711:=n0_;have HO714:=n1_;have HO718:=n2_;have HB:=n3_;clear n0_ n1_ n2_ n3_;(try clear hb);(try clear hb2);(try clear hk);(try clear hi);(try clear ho0);obtain ⟨Ao18,co18,eo18⟩:=Kd.R_slice HO718.out;subst eo18)|((with_reducible refine gate_callee (f:=41) rfl ?_);refine goesL_ (some 14) rfl rfl Try.func41 (by kernel_rfl) rfl #[.agg #[.slice Ao18 t716.length co18]] rfl pG ?_;(with_reducible refine (quorums_Count.calls k _ _ t716 t719 t720 _ ?side1 ?side2 A4.out).mono ?_);(case side1=>repeat (first|exact (Kd.R_reads' HO718.out).2.2|(with_reducible refine Kd.C_alloc ?_ _)|(with_reducible refine Kd.C_drewN ?_ _)|(with_reducible refine Kd.C_drew ?_)));(case side2=>exact (Kd.R_reads' HO718.out).2.1);rintro e w19 ⟨rfl,hb⟩;refine ⟨_,rfl,?_⟩;have n0_:=Z (Kd.R_below (pR HO711) hb);have n1_:=Z (Kd.R_below (pR HO714) hb);have n2_:=Z (Kd.R_below (pR HO718) hb);have n3_:=Z (below_step pB hb);clear HO711;clear HO714;clear HO718;clear HB;have HO711:=n0_;have HO714:=n1_;have HO718:=n2_;have HB:=n3_;clear n0_ n1_ n2_ n3_;(try clear hb);(try clear hb2);(try clear hk);(try clear hi))|((with_reducible refine gate_callee (f:=40) rfl ?_);refine goesL_ (some 18) rfl rfl Try.func40 (by kernel_rfl) rfl #[.int .i64 3,.int .i64 2] rfl pG ?_;(with_reducible refine (trustquorumlaw10_same.calls k 3 2 t721 _ A5.out).mono ?_);rintro e w20 ⟨v722,rfl,ho0,hb⟩;refine ⟨_,rfl,?_⟩;have n0_:=Z (Kd.R_elder' (pR HO711) (Kd.R_base ho0) hb);have n1_:=Z (Kd.R_below (pR HO714) hb);have n2_:=Z (Kd.R_elder' (pR HO718) (Kd.R_base ho0) hb);have n3_:=Z (Kd.R_lower (Kd.R_new' (Kd.R_new' (Kd.R_new' ho0 (Kd.R_lt (pR HO711))) (Kd.R_lt (pR HO714))) (Kd.R_lt (pR HO718))) (below_size pB));have n4_:=Z (below_step pB hb);clear HO711;clear HO714;clear HO718;clear HB;have HO711:=n0_;have HO714:=n1_;have HO718:=n2_;have HO723:=n3_;have HB:=n4_;clear n0_ n1_ n2_ n3_ n4_;(try clear hb);(try clear hb2);(try clear hk);(try clear hi);(try clear ho0);obtain ⟨Ao21,co21,eo21⟩:=Kd.R_slice HO723.out;subst eo21)|((with_reducible refine gate_callee (f:=39) rfl ?_);refine goesL_ (some 19) rfl rfl Try.func39 (by kernel_rfl) rfl #[.agg #[.slice Ao21 t721.length co21]] rfl pG ?_;(with_reducible refine (quorums_Parts.calls k _ _ t721 t724 t727 _ ?side1 ?side2 A6.out).mono ?_);(case side1=>repeat (first|exact (Kd.R_reads' HO723.out).2.2|(with_reducible refine Kd.C_alloc ?_ _)|(with_reducible refine Kd.C_drewN ?_ _)|(with_reducible refine Kd.C_drew ?_)));(case side2=>exact (Kd.R_reads' HO723.out).2.1);rintro e w22 ⟨v725,rfl,ho0,hb⟩;refine ⟨_,rfl,?_⟩;have n0_:=Z (Kd.R_elder' (pR HO711) (Kd.R_base ho0) hb);have n1_:=Z (Kd.R_elder' (pR HO714) (Kd.R_base ho0) hb);have n2_:=Z (Kd.R_elder' (pR HO718) (Kd.R_base ho0) hb);have n3_:=Z (Kd.R_elder' (pR HO723) (Kd.R_base ho0) hb);have n4_:=Z (Kd.R_lower (Kd.R_new' ho0 (Kd.R_lt (pR HO714))) (below_size pB));have n5_:=Z (below_step pB hb);clear HO711;clear HO714;clear HO718;clear HO723;clear HB;have HO711:=n0_;have HO714:=n1_;have HO718:=n2_;have HO723:=n3_;have HO726:=n4_;have HB:=n5_;clear n0_ n1_ n2_ n3_ n4_ n5_;(try clear hb);(try clear hb2);(try clear hk);(try clear hi);(try clear ho0))|((with_reducible refine gate_dst (N:=34) rfl ?_);(try (refine gate_guard (by rfl) ?_;dsimp only));refine Kd.R_lit (Kd.int .i64) _ 3 ?hg (N:=34) ?hd (xs:=([3,5,6]:List Int)) (inner:=[.int .i64 3,.int .i64 5,.int .i64 6]) (ok:=fun _=>True) (okp:=fun _=>True) ?hr ?hp (fun _ hk=>hk) trivial (Below.refl _ _) (Nat.le_refl _) (by simp) ?_;(case hd=>rfl);(case hg=>rfl);(case hr=>first|(go_simp;done)|(go_simp;rfl));(case hp=>exact (Reps.one (show Kd.M (Kd.int .i64) _ _ _ 3 [.int .i64 3] from rfl) (Reps.one (show Kd.M (Kd.int .i64) _ _ _ 5 [.int .i64 5] from rfl) (Reps.one (show Kd.M (Kd.int .i64) _ _ _ 6 [.int .i64 6] from rfl) (Reps.none _ _)))));intro v729 w23 ho24 hb hg_ hnew_;clear hg_ hnew_;(first|rw [← Ny728.out] at ho24|(simp only [Int.reduceToNat] at ho24;rw [← Ny728.out] at ho24));have n0_:=Z (Kd.R_elder' (pR HO711) (Kd.R_base ho24) hb);have n1_:=Z (Kd.R_elder' (pR HO714) (Kd.R_base ho24) hb);have n2_:=Z (Kd.R_elder' (pR HO718) (Kd.R_base ho24) hb);have n3_:=Z (Kd.R_elder' (pR HO723) (Kd.R_base ho24) hb);have n4_:=Z (Kd.R_elder' (pR HO726) (Kd.R_base ho24) hb);have n5_:=Z (Kd.R_lower (Kd.R_new' (Kd.R_new' ho24 (Kd.R_lt (pR HO714))) (Kd.R_lt (pR HO726))) (below_size pB));have n6_:=Z (below_step pB hb);clear HO711;clear HO714;clear HO718;clear HO723;clear HO726;clear HB;have HO711:=n0_;have HO714:=n1_;have HO718:=n2_;have HO723:=n3_;have HO726:=n4_;have HO730:=n5_;have HB:=n6_;clear n0_ n1_ n2_ n3_ n4_ n5_ n6_;clear hb ho24;obtain ⟨Ao25,co25,eo25⟩:=Kd.R_slice HO714.out;subst eo25;obtain ⟨Ao26,co26,eo26⟩:=Kd.R_slice HO730.out;subst eo26)|(go_at_call 22;(with_reducible refine (trustquorummake_Ints.calls k _ _ t712 _ _ y728 true _ ?side1 ?side2 ?side3 ?side4 A10.out).mono ?_);(case side1=>repeat (first|exact (Kd.R_reads' HO714.out).2.2|(with_reducible refine Kd.C_alloc ?_ _)|(with_reducible refine Kd.C_drewN ?_ _)|(with_reducible refine Kd.C_drew ?_)));(case side2=>exact (Kd.R_reads' HO714.out).2.1);(case side3=>repeat (first|exact (Kd.R_reads' HO730.out).2.2|(with_reducible refine Kd.C_alloc ?_ _)|(with_reducible refine Kd.C_drewN ?_ _)|(with_reducible refine Kd.C_drew ?_)));(case side4=>exact (Kd.R_reads' HO730.out).2.1);rintro e w' ⟨rfl,⟨nd,rfl⟩⟩)|((with_reducible refine gate_dst (N:=43) rfl ?_);(try (refine gate_guard (by rfl) ?_;dsimp only));refine Kd.R_lit (Kd.int .i64) _ 3 ?hg (N:=43) ?hd (xs:=([7]:List Int)) (inner:=[.int .i64 7]) (ok:=fun _=>True) (okp:=fun _=>True) ?hr ?hp (fun _ hk=>hk) trivial (Below.refl _ _) (Nat.le_refl _) (by simp) ?_;(case hd=>rfl);(case hg=>rfl);(case hr=>first|(go_simp;done)|(go_simp;rfl));(case hp=>exact (Reps.one (show Kd.M (Kd.int .i64) _ _ _ 7 [.int .i64 7] from rfl) (Reps.none _ _)));intro v733 w27 ho28 hb hg_ hnew_;clear hg_ hnew_;(first|rw [← Ny732.out] at ho28|(simp only [Int.reduceToNat] at ho28;rw [← Ny732.out] at ho28));have n0_:=Z (Kd.R_elder' (pR HO711) (Kd.R_base ho28) hb);have n1_:=Z (Kd.R_elder' (pR HO714) (Kd.R_base ho28) hb);have n2_:=Z (Kd.R_elder' (pR HO718) (Kd.R_base ho28) hb);have n3_:=Z (Kd.R_elder' (pR HO723) (Kd.R_base ho28) hb);have n4_:=Z (Kd.R_elder' (pR HO726) (Kd.R_base ho28) hb);have n5_:=Z (Kd.R_elder' (pR HO730) (Kd.R_base ho28) hb);have n6_:=Z (Kd.R_lower (Kd.R_new' (Kd.R_new' (Kd.R_new' ho28 (Kd.R_lt (pR HO714))) (Kd.R_lt (pR HO726))) (Kd.R_lt (pR HO730))) (below_size pB));have n7_:=Z (below_step pB hb);clear HO711;clear HO714;clear HO718;clear HO723;clear HO726;clear HO730;clear HB;have HO711:=n0_;have HO714:=n1_;have HO718:=n2_;have HO723:=n3_;have HO726:=n4_;have HO730:=n5_;have HO734:=n6_;have HB:=n7_;clear n0_ n1_ n2_ n3_ n4_ n5_ n6_ n7_;clear hb ho28;obtain ⟨Ao29,co29,eo29⟩:=Kd.R_slice HO726.out;subst eo29;obtain ⟨Ao30,co30,eo30⟩:=Kd.R_slice HO734.out;subst eo30)|(go_at_call 22;(with_reducible refine (trustquorummake_Ints.calls k _ _ t724 _ _ y732 t735 _ ?side1 ?side2 ?side3 ?side4 A13.out).mono ?_);(case side1=>repeat (first|exact (Kd.R_reads' HO726.out).2.2|(with_reducible refine Kd.C_alloc ?_ _)|(with_reducible refine Kd.C_drewN ?_ _)|(with_reducible refine Kd.C_drew ?_)));(case side2=>exact (Kd.R_reads' HO726.out).2.1);(case side3=>repeat (first|exact (Kd.R_reads' HO734.out).2.2|(with_reducible refine Kd.C_alloc ?_ _)|(with_reducible refine Kd.C_drewN ?_ _)|(with_reducible refine Kd.C_drew ?_)));(case side4=>exact (Kd.R_reads' HO734.out).2.1);rintro e w' ⟨rfl,⟨nd,rfl⟩⟩))
      go_ret
      exact ⟨by first|rfl|exact congrArg (fun b_:Bool=>Ending.returned (Value.bool b_)) HT.out|(simp [errW_none,errW_some] <;> rfl)|(simp [*,errW_none,errW_some] <;> rfl),pB⟩
     ·rw [if_neg c12] at H
      have c12b0:(t719 == 4)=false:=beq_eq_false_iff_ne.mpr c12
      have c12b1:(t719 != 4)=true:=bne_iff_ne.mpr c12
      exact absurd H (by simp)
    ·replace c11:=Bool.eq_false_iff.mpr c11
     subst c11
     rw [if_neg (show ¬ (false=true) by decide)] at H
     exact absurd H (by simp)
   ·rw [if_neg c9] at H
    have c9b0:(t727 == 0)=false:=beq_eq_false_iff_ne.mpr c9
    have c9b1:(t727 != 0)=true:=bne_iff_ne.mpr c9
    exact absurd H (by simp)
  ·rw [if_neg c8] at H
   have c8b0:(t720 == 0)=false:=beq_eq_false_iff_ne.mpr c8
   have c8b1:(t720 != 0)=true:=bne_iff_ne.mpr c8
   exact absurd H (by simp)
 ·rw [if_neg c7] at H
  have c7b0:(t715 == 0)=false:=beq_eq_false_iff_ne.mpr c7
  have c7b1:(t715 != 0)=true:=bne_iff_ne.mpr c7
  exact absurd H (by simp)
mutual
def trustquorumlaw10_QuorumsSymmetric.l0:Nat→Int→Int→Int→List Int→List (S32)→List (S34)→Option (Bool)
 | 0,_,_,_,_,_,_=>none
 | k+1,x4,x7,x342000,x342001,x342002,x343000=>if x7 < x4 then (if x343000.length < 2199023255552 then (trustquorumlaw10_QuorumsSymmetric.l0 k x4 (wrap64 (x7+1)) x342000 x342001 x342002 (x343000++[(⟨true,(⟨x342000,x342001,x342002⟩:S32)⟩:S34)])) else (none)) else ((quorums_Symmetric.f k x343000).bind fun bt346=>((quorums_Count.f k x343000).bind fun bt348=>(trustquorumlaw10_QuorumsSymmetric.l1 k x4 bt346.1 bt346.2 bt348.1 bt348.2 0 0 x342000 x342001 x342002)))
def trustquorumlaw10_QuorumsSymmetric.l1:Nat→Int→Bool→Int→Int→Int→Int→Int→Int→List Int→List (S32)→Option (Bool)
 | 0,_,_,_,_,_,_,_,_,_,_=>none
 | k+1,x4,x8,x9,x10,x11,x12,x13,x342000,x342001,x342002=>if 0≤x4 then (if x13 < (shl .i64 1 x4) then ((trustquorumref02_Satisfied.f k x342000 x342001 x342002 x13).bind fun t350=>(if t350=true then (trustquorumlaw10_QuorumsSymmetric.l1 k x4 x8 x9 x10 x11 (wrap64 (x12+1)) (wrap64 (x13+1)) x342000 x342001 x342002) else (trustquorumlaw10_QuorumsSymmetric.l1 k x4 x8 x9 x10 x11 x12 (wrap64 (x13+1)) x342000 x342001 x342002))) else (if x9=0 then (if x11=0 then (if x8=true then (if x10=x12 then ((trustquorumlaw10_awake.f k).bind fun t351=>(some t351)) else (some false)) else (some false)) else (some false)) else (some false))) else (none)
end
def trustquorumlaw10_QuorumsSymmetric.f (k:Nat) (l0:List Int):Option (Bool):=(trustquorummake_New.f l0).bind fun bt328=>((trustquorummake_Tape_Range.f bt328.1 bt328.2 1 7).bind fun bt331=>((trustquorummake_Trust.f k bt328.1 bt331.2 bt331.1 3).bind fun bt333=>(trustquorumlaw10_QuorumsSymmetric.l0 k bt331.1 0 bt333.1 bt333.2.1 bt333.2.2.1 ([]:List (S34)))))
set_option maxHeartbeats 8000000 in
set_option maxRecDepth 100000 in
theorem trustquorumlaw10_QuorumsSymmetric.calls (k:Nat) (A0:Option Addr) (c0:Nat) (l0:List Int) (w:World) (hr0:Kd.C (Kd.int .i64) w A0 l0.length l0) (hc0:l0.length≤c0) (h:trustquorumlaw10_QuorumsSymmetric.f k l0=some true) :
  Calls Try.prog 11 #[.slice A0 l0.length c0] w fun e w'=>e=.returned (.bool true)∧Below w.heap.size w w':=by
 have hu32:=Try.underlying32
 have hu27:=Try.underlying27
 have hu34:=Try.underlying34
 have HR0:=Z hr0
 have HC0:=Z hc0
 clear hr0 hc0
 have HB:=Z (Below.refl w.heap.size w)
 have H:((trustquorummake_New.f l0).bind fun bt328=>((trustquorummake_Tape_Range.f bt328.1 bt328.2 1 7).bind fun bt331=>((trustquorummake_Trust.f k bt328.1 bt331.2 bt331.1 3).bind fun bt333=>(trustquorumlaw10_QuorumsSymmetric.l0 k bt331.1 0 bt333.1 bt333.2.1 bt333.2.2.1 ([]:List (S34))))))=some true:=h
 clear h
 replace H:=Option.bind_eq_some_iff.mp H
 obtain ⟨⟨t328,t329⟩,A20,H⟩:=H
 try dsimp only at H
 have A2:=Z A20
 clear A20
 replace H:=Option.bind_eq_some_iff.mp H
 obtain ⟨⟨t331,t332⟩,A30,H⟩:=H
 try dsimp only at H
 have A3:=Z A30
 clear A30
 replace H:=Option.bind_eq_some_iff.mp H
 obtain ⟨⟨t333,t334,t337,t340⟩,A40,H⟩:=H
 try dsimp only at H
 have A4:=Z A40
 clear A40
 have H':=Z H
 clear H
 go_enter Try.func11,Try.ntmps11
 go_wp2_with (first|((with_reducible refine gate_callee (f:=14) rfl ?_);refine goesL_ (some 15) rfl rfl Try.func14 (by kernel_rfl) rfl #[.slice A0 l0.length c0] rfl pG ?_;(with_reducible refine (trustquorummake_New.calls _ _ l0 t328 t329 w _ ?side1 ?side2 ?side3 A2.out).mono ?_);(case side1=>exact pB);(case side2=>exact HR0.out);(case side3=>exact HC0.out);rintro e w5 ⟨g330,rfl,hi,hb,hb2⟩;refine ⟨_,rfl,?_⟩;have n0_:=Z (hb);have n1_:=Z (hi);clear HB;have HB:=n0_;have HI330:=n1_;clear n0_ n1_;(try clear hb);(try clear hb2);(try clear hk);(try clear hi))|((with_reducible refine gate_callee (f:=44) rfl ?_);refine goesL_ (some 17) rfl rfl Try.func44 (by kernel_rfl) rfl #[.pointer (some ⟨g330,0,none⟩),.int .i64 1,.int .i64 7] rfl pG ?_;(with_reducible refine (trustquorummake_Tape_Range.calls g330 t328 t329 1 7 t331 t332 w _ ?side1 ?side2 A3.out).mono ?_);(case side1=>repeat (first|(with_reducible first|exact HI330.out|apply IsS71.alloc|apply IsS71.drewN|apply IsS71.drew|apply IsS71.set_1)|exact HI330.out));(case side2=>repeat (first|(with_reducible first|exact HB.out|apply wA|apply wN|apply wD|refine wS ?_ (IsS71.ge HI330.out))|exact HB.out));rintro e w6 ⟨rfl,hi,hb,hk⟩;refine ⟨_,rfl,?_⟩;have n0_:=Z (hb);have n1_:=Z (hi);clear HB;clear HI330;have HB:=n0_;have HI330:=n1_;clear n0_ n1_;(try clear hb);(try clear hb2);(try clear hk);(try clear hi))|((with_reducible refine gate_callee (f:=45) rfl ?_);refine goesL_ (some 20) rfl rfl Try.func45 (by kernel_rfl) rfl #[.pointer (some ⟨g330,0,none⟩),.int .i64 t331,.int .i64 3] rfl pG ?_;(with_reducible refine (trustquorummake_Trust.calls k g330 t328 t332 t331 3 t333 t334 t337 t340 w _ ?side1 ?side2 A4.out).mono ?_);(case side1=>repeat (first|(with_reducible first|exact HI330.out|apply IsS71.alloc|apply IsS71.drewN|apply IsS71.drew|apply IsS71.set_1)|exact HI330.out));(case side2=>repeat (first|(with_reducible first|exact HB.out|apply wA|apply wN|apply wD|refine wS ?_ (IsS71.ge HI330.out))|exact HB.out));rintro e w7 ⟨v335,v338,rfl,ho0,ho1,hi,hb,hk⟩;refine ⟨_,rfl,?_⟩;have n0_:=Z (Kd.R_lower ho0 (below_size (by repeat (first|(with_reducible first|exact HB.out|apply wA|apply wN|apply wD|refine wS ?_ (IsS71.ge HI330.out))|exact HB.out))));have n1_:=Z (Kd.R_lower ho1 (below_size (by repeat (first|(with_reducible first|exact HB.out|apply wA|apply wN|apply wD|refine wS ?_ (IsS71.ge HI330.out))|exact HB.out))));have n2_:=Z (hb);have n3_:=Z (hi);clear HB;clear HI330;have HO336:=n0_;have HO339:=n1_;have HB:=n2_;have HI330:=n3_;clear n0_ n1_ n2_ n3_;(try clear hb);(try clear hb2);(try clear hk);(try clear hi);(try clear ho0);(try clear ho1))|((with_reducible refine gate_dst (N:=5) rfl ?_);refine box_event ?hg (N:=5) ?hd (cs:=#[.int .i64 0,.slice none 0 0,.slice none 0 0]) (t:=32) ?hr ?_;(case hd=>rfl);(case hg=>rfl);(case hr=>first|(go_simp;done)|(go_simp;rfl));intro gb341 hg w8 hbox hb;have n0_:=Z (Kd.R_below (pR HO336) hb);have n1_:=Z (Kd.R_below (Kd.R_elderB (pR HO339) gb341 (Nat.le_of_eq hg.symm)) hb);have n2_:=Z (IsS71.below (by repeat (first|(with_reducible first|exact HI330.out|apply IsS71.alloc|apply IsS71.drewN|apply IsS71.drew|apply IsS71.set_1)|exact HI330.out)) hb);have n3_:=Z (below_step (by repeat (first|(with_reducible first|exact HB.out|apply wA|apply wN|apply wD|refine wS ?_ (IsS71.ge HI330.out))|exact HB.out)) hb);have n4_:=Z (hbox);have n5_:=Z ((by rw [hg];exact (below_size (by repeat (first|(with_reducible first|exact HB.out|apply wA|apply wN|apply wD|refine wS ?_ (IsS71.ge HI330.out))|exact HB.out))):w.heap.size≤gb341));have n6_:=Z ((by rw [hg];exact (below_size (by repeat (first|(with_reducible first|exact HB.out|apply wA|apply wN|apply wD|refine wS ?_ (IsS71.ge HI330.out))|exact HB.out))):w.heap.size≤gb341));have n7_:=Z ((by rw [hg];exact Nat.ne_of_lt (IsS71.lt (show IsS71 w _ g330 t328 t340 from by repeat (first|(with_reducible first|exact HI330.out|apply IsS71.alloc|apply IsS71.drewN|apply IsS71.drew|apply IsS71.set_1)|exact HI330.out))):g330 ≠ gb341));have n8_:=Z ((by rw [hg];exact Nat.ne_of_gt (IsS71.lt (show IsS71 w _ g330 t328 t340 from by repeat (first|(with_reducible first|exact HI330.out|apply IsS71.alloc|apply IsS71.drewN|apply IsS71.drew|apply IsS71.set_1)|exact HI330.out))):gb341 ≠ g330));clear HO336;clear HO339;clear HI330;clear HB;have HO336:=n0_;have HO339:=n1_;have HI330:=n2_;have HB:=n3_;have BK341:=n4_;have GW341:=n5_;have GE341:=n6_;have NB330_341:=n7_;have NB341_330:=n8_;clear n0_ n1_ n2_ n3_ n4_ n5_ n6_ n7_ n8_;clear hb hbox hg;have hnb9:=NB341_330.out;have hnc9:=NB330_341.out;have hcz10_0:w8.cell? ⟨gb341,0,none⟩=some (.int .i64 0):=(kC BK341.out 0).trans rfl;have hcz10_1:w8.cell? ⟨gb341,1,none⟩=some (.slice none 0 0):=(kC BK341.out 1).trans rfl;have hcz10_2:w8.cell? ⟨gb341,2,none⟩=some (.slice none 0 0):=(kC BK341.out 2).trans rfl;have hfz10_0:=kF BK341.out 0;have hfz10_1:=kF BK341.out 1;have hfz10_2:=kF BK341.out 2;obtain ⟨Ao11,co11,eo11⟩:=Kd.R_slice HO336.out;subst eo11;obtain ⟨Ao12,co12,eo12⟩:=Kd.R_slice HO339.out;subst eo12)|((with_reducible refine gate_dst (N:=6) rfl ?_);refine box_event ?hg (N:=6) ?hd (cs:=#[.slice none 0 0]) (t:=27) ?hr ?_;(case hd=>rfl);(case hg=>rfl);(case hr=>first|(go_simp;done)|(go_simp;rfl));intro gb342 hg w13 hbox hb;have n0_:=Z (Kd.R_below (by (with_reducible repeat (first|apply Kd.R_alloc|apply Kd.R_drewN|apply Kd.R_drew));exact (Kd.R_mono (Kd.R_far (p:=⟨gb341,2,none⟩) (Kd.R_far (p:=⟨gb341,1,none⟩) (Kd.R_far (p:=⟨gb341,0,none⟩) (Kd.R_types HO336.out BK341.out (by decide)) (fun _ hk=>hk.2) (.int .i64 t333)) (fun _ hk=>hk.2) (.slice Ao11 t334.length co11)) (fun _ hk=>hk.2) (.slice Ao12 t337.length co12)) (fun _ h_=>h_.1))) hb);have n1_:=Z (Kd.R_below (by (with_reducible repeat (first|apply Kd.R_alloc|apply Kd.R_drewN|apply Kd.R_drew));exact (Kd.R_mono (Kd.R_far (p:=⟨gb341,2,none⟩) (Kd.R_far (p:=⟨gb341,1,none⟩) (Kd.R_far (p:=⟨gb341,0,none⟩) (Kd.R_mono HO339.out (fun k_ hk=>(⟨hk,hk.2⟩:_∧k_ ≠ gb341))) (fun _ hk=>hk.2) (.int .i64 t333)) (fun _ hk=>hk.2) (.slice Ao11 t334.length co11)) (fun _ hk=>hk.2) (.slice Ao12 t337.length co12)) (fun _ h_=>h_.1))) hb);have n2_:=Z (IsS71.below (show IsS71 w (((w8.setCell ⟨gb341,0,none⟩ (.int .i64 t333)).setCell ⟨gb341,1,none⟩ (.slice Ao11 t334.length co11)).setCell ⟨gb341,2,none⟩ (.slice Ao12 t337.length co12)) g330 t328 t340 from by repeat (first|(with_reducible first|exact HI330.out|apply IsS71.alloc|apply IsS71.drewN|apply IsS71.drew|apply IsS71.set_1|refine IsS71.far ?_ NB330_341.out _)|exact HI330.out)) hb);have n3_:=Z (blk_below (g:=gb341) (o:=.cells #[.int .i64 t333,.slice Ao11 t334.length co11,.slice Ao12 t337.length co12] 32 (0,0)) (by (with_reducible repeat (first|refine kN ?_ _|refine kD ?_|refine kA ?_ _));refine blk_put (cs:=#[.int .i64 t333,.slice Ao11 t334.length co11,.slice none 0 0]) ?_ 2 _ rfl;(with_reducible repeat (first|refine kN ?_ _|refine kD ?_|refine kA ?_ _));refine blk_put (cs:=#[.int .i64 t333,.slice none 0 0,.slice none 0 0]) ?_ 1 _ rfl;(with_reducible repeat (first|refine kN ?_ _|refine kD ?_|refine kA ?_ _));refine blk_put (cs:=#[.int .i64 0,.slice none 0 0,.slice none 0 0]) ?_ 0 _ rfl;(with_reducible repeat (first|refine kN ?_ _|refine kD ?_|refine kA ?_ _));exact BK341.out) hb);have n4_:=Z (below_step (by repeat (first|(with_reducible first|exact HB.out|apply wA|apply wN|apply wD|refine wS ?_ (IsS71.ge HI330.out)|refine wS ?_ GE341.out)|exact HB.out)) hb);have n5_:=Z (hbox);have n6_:=Z ((by rw [hg];exact (below_size (by repeat (first|(with_reducible first|exact HB.out|apply wA|apply wN|apply wD|refine wS ?_ (IsS71.ge HI330.out)|refine wS ?_ GE341.out)|exact HB.out))):w.heap.size≤gb342));have n7_:=Z ((by rw [hg];exact (below_size (by repeat (first|(with_reducible first|exact HB.out|apply wA|apply wN|apply wD|refine wS ?_ (IsS71.ge HI330.out)|refine wS ?_ GE341.out)|exact HB.out))):w.heap.size≤gb342));have n8_:=Z ((by rw [hg];exact Nat.ne_of_lt (blk_lt (g:=gb341) (o:=.cells #[.int .i64 t333,.slice Ao11 t334.length co11,.slice Ao12 t337.length co12] 32 (0,0)) (by (with_reducible repeat (first|refine kN ?_ _|refine kD ?_|refine kA ?_ _));refine blk_put (cs:=#[.int .i64 t333,.slice Ao11 t334.length co11,.slice none 0 0]) ?_ 2 _ rfl;(with_reducible repeat (first|refine kN ?_ _|refine kD ?_|refine kA ?_ _));refine blk_put (cs:=#[.int .i64 t333,.slice none 0 0,.slice none 0 0]) ?_ 1 _ rfl;(with_reducible repeat (first|refine kN ?_ _|refine kD ?_|refine kA ?_ _));refine blk_put (cs:=#[.int .i64 0,.slice none 0 0,.slice none 0 0]) ?_ 0 _ rfl;(with_reducible repeat (first|refine kN ?_ _|refine kD ?_|refine kA ?_ _));exact BK341.out)):gb341 ≠ gb342));have n9_:=Z ((by rw [hg];exact Nat.ne_of_gt (blk_lt (g:=gb341) (o:=.cells #[.int .i64 t333,.slice Ao11 t334.length co11,.slice Ao12 t337.length co12] 32 (0,0)) (by (with_reducible repeat (first|refine kN ?_ _|refine kD ?_|refine kA ?_ _));refine blk_put (cs:=#[.int .i64 t333,.slice Ao11 t334.length co11,.slice none 0 0]) ?_ 2 _ rfl;(with_reducible repeat (first|refine kN ?_ _|refine kD ?_|refine kA ?_ _));refine blk_put (cs:=#[.int .i64 t333,.slice none 0 0,.slice none 0 0]) ?_ 1 _ rfl;(with_reducible repeat (first|refine kN ?_ _|refine kD ?_|refine kA ?_ _));refine blk_put (cs:=#[.int .i64 0,.slice none 0 0,.slice none 0 0]) ?_ 0 _ rfl;(with_reducible repeat (first|refine kN ?_ _|refine kD ?_|refine kA ?_ _));exact BK341.out)):gb342 ≠ gb341));have n10_:=Z ((by rw [hg];exact Nat.ne_of_lt (IsS71.lt (show IsS71 w _ g330 t328 t340 from by repeat (first|(with_reducible first|exact HI330.out|apply IsS71.alloc|apply IsS71.drewN|apply IsS71.drew|apply IsS71.set_1|refine IsS71.far ?_ NB330_341.out _)|exact HI330.out))):g330 ≠ gb342));have n11_:=Z ((by rw [hg];exact Nat.ne_of_gt (IsS71.lt (show IsS71 w _ g330 t328 t340 from by repeat (first|(with_reducible first|exact HI330.out|apply IsS71.alloc|apply IsS71.drewN|apply IsS71.drew|apply IsS71.set_1|refine IsS71.far ?_ NB330_341.out _)|exact HI330.out))):gb342 ≠ g330));clear HO336;clear HO339;clear HI330;clear BK341;clear HB;have HO336:=n0_;have HO339:=n1_;have HI330:=n2_;have BK341:=n3_;have HB:=n4_;have BK342:=n5_;have GW342:=n6_;have GE342:=n7_;have NB341_342:=n8_;have NB342_341:=n9_;have NB330_342:=n10_;have NB342_330:=n11_;clear n0_ n1_ n2_ n3_ n4_ n5_ n6_ n7_ n8_ n9_ n10_ n11_;clear hb hbox hg))
 go_loopg [7] k (fun kq v7 w'=>∃ (x7_1:Int) (x343000_1:List (S34)) (u343000:Value),v7=.int .i64 x7_1∧Aside0 (trustquorumlaw10_QuorumsSymmetric.l0 kq t331 x7_1 t333 t334 t337 x343000_1=some true)∧Aside0 (kq≤k)∧Aside0 (Kd.R (Kd.int .i64) 3 w' w.heap.size (fun _=>True) (.slice Ao11 t334.length co11) t334)∧Aside0 (Kd.R k32 32 w' w.heap.size (fun k_=>some k_ ≠ ((.slice Ao11 t334.length co11):Value).ownBlock∧k_ ≠ gb341) (.slice Ao12 t337.length co12) t337)∧Aside0 (Kd.R k34 34 w' w.heap.size (fun k_=>k_ ≠ gb341) u343000 x343000_1)∧Aside0 (w'.heap[gb341]?=some (.cells #[.int .i64 t333,(.slice Ao11 t334.length co11),(.slice Ao12 t337.length co12)] 32 (0,0)))∧Aside0 (w'.heap[gb342]?=some (.cells #[u343000] 27 (0,0)))∧Aside0 (Below w.heap.size w w'))
 case atStart=>exact ⟨(0),(([]:List (S34))),(.slice none 0 0),pE,H',⟨Nat.le_refl _⟩,⟨pR HO336⟩,⟨pR HO339⟩,⟨pN⟩,⟨pK BK341⟩,⟨pK BK342⟩,⟨by repeat (first|(with_reducible first|exact HB.out|apply wA|apply wN|apply wD|refine wS ?_ (IsS71.ge HI330.out)|refine wS ?_ GE341.out|refine wS ?_ GE342.out)|exact HB.out)⟩⟩
 case round =>
  clear H'
  try clear c1
  try clear p2
  try clear c4
  try clear c9
  try clear c11
  try clear hcz10_0
  try clear hcz10_1
  try clear hcz10_2
  try clear hfz10_0
  try clear hfz10_1
  try clear hfz10_2
  obtain ⟨x7_1,x343000_1,u343000,rfl,HA,HK1,HO_342001,HO_342002,HO_343000,BK341,BK342,HB⟩:=hrel
  cases gk with
  | zero=>exact absurd HA.out (by simp [trustquorumlaw10_QuorumsSymmetric.l0])
  | succ k1 =>
   have H:=HA.out
   clear HA
   simp only [trustquorumlaw10_QuorumsSymmetric.l0] at H
   by_cases c14:x7_1 < t331
   ·rw [if_pos c14] at H
    have c14b0:decide (x7_1 < t331)=true:=decide_eq_true c14
    clear c14
    by_cases c15:x343000_1.length < 2199023255552
    ·rw [if_pos c15] at H
     have LMc15:=Z c15
     clear c15
     obtain ⟨y343,hy343⟩:∃ y_:List (S34),y_=(x343000_1++[(⟨true,(⟨t333,t334,t337⟩:S32)⟩:S34)]):=⟨_,rfl⟩
     first|rw [← hy343] at H|(replace H:=(Option.bind_some _ _).symm.trans H;rw [← hy343] at H)
     have Ny343:=Z hy343
     clear hy343
     have H':=Z H
     clear H
     have hnb16:=NB342_341.out
     have hnc16:=NB341_342.out
     have hcz17_0:wr.cell? ⟨gb342,0,none⟩=some (u343000):=(kC BK342.out 0).trans rfl
     have hfz17_0:=kF BK342.out 0
     have hcz18_0:wr.cell? ⟨gb341,0,none⟩=some (.int .i64 t333):=(kC BK341.out 0).trans rfl
     have hcz18_1:wr.cell? ⟨gb341,1,none⟩=some (.slice Ao11 t334.length co11):=(kC BK341.out 1).trans rfl
     have hcz18_2:wr.cell? ⟨gb341,2,none⟩=some (.slice Ao12 t337.length co12):=(kC BK341.out 2).trans rfl
     have hfz18_0:=kF BK341.out 0
     have hfz18_1:=kF BK341.out 1
     have hfz18_2:=kF BK341.out 2
     go_wp2_with (first|((with_reducible refine gate_builtin (b:=.append) (xs:=#[.tmp 27,.tmp 30]) rfl ?_);at_builtin;refine Kd.R_append k34 (w0:=w) w.heap.size rfl (.tmp 27) (.tmp 30) 25 34 (.agg #[(.bool false),(.int .i64 0),(.slice none 0 0),(.slice none 0 0)]) 64 rfl Try.underlying25 info34 rfl (by decide) (by omega) u343000 x343000_1 (⟨true,(⟨t333,t334,t337⟩:S32)⟩:S34) [.bool true,.int .i64 t333,.slice Ao11 t334.length co11,.slice Ao12 t337.length co12] (fun k_=>k_ ≠ gb341) (fun k_=>((fun k_=>k_ ≠ gb341)) k_∧some k_ ≠ (u343000:Value).ownBlock) rfl rfl ?aP (fun _ hk=>hk) ?aF ?aO ?aB ?aS ?aL ?_;(case aP=>exact k34_mkM _ _ _ (⟨true,(⟨t333,t334,t337⟩:S32)⟩:S34) (Kd.R_mono (Kd.R_types (Kd.R_apart' (HO_342001.out) (Kd.R_typed HO_343000.out) (by decide)) BK341.out (by decide)) (fun k_ hk=>⟨hk.2,hk.1.2⟩)) (Kd.R_mono (Kd.R_apart' (HO_342002.out) (Kd.R_typed HO_343000.out) (by decide)) (fun k_ hk=>⟨hk.1.2,hk.2⟩)));(case aB=>exact pB);(case aF=>exact (fun k_ hk=>Kd.freshB (g:=gb341) (o:=.cells #[.int .i64 t333,.slice Ao11 t334.length co11,.slice Ao12 t337.length co12] 32 (0,0)) (pK BK341) k_ hk));(case aO=>exact (pR HO_343000));(case aS=>exact (below_size pB));(case aL=>have:=LMc15.out;omega);intro v344 w19 ho hb hg hat;rw [← Ny343.out] at ho;have n0_:=Z (blk_grown (g:=gb341) (o:=.cells #[.int .i64 t333,.slice Ao11 t334.length co11,.slice Ao12 t337.length co12] 32 (0,0)) (pK BK341) hg (Kd.R_ne HO_343000.out BK341.out (by decide)));have n1_:=Z (blk_grown (g:=gb342) (o:=.cells #[u343000] 27 (0,0)) (pK BK342) hg (Kd.R_ne HO_343000.out BK342.out (by decide)));have n2_:=Z (hb);have n3_:=Z (ho);have n4_:=Z (Kd.R_over' HO_342001.out (Kd.R_typed HO_343000.out) (by decide) hg);have n5_:=Z (Kd.R_over' HO_342002.out (Kd.R_typed HO_343000.out) (by decide) hg);clear BK341;clear BK342;clear HB;clear HO_343000;clear HO_342001;clear HO_342002;have BK341:=n0_;have BK342:=n1_;have HB:=n2_;have HO345:=n3_;have HO_342001:=n4_;have HO_342002:=n5_;clear n0_ n1_ n2_ n3_ n4_ n5_;clear ho hb hg hat;obtain ⟨Ao20,co20,eo20⟩:=Kd.R_slice HO345.out;subst eo20;have hcz21_0:w19.cell? ⟨gb342,0,none⟩=some (u343000):=(kC BK342.out 0).trans rfl;have hfz21_0:=kF BK342.out 0))
     go_roundg k1
     case measure=>have:=HK1.out;omega
     case rel=>exact ⟨(wrap64 (x7_1+1)),(y343),(.slice Ao20 y343.length co20),pE,H',⟨by have:=HK1.out;omega⟩,⟨by (with_reducible repeat (first|apply Kd.R_alloc|apply Kd.R_drewN|apply Kd.R_drew));exact Kd.R_mono (Kd.R_far (p:=⟨gb342,0,none⟩) (Kd.R_types HO_342001.out BK342.out (by decide)) (fun _ hk=>hk.2) (.slice Ao20 y343.length co20)) (fun _ hk=>trivial)⟩,⟨by (with_reducible repeat (first|apply Kd.R_alloc|apply Kd.R_drewN|apply Kd.R_drew));exact Kd.R_mono (Kd.R_far (p:=⟨gb342,0,none⟩) (Kd.R_types HO_342002.out BK342.out (by decide)) (fun _ hk=>hk.2) (.slice Ao20 y343.length co20)) (fun _ hk=>hk.1)⟩,⟨by (with_reducible repeat (first|apply Kd.R_alloc|apply Kd.R_drewN|apply Kd.R_drew));exact Kd.R_mono (Kd.R_far (p:=⟨gb342,0,none⟩) (Kd.R_types HO345.out BK342.out (by decide)) (fun _ hk=>hk.2) (.slice Ao20 y343.length co20)) (fun _ hk=>hk.1)⟩,⟨by (with_reducible repeat (first|refine kN ?_ _|refine kD ?_|refine kA ?_ _));refine blk_far ?_ NB341_342.out _;(with_reducible repeat (first|refine kN ?_ _|refine kD ?_|refine kA ?_ _));exact BK341.out⟩,⟨by (with_reducible repeat (first|refine kN ?_ _|refine kD ?_|refine kA ?_ _));refine blk_put (cs:=#[u343000]) ?_ 0 _ rfl;(with_reducible repeat (first|refine kN ?_ _|refine kD ?_|refine kA ?_ _));exact BK342.out⟩,⟨pB⟩⟩
    ·rw [if_neg c15] at H
     exact absurd H (by simp)
   ·rw [if_neg c14] at H
    have c14b0:decide (x7_1 < t331)=false:=decide_eq_false c14
    clear c14
    replace H:=Option.bind_eq_some_iff.mp H
    obtain ⟨⟨t346,t347⟩,A220,H⟩:=H
    try dsimp only at H
    have A22:=Z A220
    clear A220
    replace H:=Option.bind_eq_some_iff.mp H
    obtain ⟨⟨t348,t349⟩,A230,H⟩:=H
    try dsimp only at H
    have A23:=Z A230
    clear A230
    have H':=Z H
    clear H
    have hnb24:=NB342_341.out
    have hnc24:=NB341_342.out
    have hcz25_0:wr.cell? ⟨gb342,0,none⟩=some (u343000):=(kC BK342.out 0).trans rfl
    have hfz25_0:=kF BK342.out 0
    obtain ⟨Ao26,co26,eo26⟩:=Kd.R_slice HO_343000.out
    subst eo26
    go_wp2_with (first|((with_reducible refine gate_callee (f:=42) rfl ?_);refine goesL_ (some 35) rfl rfl Try.func42 (by kernel_rfl) rfl #[.agg #[.slice Ao26 x343000_1.length co26]] rfl pG ?_;(with_reducible refine (quorums_Symmetric.calls k1 _ _ x343000_1 t346 t347 _ ?side1 ?side2 A22.out).mono ?_);(case side1=>repeat (first|exact (Kd.R_reads' HO_343000.out).2.2|(with_reducible refine Kd.C_alloc ?_ _)|(with_reducible refine Kd.C_drewN ?_ _)|(with_reducible refine Kd.C_drew ?_)));(case side2=>exact (Kd.R_reads' HO_343000.out).2.1);rintro e w27 ⟨rfl,hb⟩;refine ⟨_,rfl,?_⟩;have n0_:=Z (Kd.R_below (pR HO_342001) hb);have n1_:=Z (Kd.R_below (pR HO_342002) hb);have n2_:=Z (Kd.R_below (pR HO_343000) hb);have n3_:=Z (blk_below (g:=gb341) (o:=.cells #[.int .i64 t333,.slice Ao11 t334.length co11,.slice Ao12 t337.length co12] 32 (0,0)) (pK BK341) hb);have n4_:=Z (blk_below (g:=gb342) (o:=.cells #[.slice Ao26 x343000_1.length co26] 27 (0,0)) (pK BK342) hb);have n5_:=Z (below_step pB hb);clear HO_342001;clear HO_342002;clear HO_343000;clear BK341;clear BK342;clear HB;have HO_342001:=n0_;have HO_342002:=n1_;have HO_343000:=n2_;have BK341:=n3_;have BK342:=n4_;have HB:=n5_;clear n0_ n1_ n2_ n3_ n4_ n5_;(try clear hb);(try clear hb2);(try clear hk);(try clear hi);have hcz28_0:w27.cell? ⟨gb342,0,none⟩=some (.slice Ao26 x343000_1.length co26):=(kC BK342.out 0).trans rfl;have hfz28_0:=kF BK342.out 0)|((with_reducible refine gate_callee (f:=41) rfl ?_);refine goesL_ (some 40) rfl rfl Try.func41 (by kernel_rfl) rfl #[.agg #[.slice Ao26 x343000_1.length co26]] rfl pG ?_;(with_reducible refine (quorums_Count.calls k1 _ _ x343000_1 t348 t349 _ ?side1 ?side2 A23.out).mono ?_);(case side1=>repeat (first|exact (Kd.R_reads' HO_343000.out).2.2|(with_reducible refine Kd.C_alloc ?_ _)|(with_reducible refine Kd.C_drewN ?_ _)|(with_reducible refine Kd.C_drew ?_)));(case side2=>exact (Kd.R_reads' HO_343000.out).2.1);rintro e w29 ⟨rfl,hb⟩;refine ⟨_,rfl,?_⟩;have n0_:=Z (Kd.R_below (pR HO_342001) hb);have n1_:=Z (Kd.R_below (pR HO_342002) hb);have n2_:=Z (Kd.R_below (pR HO_343000) hb);have n3_:=Z (blk_below (g:=gb341) (o:=.cells #[.int .i64 t333,.slice Ao11 t334.length co11,.slice Ao12 t337.length co12] 32 (0,0)) (pK BK341) hb);have n4_:=Z (blk_below (g:=gb342) (o:=.cells #[.slice Ao26 x343000_1.length co26] 27 (0,0)) (pK BK342) hb);have n5_:=Z (below_step pB hb);clear HO_342001;clear HO_342002;clear HO_343000;clear BK341;clear BK342;clear HB;have HO_342001:=n0_;have HO_342002:=n1_;have HO_343000:=n2_;have BK341:=n3_;have BK342:=n4_;have HB:=n5_;clear n0_ n1_ n2_ n3_ n4_ n5_;(try clear hb);(try clear hb2);(try clear hk);(try clear hi)))
    go_loopg [12,13] k1 (fun kq v12 v13 w'=>∃ (x12_2:Int) (x13_2:Int),v12=.int .i64 x12_2∧v13=.int .i64 x13_2∧Aside0 (trustquorumlaw10_QuorumsSymmetric.l1 kq t331 t346 t347 t348 t349 x12_2 x13_2 t333 t334 t337=some true)∧Aside0 (kq≤k1)∧Aside0 (Kd.R (Kd.int .i64) 3 w' w.heap.size (fun _=>True) (.slice Ao11 t334.length co11) t334)∧Aside0 (Kd.R k32 32 w' w.heap.size (fun k_=>some k_ ≠ ((.slice Ao11 t334.length co11):Value).ownBlock∧k_ ≠ gb341) (.slice Ao12 t337.length co12) t337)∧Aside0 (Kd.R k34 34 w' w.heap.size (fun k_=>k_ ≠ gb341) (.slice Ao26 x343000_1.length co26) x343000_1)∧Aside0 (w'.heap[gb341]?=some (.cells #[.int .i64 t333,(.slice Ao11 t334.length co11),(.slice Ao12 t337.length co12)] 32 (0,0)))∧Aside0 (w'.heap[gb342]?=some (.cells #[(.slice Ao26 x343000_1.length co26)] 27 (0,0)))∧Aside0 (Below w.heap.size w w'))
    case atStart=>exact ⟨(0),(0),pE,pE,H',⟨Nat.le_refl _⟩,⟨pR HO_342001⟩,⟨pR HO_342002⟩,⟨pR HO_343000⟩,⟨pK BK341⟩,⟨pK BK342⟩,⟨pB⟩⟩
    case round =>
     clear H'
     try clear c1
     try clear c2
     try clear p2
     try clear c4
     try clear p6
     try clear c9
     try clear c11
     try clear c14
     try clear c14b0
     try clear c15
     try clear c16
     try clear c24
     try clear hcz10_0
     try clear hcz10_1
     try clear hcz10_2
     try clear hcz17_0
     try clear hcz18_0
     try clear hcz18_1
     try clear hcz18_2
     try clear hcz21_0
     try clear hcz25_0
     try clear hcz28_0
     try clear hfz10_0
     try clear hfz10_1
     try clear hfz10_2
     try clear hfz17_0
     try clear hfz18_0
     try clear hfz18_1
     try clear hfz18_2
     try clear hfz21_0
     try clear hfz25_0
     try clear hfz28_0
     obtain ⟨x12_2,x13_2,rfl,rfl,HA,HK2,HO_342001,HO_342002,HO_343000,BK341,BK342,HB⟩:=hrel
     cases gk with
     | zero=>exact absurd HA.out (by simp [trustquorumlaw10_QuorumsSymmetric.l1])
     | succ k2 =>
      have H:=HA.out
      clear HA
      simp only [trustquorumlaw10_QuorumsSymmetric.l1] at H
      by_cases c30:0≤t331
      ·rw [if_pos c30] at H
       have c30b0:=eq_true c30
       have c30b1:decide (0≤t331)=true:=decide_eq_true c30
       clear c30
       obtain ⟨ji31,hji31⟩:∃ j_:Int,(shl .i64 1 t331)=j_:=⟨_,rfl⟩
       replace H:(if x13_2 < (ji31) then ((trustquorumref02_Satisfied.f k2 t333 t334 t337 x13_2).bind fun t350=>(if t350=true then (trustquorumlaw10_QuorumsSymmetric.l1 k2 t331 t346 t347 t348 t349 (wrap64 (x12_2+1)) (wrap64 (x13_2+1)) t333 t334 t337) else (trustquorumlaw10_QuorumsSymmetric.l1 k2 t331 t346 t347 t348 t349 x12_2 (wrap64 (x13_2+1)) t333 t334 t337))) else (if t347=0 then (if t349=0 then (if t346=true then (if t348=x12_2 then ((trustquorumlaw10_awake.f k2).bind fun t351=>(some t351)) else (some false)) else (some false)) else (some false)) else (some false)))=some true:=by first|(rw [hji31] at H;exact H)|(simp only [hji31] at H ⊢;exact H)
       have hji31_:(IntKind.i64.wrap (1 * 2 ^ min t331.toNat 64))=ji31:=hji31
       have hji31z:t331≤64→(IntKind.i64.wrap (1 * 2 ^ t331.toNat))=ji31:=shl_small hji31
       have hji31u:(IntKind.i64.wrap (2 ^ min t331.toNat 64))=ji31:=by have h_:=hji31_;rw [Int.one_mul] at h_;exact h_
       have hji31v:t331≤64→(IntKind.i64.wrap (2 ^ t331.toNat))=ji31:=fun hle_=>by have h_:=hji31z hle_;rw [Int.one_mul] at h_;exact h_
       have hji31y:(wrap64 (1 * 2 ^ min t331.toNat 64))=ji31:=(i64_w _).symm.trans hji31_
       have hji31x:t331≤64→(wrap64 (1 * 2 ^ t331.toNat))=ji31:=fun h_=>(i64_w _).symm.trans (hji31z h_)
       by_cases c32:x13_2 < (ji31)
       ·rw [if_pos c32] at H
        have c32b0:decide (x13_2 < (ji31))=true:=decide_eq_true c32
        clear c32
        replace H:=Option.bind_eq_some_iff.mp H
        obtain ⟨t350,A330,H⟩:=H
        try dsimp only at H
        have A33:=Z A330
        clear A330
        by_cases c34:t350=true
        ·subst c34
         rw [if_pos rfl] at H
         have H':=Z H
         clear H
         have hnb35:=NB341_342.out
         have hnc35:=NB342_341.out
         have hcz36_0:wr.cell? ⟨gb341,0,none⟩=some (.int .i64 t333):=(kC BK341.out 0).trans rfl
         have hcz36_1:wr.cell? ⟨gb341,1,none⟩=some (.slice Ao11 t334.length co11):=(kC BK341.out 1).trans rfl
         have hcz36_2:wr.cell? ⟨gb341,2,none⟩=some (.slice Ao12 t337.length co12):=(kC BK341.out 2).trans rfl
         have hfz36_0:=kF BK341.out 0
         have hfz36_1:=kF BK341.out 1
         have hfz36_2:=kF BK341.out 2
         go_wp2_with (first|((with_reducible refine gate_callee (f:=26) rfl ?_);refine goesL_ (some 51) rfl rfl Try.func26 (by kernel_rfl) rfl #[.agg #[.int .i64 t333,.slice Ao11 t334.length co11,.slice Ao12 t337.length co12],.int .i64 x13_2] rfl pG ?_;(with_reducible refine (trustquorumref02_Satisfied.calls k2 t333 _ _ t334 _ _ t337 x13_2 true _ ?side1 ?side2 ?side3 ?side4 A33.out).mono ?_);(case side1=>repeat (first|exact (Kd.R_reads' HO_342001.out).2.2|(with_reducible refine Kd.C_alloc ?_ _)|(with_reducible refine Kd.C_drewN ?_ _)|(with_reducible refine Kd.C_drew ?_)));(case side2=>exact (Kd.R_reads' HO_342001.out).2.1);(case side3=>repeat (first|exact (Kd.R_reads' HO_342002.out).2.2|(with_reducible refine Kd.C_alloc ?_ _)|(with_reducible refine Kd.C_drewN ?_ _)|(with_reducible refine Kd.C_drew ?_)));(case side4=>exact (Kd.R_reads' HO_342002.out).2.1);rintro e w37 ⟨rfl,hb⟩;refine ⟨_,rfl,?_⟩;have n0_:=Z (Kd.R_below (pR HO_342001) hb);have n1_:=Z (Kd.R_below (pR HO_342002) hb);have n2_:=Z (Kd.R_below (pR HO_343000) hb);have n3_:=Z (blk_below (g:=gb341) (o:=.cells #[.int .i64 t333,.slice Ao11 t334.length co11,.slice Ao12 t337.length co12] 32 (0,0)) (pK BK341) hb);have n4_:=Z (blk_below (g:=gb342) (o:=.cells #[.slice Ao26 x343000_1.length co26] 27 (0,0)) (pK BK342) hb);have n5_:=Z (below_step pB hb);clear HO_342001;clear HO_342002;clear HO_343000;clear BK341;clear BK342;clear HB;have HO_342001:=n0_;have HO_342002:=n1_;have HO_343000:=n2_;have BK341:=n3_;have BK342:=n4_;have HB:=n5_;clear n0_ n1_ n2_ n3_ n4_ n5_;(try clear hb);(try clear hb2);(try clear hk);(try clear hi)))
         go_roundg k2
         case measure=>have:=HK1.out;have:=HK2.out;omega
         case rel=>exact ⟨(wrap64 (x12_2+1)),(wrap64 (x13_2+1)),pE,pE,H',⟨by have:=HK1.out;have:=HK2.out;omega⟩,⟨pR HO_342001⟩,⟨pR HO_342002⟩,⟨pR HO_343000⟩,⟨pK BK341⟩,⟨pK BK342⟩,⟨pB⟩⟩
        ·replace c34:=Bool.eq_false_iff.mpr c34
         subst c34
         rw [if_neg (show ¬ (false=true) by decide)] at H
         have H':=Z H
         clear H
         have hnb38:=NB341_342.out
         have hnc38:=NB342_341.out
         have hcz39_0:wr.cell? ⟨gb341,0,none⟩=some (.int .i64 t333):=(kC BK341.out 0).trans rfl
         have hcz39_1:wr.cell? ⟨gb341,1,none⟩=some (.slice Ao11 t334.length co11):=(kC BK341.out 1).trans rfl
         have hcz39_2:wr.cell? ⟨gb341,2,none⟩=some (.slice Ao12 t337.length co12):=(kC BK341.out 2).trans rfl
         have hfz39_0:=kF BK341.out 0
         have hfz39_1:=kF BK341.out 1
         have hfz39_2:=kF BK341.out 2
         go_wp2_with (first|((with_reducible refine gate_callee (f:=26) rfl ?_);refine goesL_ (some 51) rfl rfl Try.func26 (by kernel_rfl) rfl #[.agg #[.int .i64 t333,.slice Ao11 t334.length co11,.slice Ao12 t337.length co12],.int .i64 x13_2] rfl pG ?_;(with_reducible refine (trustquorumref02_Satisfied.calls k2 t333 _ _ t334 _ _ t337 x13_2 false _ ?side1 ?side2 ?side3 ?side4 A33.out).mono ?_);(case side1=>repeat (first|exact (Kd.R_reads' HO_342001.out).2.2|(with_reducible refine Kd.C_alloc ?_ _)|(with_reducible refine Kd.C_drewN ?_ _)|(with_reducible refine Kd.C_drew ?_)));(case side2=>exact (Kd.R_reads' HO_342001.out).2.1);(case side3=>repeat (first|exact (Kd.R_reads' HO_342002.out).2.2|(with_reducible refine Kd.C_alloc ?_ _)|(with_reducible refine Kd.C_drewN ?_ _)|(with_reducible refine Kd.C_drew ?_)));(case side4=>exact (Kd.R_reads' HO_342002.out).2.1);rintro e w40 ⟨rfl,hb⟩;refine ⟨_,rfl,?_⟩;have n0_:=Z (Kd.R_below (pR HO_342001) hb);have n1_:=Z (Kd.R_below (pR HO_342002) hb);have n2_:=Z (Kd.R_below (pR HO_343000) hb);have n3_:=Z (blk_below (g:=gb341) (o:=.cells #[.int .i64 t333,.slice Ao11 t334.length co11,.slice Ao12 t337.length co12] 32 (0,0)) (pK BK341) hb);have n4_:=Z (blk_below (g:=gb342) (o:=.cells #[.slice Ao26 x343000_1.length co26] 27 (0,0)) (pK BK342) hb);have n5_:=Z (below_step pB hb);clear HO_342001;clear HO_342002;clear HO_343000;clear BK341;clear BK342;clear HB;have HO_342001:=n0_;have HO_342002:=n1_;have HO_343000:=n2_;have BK341:=n3_;have BK342:=n4_;have HB:=n5_;clear n0_ n1_ n2_ n3_ n4_ n5_;(try clear hb);(try clear hb2);(try clear hk);(try clear hi)))
         go_roundg k2
         case measure=>have:=HK1.out;have:=HK2.out;omega
         case rel=>exact ⟨(x12_2),(wrap64 (x13_2+1)),pE,pE,H',⟨by have:=HK1.out;have:=HK2.out;omega⟩,⟨pR HO_342001⟩,⟨pR HO_342002⟩,⟨pR HO_343000⟩,⟨pK BK341⟩,⟨pK BK342⟩,⟨pB⟩⟩
       ·rw [if_neg c32] at H
        have c32b0:decide (x13_2 < (ji31))=false:=decide_eq_false c32
        clear c32
        by_cases c41:t347=0
        ·rw [if_pos c41] at H
         have c41b0:(t347 == 0)=true:=beq_iff_eq.mpr c41
         have c41b1:(t347 != 0)=false:=bne_eq_false_iff_eq.mpr c41
         clear c41
         by_cases c42:t349=0
         ·rw [if_pos c42] at H
          have c42b0:(t349 == 0)=true:=beq_iff_eq.mpr c42
          have c42b1:(t349 != 0)=false:=bne_eq_false_iff_eq.mpr c42
          clear c42
          by_cases c43:t346=true
          ·subst c43
           rw [if_pos rfl] at H
           by_cases c44:t348=x12_2
           ·rw [if_pos c44] at H
            have c44b0:(t348 == x12_2)=true:=beq_iff_eq.mpr c44
            have c44b1:(t348 != x12_2)=false:=bne_eq_false_iff_eq.mpr c44
            clear c44
            replace H:=Option.bind_eq_some_iff.mp H
            obtain ⟨t351,A450,H⟩:=H
            try dsimp only at H
            have A45:=Z A450
            clear A450
            obtain rfl:=Option.some.inj H
            go_wp2_with (first|(go_at_call 38;(with_reducible refine (trustquorumlaw10_awake.calls k2   _ A45.out).mono ?_);rintro e w46 ⟨rfl,hb⟩;have n0_:=Z (Kd.R_below (pR HO_342001) hb);have n1_:=Z (Kd.R_below (pR HO_342002) hb);have n2_:=Z (Kd.R_below (pR HO_343000) hb);have n3_:=Z (blk_below (g:=gb341) (o:=.cells #[.int .i64 t333,.slice Ao11 t334.length co11,.slice Ao12 t337.length co12] 32 (0,0)) (pK BK341) hb);have n4_:=Z (blk_below (g:=gb342) (o:=.cells #[.slice Ao26 x343000_1.length co26] 27 (0,0)) (pK BK342) hb);have n5_:=Z (below_step pB hb);clear HO_342001;clear HO_342002;clear HO_343000;clear BK341;clear BK342;clear HB;have HO_342001:=n0_;have HO_342002:=n1_;have HO_343000:=n2_;have BK341:=n3_;have BK342:=n4_;have HB:=n5_;clear n0_ n1_ n2_ n3_ n4_ n5_;(try clear hb);(try clear hb2);(try clear hk);(try clear hi)))
            go_ret
            exact ⟨by first|rfl|exact congrArg (fun b_:Bool=>Ending.returned (Value.bool b_)) HT.out|(simp [errW_none,errW_some] <;> rfl)|(simp only [← hji31];first|rfl|(simp [errW_none,errW_some] <;> rfl))|(simp [*,errW_none,errW_some] <;> rfl),pB⟩
           ·rw [if_neg c44] at H
            have c44b0:(t348 == x12_2)=false:=beq_eq_false_iff_ne.mpr c44
            have c44b1:(t348 != x12_2)=true:=bne_iff_ne.mpr c44
            exact absurd H (by simp)
          ·replace c43:=Bool.eq_false_iff.mpr c43
           subst c43
           rw [if_neg (show ¬ (false=true) by decide)] at H
           exact absurd H (by simp)
         ·rw [if_neg c42] at H
          have c42b0:(t349 == 0)=false:=beq_eq_false_iff_ne.mpr c42
          have c42b1:(t349 != 0)=true:=bne_iff_ne.mpr c42
          exact absurd H (by simp)
        ·rw [if_neg c41] at H
         have c41b0:(t347 == 0)=false:=beq_eq_false_iff_ne.mpr c41
         have c41b1:(t347 != 0)=true:=bne_iff_ne.mpr c41
         exact absurd H (by simp)
      ·rw [if_neg c30] at H
       exact absurd H (by simp)
def trustquorumlaw10_QuorumsSymmetric.Pure:Prop:=∀ (l0:List Int),l0.length≤maxLen→l0.length * 8≤140737488351232→(∀ x∈l0,(Lit.int .i64 x).wf=true)→∃ k,trustquorumlaw10_QuorumsSymmetric.f k l0=some true
theorem trustquorumlaw10_QuorumsSymmetric.walk (P:trustquorumlaw10_QuorumsSymmetric.Pure) (a0:Option Addr) (len0 cap0:Nat) (z0:List Int) (w:World) (w0:(a0=none∧len0=0∧cap0=0∧z0=[]) ∨ ∃ x,a0=some x∧len0≤cap0∧cap0≤maxLen∧z0.length=cap0∧(∀ i,i < z0.length→w.cell? (x.add i)=some (.int .i64 (z0.getD i 0)))∧∀ n∈z0,(Lit.int .i64 n).wf=true) (y0:len0 * 8≤140737488351232) :
  Calls Try.prog 11 #[.slice a0 len0 cap0] w fun e w'=>e=.returned (.bool true)∧Below w.heap.size w w':=by
 obtain ⟨l0,rfl,hr0,hm0,hw0,hc0⟩:=ReadsInt.ofRowC w0
 obtain ⟨k,h⟩:=P l0 hm0 y0 hw0
 refine (trustquorumlaw10_QuorumsSymmetric.calls k _ _ l0 w (Kd.C_of_reads (d:=(0:Int)) (h1:=fun _=>rfl) hr0) hc0 h).mono ?_
 rintro e w' ⟨rfl,hd⟩
 exact ⟨rfl,hd⟩
end Go.Proofs.Ytkjlcbfjllpcnaa.X
namespace Go.Proofs.Ytkjlcbfjllpcnaa.X
open Go.RowKit Go.Proofs.YtkjlcbfjllpcnaaW.PrintWords Go.Proofs.YtkjlcbfjllpcnaaW.PrintLast Go.Proofs.YtkjlcbfjllpcnaaW.PrintMore
set_option linter.unusedVariables false
mutual
def depL : List S32 → Nat
  | [] => 0
  | t :: ts => max (dep t) (depL ts)
def dep : S32 → Nat
  | ⟨_, _, ts⟩ => depL ts + 1
end
mutual
def sizL : List S32 → Nat
  | [] => 0
  | t :: ts => siz t + sizL ts
def siz : S32 → Nat
  | ⟨_, l, ts⟩ => l.length + ts.length + sizL ts
end
mutual
def useL : List S32 → Nat
  | [] => 0
  | t :: ts => uses t ||| useL ts
def uses : S32 → Nat
  | ⟨_, l, ts⟩ => l.foldl (fun a x => if noNode x = true then a else a ||| 2 ^ x.toNat) 0 ||| useL ts
end
def ofS (a : Nat) : List Int → Nat × Int
  | [] => (a, 0)
  | x :: xs => if noNode x = true then (0, 5) else if inS a x = true then (0, 6) else ofS (a ||| 2 ^ x.toNat) xs
mutual
def chkL : List S32 → Int
  | [] => 0
  | t :: ts => if chk t = 0 then chkL ts else chk t
def chk : S32 → Int
  | ⟨n, l, ts⟩ => if n < 1 ∨ n > ((l.length + ts.length : Nat) : Int) then 4 else if (l.any noNode) = true then 5 else if (ofS 0 l).2 = 0 then chkL ts else (ofS 0 l).2
end
def validT (t : S32) : Int := if dep t > 4 then 3 else if siz t > 200 then 3 else chk t
theorem dep_eq (t : S32) : dep t = depL t.f2 + 1 := by cases t; rw [dep]
theorem siz_eq (t : S32) : siz t = t.f1.length + t.f2.length + sizL t.f2 := by cases t; rw [siz]
theorem chk_eq (t : S32) : chk t = if t.f0 < 1 ∨ t.f0 > ((t.f1.length + t.f2.length : Nat) : Int) then 4 else if (t.f1.any noNode) = true then 5 else if (ofS 0 t.f1).2 = 0 then chkL t.f2 else (ofS 0 t.f1).2 := by cases t; rw [chk]
theorem uses_eq (t : S32) : uses t = t.f1.foldl (fun a x => if noNode x = true then a else a ||| 2 ^ x.toNat) 0 ||| useL t.f2 := by cases t; rw [uses]
mutual
theorem dep_le : ∀ t : S32, dep t ≤ wt t
  | ⟨_, l, ts⟩ => by rw [dep, wt]; have := depL_le ts; omega
theorem depL_le : ∀ l : List S32, depL l ≤ wtL l
  | [] => Nat.le_refl _
  | t :: ts => by rw [depL, wtL]; have := dep_le t; have := depL_le ts; omega
end
mutual
theorem siz_le : ∀ t : S32, siz t ≤ 2 * wt t
  | ⟨_, l, ts⟩ => by rw [siz, wt]; have := sizL_le ts; omega
theorem sizL_le : ∀ l : List S32, l.length + sizL l ≤ 2 * wtL l
  | [] => Nat.le_refl _
  | t :: ts => by rw [sizL, wtL, List.length_cons]; have := siz_le t; have := sizL_le ts; have := wt_pos t; have : 1 + siz t ≤ 2 * wt t := by
                    cases t with | mk n l xs => rw [siz, wt]; have := sizL_le xs; omega
                  omega
end
theorem or_lt {a b n : Nat} (ha : a < 2 ^ n) (hb : b < 2 ^ n) : a ||| b < 2 ^ n := Nat.or_lt_two_pow ha hb
theorem or_lt10 {a b : Nat} (ha : a < 1024) (hb : b < 1024) : a ||| b < 1024 := or_lt (n := 10) ha hb
theorem two_lt10 {k : Nat} (h : k < 10) : 2 ^ k < 1024 := Nat.pow_lt_pow_right (a := 2) (by decide) h
theorem noNode_not {x : Int} (h : noNode x = false) : 0 ≤ x ∧ x < 10 := by simp [noNode] at h; omega
theorem foldUse_lt (l : List Int) : ∀ a, a < 1024 → l.foldl (fun a x => if noNode x = true then a else a ||| 2 ^ x.toNat) a < 1024 := by
  induction l with
  | nil => intro a h; exact h
  | cons x xs ih =>
    intro a h
    rw [List.foldl_cons]
    refine ih _ ?_
    cases hx : noNode x
    · have := noNode_not hx
      exact or_lt10 h (two_lt10 (by omega))
    · exact h
mutual
theorem uses_lt : ∀ t : S32, uses t < 1024
  | ⟨_, l, ts⟩ => by rw [uses]; exact or_lt10 (foldUse_lt l 0 (by decide)) (useL_lt ts)
theorem useL_lt : ∀ l : List S32, useL l < 1024
  | [] => by rw [useL]; decide
  | t :: ts => by rw [useL]; exact or_lt10 (uses_lt t) (useL_lt ts)
end
theorem mx_nat (a b : Nat) : mx (a : Int) (b : Int) = ((max a b : Nat) : Int) := by unfold mx; split <;> omega
theorem Depth_ev : ∀ (n : Nat) (t : S32), wt t < n → n < 1152921504606846976 → Ev (fun k => threshold_Depth.f k t.f0 t.f1 t.f2) (dep t : Int)
  | 0, t, h, _ => absurd h (by omega)
  | n + 1, t, h, hn => by
    rw [wt_eq] at h
    have hl := len_wtL t.f2
    have hd := depL_le t.f2
    rw [dep_eq]
    (refine Ev.shift ?_; simp only [threshold_Depth.f, Option.bind_some, ↓reduceIte, Bool.false_eq_true, reduceCtorEq, decide_eq_true_eq, Go.Proofs.YtkjlcbfjllpcnaaW.PrintWords.rd, rd_T32, rd_T34])
    refine Ev.fold (xs := t.f2) (L := fun (c : Nat) i k => threshold_Depth.l0 k (c : Int) t.f2 (t.f2.length : Int) i) (by omega) (fun pre ys c => max c (depL ys) = depL t.f2) ?_ ?_ 0 (by omega)
    · intro c i hI hi
      rw [depL] at hI
      (refine Ev.shift ?_; simp only [threshold_Depth.l0, hi, Option.bind_some, ↓reduceIte, Bool.false_eq_true, reduceCtorEq, decide_eq_true_eq, Go.Proofs.YtkjlcbfjllpcnaaW.PrintWords.rd, rd_T32, rd_T34])
      rw [show wrap64 ((c : Int) + 1) = ((depL t.f2 + 1 : Nat) : Int) by rw [w64 (by omega) (by omega)]; omega]
      exact Ev.now _
    · intro pre y ys c i e hI hi h0 hlt hw hrd
      rw [depL] at hI
      refine Or.inl ⟨max c (dep y), by omega, fun k => ?_⟩
      (refine Ev.shift ?_; simp only [threshold_Depth.l0, h0, hlt, hw, hrd, Option.bind_some, ↓reduceIte, Bool.false_eq_true, reduceCtorEq, decide_eq_true_eq, Go.Proofs.YtkjlcbfjllpcnaaW.PrintWords.rd, rd_T32, rd_T34])
      refine Ev.bind1 (Depth_ev n y (by have := wt_mem (show y ∈ t.f2 by rw [e]; simp); omega) (by omega)) ?_
      rw [mx_nat]
      exact k
theorem Size_ev : ∀ (n : Nat) (t : S32), wt t < n → n < 1152921504606846976 → Ev (fun k => threshold_Size.f k t.f0 t.f1 t.f2) (siz t : Int)
  | 0, t, h, _ => absurd h (by omega)
  | n + 1, t, h, hn => by
    have hs := siz_le t
    have hw := h
    rw [wt_eq] at h
    have hl := len_wtL t.f2
    rw [siz_eq] at hs ⊢
    (refine Ev.shift ?_; simp only [threshold_Size.f, Option.bind_some, ↓reduceIte, Bool.false_eq_true, reduceCtorEq, decide_eq_true_eq, Go.Proofs.YtkjlcbfjllpcnaaW.PrintWords.rd, rd_T32, rd_T34])
    rw [show wrap64 ((t.f1.length : Int) + (t.f2.length : Int)) = ((t.f1.length + t.f2.length : Nat) : Int) by rw [w64 (by omega) (by omega)]; omega]
    refine Ev.fold (L := fun (c : Nat) i k => threshold_Size.l0 k (c : Int) t.f2 (t.f2.length : Int) i) (by omega) (fun pre ys c => c + sizL ys = t.f1.length + t.f2.length + sizL t.f2) ?_ ?_ (t.f1.length + t.f2.length) rfl
    · intro c i hI hi
      rw [sizL] at hI
      (refine Ev.shift ?_; simp only [threshold_Size.l0, hi, Option.bind_some, ↓reduceIte, Bool.false_eq_true, reduceCtorEq, decide_eq_true_eq, Go.Proofs.YtkjlcbfjllpcnaaW.PrintWords.rd, rd_T32, rd_T34])
      rw [← hI]
      exact Ev.now _
    · intro pre y ys c i e hI hi h0 hlt hw hrd
      rw [sizL] at hI
      refine Or.inl ⟨c + siz y, by omega, fun k => ?_⟩
      (refine Ev.shift ?_; simp only [threshold_Size.l0, h0, hlt, hw, hrd, Option.bind_some, ↓reduceIte, Bool.false_eq_true, reduceCtorEq, decide_eq_true_eq, Go.Proofs.YtkjlcbfjllpcnaaW.PrintWords.rd, rd_T32, rd_T34])
      refine Ev.bind1 (Size_ev n y (by have := wt_mem (show y ∈ t.f2 by rw [e]; simp); omega) (by omega)) ?_
      rw [show wrap64 ((c : Int) + (siz y : Int)) = ((c + siz y : Nat) : Int) by rw [w64 (by omega) (by omega)]; omega]
      exact k
theorem Of_ev (l : List Int) (hl : l.length < 1152921504606846976) : Ev (fun k => nodeset_Of.f k l) (((ofS 0 l).1 : Int), (ofS 0 l).2) := by
  refine Ev.congr (f := fun k => nodeset_Of.l0 k ((0 : Nat) : Int) l (l.length : Int) 0) (fun k => rfl) ?_
  refine Ev.fold (L := fun (c : Nat) i k => nodeset_Of.l0 k (c : Int) l (l.length : Int) i) (by omega) (fun pre ys c => ofS c ys = ofS 0 l ∧ c < 1024) ?_ ?_ 0 ⟨rfl, by decide⟩
  · rintro c i ⟨hI, hc⟩ hi
    (refine Ev.shift ?_; simp only [nodeset_Of.l0, hi, Option.bind_some, ↓reduceIte, Bool.false_eq_true, reduceCtorEq, decide_eq_true_eq, Go.Proofs.YtkjlcbfjllpcnaaW.PrintWords.rd, rd_T32, rd_T34])
    rw [← hI]
    exact Ev.now _
  · rintro pre y ys c i e ⟨hI, hc⟩ hi h0 hlt hw hrd
    rw [ofS] at hI
    cases hn : noNode y
    · have hb := noNode_not hn
      simp only [hn, Bool.false_eq_true, if_false] at hI
      cases hs : inS c y
      · refine Or.inl ⟨c ||| 2 ^ y.toNat, ⟨by simpa [hs] using hI, or_lt10 hc (two_lt10 (by omega))⟩, fun k => ?_⟩
        have h2 := two_lt10 (show y.toNat < 10 by omega)
        have e2 : Go.bits .or .i64 (c : Int) (shl .i64 1 y) = ((c ||| 2 ^ y.toNat : Nat) : Int) := by
          rw [show y = (y.toNat : Int) by omega, shl_nat (by omega), Int.toNat_natCast, or_nat (by omega) (by omega)]
        have h1 : ¬ y < 0 := by omega
        have h3 : decide (y ≥ 10) = false := by simp; omega
        (refine Ev.shift ?_; simp only [nodeset_Of.l0, h0, hlt, hw, hrd, h1, h3, Option.bind_some, ↓reduceIte, Bool.false_eq_true, reduceCtorEq, decide_eq_true_eq, Go.Proofs.YtkjlcbfjllpcnaaW.PrintWords.rd, rd_T32, rd_T34])
        (refine Ev.shift ?_; simp only [nodeset_Of.j1, Has_eq hc, hs, hb.1, hw, Option.bind_some, ↓reduceIte, Bool.false_eq_true, reduceCtorEq, decide_eq_true_eq, Go.Proofs.YtkjlcbfjllpcnaaW.PrintWords.rd, rd_T32, rd_T34])
        rw [e2]
        exact k
      · refine Or.inr ?_
        simp only [hs, if_true] at hI
        have h1 : ¬ y < 0 := by omega
        have h3 : decide (y ≥ 10) = false := by simp; omega
        (refine Ev.shift ?_; simp only [nodeset_Of.l0, h0, hlt, hw, hrd, h1, h3, Option.bind_some, ↓reduceIte, Bool.false_eq_true, reduceCtorEq, decide_eq_true_eq, Go.Proofs.YtkjlcbfjllpcnaaW.PrintWords.rd, rd_T32, rd_T34])
        (refine Ev.shift ?_; simp only [nodeset_Of.j1, Has_eq hc, hs, Option.bind_some, ↓reduceIte, Bool.false_eq_true, reduceCtorEq, decide_eq_true_eq, Go.Proofs.YtkjlcbfjllpcnaaW.PrintWords.rd, rd_T32, rd_T34])
        rw [← hI]
        exact Ev.now _
    · refine Or.inr ?_
      simp only [hn, if_true] at hI
      rw [← hI]
      by_cases h1 : y < 0
      · (refine Ev.shift ?_; simp only [nodeset_Of.l0, h0, hlt, hw, hrd, h1, Option.bind_some, ↓reduceIte, Bool.false_eq_true, reduceCtorEq, decide_eq_true_eq, Go.Proofs.YtkjlcbfjllpcnaaW.PrintWords.rd, rd_T32, rd_T34])
        (refine Ev.shift ?_; simp only [nodeset_Of.j1, Option.bind_some, ↓reduceIte, Bool.false_eq_true, reduceCtorEq, decide_eq_true_eq, Go.Proofs.YtkjlcbfjllpcnaaW.PrintWords.rd, rd_T32, rd_T34])
        exact Ev.now _
      · have h3 : decide (y ≥ 10) = true := by simp [noNode] at hn ⊢; omega
        (refine Ev.shift ?_; simp only [nodeset_Of.l0, h0, hlt, hw, hrd, h1, h3, Option.bind_some, ↓reduceIte, Bool.false_eq_true, reduceCtorEq, decide_eq_true_eq, Go.Proofs.YtkjlcbfjllpcnaaW.PrintWords.rd, rd_T32, rd_T34])
        (refine Ev.shift ?_; simp only [nodeset_Of.j1, Option.bind_some, ↓reduceIte, Bool.false_eq_true, reduceCtorEq, decide_eq_true_eq, Go.Proofs.YtkjlcbfjllpcnaaW.PrintWords.rd, rd_T32, rd_T34])
        exact Ev.now _
theorem Uses_ev : ∀ (n : Nat) (t : S32), wt t < n → n < 1152921504606846976 → Ev (fun k => threshold_Uses.f k t.f0 t.f1 t.f2) (uses t : Int)
  | 0, t, h, _ => absurd h (by omega)
  | n + 1, t, h, hn => by
    rw [wt_eq] at h
    have hl := len_wtL t.f2
    have hU := uses_lt t
    rw [uses_eq] at hU ⊢
    generalize hT : (t.f1.foldl (fun a x => if noNode x = true then a else a ||| 2 ^ x.toNat) 0 ||| useL t.f2) = T at hU
    have l1 : ∀ c, c < 1024 → c ||| useL t.f2 = T → Ev (fun k => threshold_Uses.l1 k (c : Int) t.f2 (t.f2.length : Int) 0) (T : Int) := by
      intro c hc hcT
      refine Ev.fold (L := fun (c : Nat) i k => threshold_Uses.l1 k (c : Int) t.f2 (t.f2.length : Int) i) (by omega) (fun pre ys c => c ||| useL ys = T ∧ c < 1024) ?_ ?_ c ⟨hcT, hc⟩
      · rintro c i ⟨hI, hc⟩ hi
        rw [useL, Nat.or_zero] at hI
        (refine Ev.shift ?_; simp only [threshold_Uses.l1, hi, Option.bind_some, ↓reduceIte, Bool.false_eq_true, reduceCtorEq, decide_eq_true_eq, Go.Proofs.YtkjlcbfjllpcnaaW.PrintWords.rd, rd_T32, rd_T34])
        rw [← hI]
        exact Ev.now _
      · rintro pre y ys c i e ⟨hI, hc⟩ hi h0 hlt hw hrd
        rw [useL] at hI
        refine Or.inl ⟨c ||| uses y, ⟨by rw [Nat.or_assoc]; exact hI, or_lt10 hc (uses_lt y)⟩, fun k => ?_⟩
        (refine Ev.shift ?_; simp only [threshold_Uses.l1, h0, hlt, hw, hrd, Option.bind_some, ↓reduceIte, Bool.false_eq_true, reduceCtorEq, decide_eq_true_eq, Go.Proofs.YtkjlcbfjllpcnaaW.PrintWords.rd, rd_T32, rd_T34])
        refine Ev.bind1 (Uses_ev n y (by have := wt_mem (show y ∈ t.f2 by rw [e]; simp); omega) (by omega)) ?_
        have := uses_lt y
        rw [or_nat (by omega) (by omega)]
        exact k
    (refine Ev.shift ?_; simp only [threshold_Uses.f, Option.bind_some, ↓reduceIte, Bool.false_eq_true, reduceCtorEq, decide_eq_true_eq, Go.Proofs.YtkjlcbfjllpcnaaW.PrintWords.rd, rd_T32, rd_T34])
    refine Ev.fold (L := fun (c : Nat) i k => threshold_Uses.l0 k (c : Int) t.f1 (t.f1.length : Int) i t.f0 t.f1 t.f2) (by omega) (fun pre ys c => (ys.foldl (fun a x => if noNode x = true then a else a ||| 2 ^ x.toNat) c) ||| useL t.f2 = T ∧ c < 1024) ?_ ?_ 0 ⟨hT, by decide⟩
    · rintro c i ⟨hI, hc⟩ hi
      (refine Ev.shift ?_; simp only [threshold_Uses.l0, hi, Option.bind_some, ↓reduceIte, Bool.false_eq_true, reduceCtorEq, decide_eq_true_eq, Go.Proofs.YtkjlcbfjllpcnaaW.PrintWords.rd, rd_T32, rd_T34])
      exact l1 c hc hI
    · rintro pre y ys c i e ⟨hI, hc⟩ hi h0 hlt hw hrd
      rw [List.foldl_cons] at hI
      cases hn : noNode y
      · have hb := noNode_not hn
        have h2 := two_lt10 (show y.toNat < 10 by omega)
        refine Or.inl ⟨c ||| 2 ^ y.toNat, ⟨by simpa [hn] using hI, or_lt10 hc h2⟩, fun k => ?_⟩
        have e2 : Go.bits .or .i64 (c : Int) (shl .i64 1 y) = ((c ||| 2 ^ y.toNat : Nat) : Int) := by
          rw [show y = (y.toNat : Int) by omega, shl_nat (by omega), Int.toNat_natCast, or_nat (by omega) (by omega)]
        have h3 : y ≥ 0 := by omega
        have h4 : y < 10 := by omega
        (refine Ev.shift ?_; simp only [threshold_Uses.l0, threshold_node.f, h0, hlt, hw, hrd, h3, h4, decide_true, hb.1, Option.bind_some, ↓reduceIte, Bool.false_eq_true, reduceCtorEq, decide_eq_true_eq, Go.Proofs.YtkjlcbfjllpcnaaW.PrintWords.rd, rd_T32, rd_T34])
        rw [e2]
        exact k
      · refine Or.inl ⟨c, ⟨by simpa [hn] using hI, hc⟩, fun k => ?_⟩
        by_cases h3 : y ≥ 0
        · have h4 : ¬ y < 10 := by simp [noNode] at hn; omega
          (refine Ev.shift ?_; simp only [threshold_Uses.l0, threshold_node.f, h0, hlt, hw, hrd, h3, h4, decide_false, Option.bind_some, ↓reduceIte, Bool.false_eq_true, reduceCtorEq, decide_eq_true_eq, Go.Proofs.YtkjlcbfjllpcnaaW.PrintWords.rd, rd_T32, rd_T34])
          exact k
        · (refine Ev.shift ?_; simp only [threshold_Uses.l0, threshold_node.f, h0, hlt, hw, hrd, h3, Option.bind_some, ↓reduceIte, Bool.false_eq_true, reduceCtorEq, decide_eq_true_eq, Go.Proofs.YtkjlcbfjllpcnaaW.PrintWords.rd, rd_T32, rd_T34])
          exact k
theorem level_ev : ∀ (n : Nat) (t : S32), wt t < n → n < 1152921504606846976 → Ev (fun k => threshold_level.f k t.f0 t.f1 t.f2) (chk t)
  | 0, t, h, _ => absurd h (by omega)
  | n + 1, t, h, hn => by
    rw [wt_eq] at h
    have hl := len_wtL t.f2
    rw [chk_eq]
    have el : wrap64 ((t.f1.length : Int) + (t.f2.length : Int)) = ((t.f1.length + t.f2.length : Nat) : Int) := by rw [w64 (by omega) (by omega)]; omega
    by_cases h1 : t.f0 < 1
    · (refine Ev.shift ?_; simp only [threshold_level.f, h1, true_or, Option.bind_some, ↓reduceIte, Bool.false_eq_true, reduceCtorEq, decide_eq_true_eq, Go.Proofs.YtkjlcbfjllpcnaaW.PrintWords.rd, rd_T32, rd_T34])
      (refine Ev.shift ?_; simp only [threshold_level.j0, Option.bind_some, ↓reduceIte, Bool.false_eq_true, reduceCtorEq, decide_eq_true_eq, Go.Proofs.YtkjlcbfjllpcnaaW.PrintWords.rd, rd_T32, rd_T34])
      exact Ev.now _
    by_cases h2 : t.f0 > ((t.f1.length + t.f2.length : Nat) : Int)
    · (refine Ev.shift ?_; simp only [threshold_level.f, h1, h2, el, or_true, decide_true, Option.bind_some, ↓reduceIte, Bool.false_eq_true, reduceCtorEq, decide_eq_true_eq, Go.Proofs.YtkjlcbfjllpcnaaW.PrintWords.rd, rd_T32, rd_T34])
      (refine Ev.shift ?_; simp only [threshold_level.j0, Option.bind_some, ↓reduceIte, Bool.false_eq_true, reduceCtorEq, decide_eq_true_eq, Go.Proofs.YtkjlcbfjllpcnaaW.PrintWords.rd, rd_T32, rd_T34])
      exact Ev.now _
    (refine Ev.shift ?_; simp only [threshold_level.f, h1, h2, el, or_false, decide_false, Option.bind_some, ↓reduceIte, Bool.false_eq_true, reduceCtorEq, decide_eq_true_eq, Go.Proofs.YtkjlcbfjllpcnaaW.PrintWords.rd, rd_T32, rd_T34])
    (refine Ev.shift ?_; simp only [threshold_level.j0, containsFunc_level.f, Option.bind_some, ↓reduceIte, Bool.false_eq_true, reduceCtorEq, decide_eq_true_eq, Go.Proofs.YtkjlcbfjllpcnaaW.PrintWords.rd, rd_T32, rd_T34])
    cases hn : t.f1.any noNode
    · simp only [Bool.false_eq_true, if_false]
      refine Ev.bind1 (Of_ev t.f1 (by omega)) ?_
      by_cases h3 : (ofS 0 t.f1).2 = 0
      · simp only [h3, if_true]
        refine Ev.fold (L := fun (c : Unit) i k => threshold_level.l0 k t.f2 (t.f2.length : Int) i) (by omega) (fun pre ys c => chkL ys = chkL t.f2) ?_ ?_ () rfl
        · intro c i hI hi
          rw [chkL] at hI
          (refine Ev.shift ?_; simp only [threshold_level.l0, hi, Option.bind_some, ↓reduceIte, Bool.false_eq_true, reduceCtorEq, decide_eq_true_eq, Go.Proofs.YtkjlcbfjllpcnaaW.PrintWords.rd, rd_T32, rd_T34])
          rw [← hI]
          exact Ev.now _
        · intro pre y ys c i e hI hi h0 hlt hw hrd
          rw [chkL] at hI
          have hy := level_ev n y (by have := wt_mem (show y ∈ t.f2 by rw [e]; simp); omega) (by omega)
          by_cases h4 : chk y = 0
          · refine Or.inl ⟨(), by rw [← hI, if_pos h4], fun k => ?_⟩
            (refine Ev.shift ?_; simp only [threshold_level.l0, h0, hlt, hw, hrd, Option.bind_some, ↓reduceIte, Bool.false_eq_true, reduceCtorEq, decide_eq_true_eq, Go.Proofs.YtkjlcbfjllpcnaaW.PrintWords.rd, rd_T32, rd_T34])
            refine Ev.bind1 hy ?_
            simp only [h4, if_true]
            exact k
          · refine Or.inr ?_
            rw [← hI, if_neg h4]
            (refine Ev.shift ?_; simp only [threshold_level.l0, h0, hlt, hw, hrd, Option.bind_some, ↓reduceIte, Bool.false_eq_true, reduceCtorEq, decide_eq_true_eq, Go.Proofs.YtkjlcbfjllpcnaaW.PrintWords.rd, rd_T32, rd_T34])
            refine Ev.bind1 hy ?_
            simp only [h4, if_false]
            exact Ev.now _
      · simp only [h3, if_false]
        exact Ev.now _
    · simp only [if_true]
      exact Ev.now _
theorem Valid_ev (t : S32) (h : wt t < 1000000) : Ev (fun k => threshold_Valid.f k t.f0 t.f1 t.f2) (validT t) := by
  simp only [threshold_Valid.f, validT, Option.bind_some, ↓reduceIte, Bool.false_eq_true, reduceCtorEq, decide_eq_true_eq, Go.Proofs.YtkjlcbfjllpcnaaW.PrintWords.rd, rd_T32, rd_T34]
  refine Ev.bind1 (Depth_ev 1000000 t h (by decide)) ?_
  by_cases h1 : dep t > 4
  · have : (dep t : Int) > 4 := by omega
    simp only [h1, this, Option.bind_some, ↓reduceIte, Bool.false_eq_true, reduceCtorEq, decide_eq_true_eq, Go.Proofs.YtkjlcbfjllpcnaaW.PrintWords.rd, rd_T32, rd_T34]
    exact Ev.now _
  have h2 : ¬ (dep t : Int) > 4 := by omega
  simp only [h1, h2, Option.bind_some, ↓reduceIte, Bool.false_eq_true, reduceCtorEq, decide_eq_true_eq, Go.Proofs.YtkjlcbfjllpcnaaW.PrintWords.rd, rd_T32, rd_T34]
  refine Ev.bind1 (Size_ev 1000000 t h (by decide)) ?_
  by_cases h3 : siz t > 200
  · have : (siz t : Int) > 200 := by omega
    simp only [h3, this, Option.bind_some, ↓reduceIte, Bool.false_eq_true, reduceCtorEq, decide_eq_true_eq, Go.Proofs.YtkjlcbfjllpcnaaW.PrintWords.rd, rd_T32, rd_T34]
    exact Ev.now _
  have h4 : ¬ (siz t : Int) > 200 := by omega
  simp only [h3, h4, Option.bind_some, ↓reduceIte, Bool.false_eq_true, reduceCtorEq, decide_eq_true_eq, Go.Proofs.YtkjlcbfjllpcnaaW.PrintWords.rd, rd_T32, rd_T34]
  refine Ev.bind1 (level_ev 1000000 t h (by decide)) ?_
  exact Ev.now _
theorem ref_Depth_ev : ∀ (n : Nat) (t : S32), wt t < n → n < 1152921504606846976 → Ev (fun k => trustquorumref02_Depth.f k t.f0 t.f1 t.f2) (dep t : Int)
  | 0, t, h, _ => absurd h (by omega)
  | n + 1, t, h, hn => by
    rw [wt_eq] at h
    have hl := len_wtL t.f2
    have hd := depL_le t.f2
    rw [dep_eq]
    (refine Ev.shift ?_; simp only [trustquorumref02_Depth.f, Option.bind_some, ↓reduceIte, Bool.false_eq_true, reduceCtorEq, decide_eq_true_eq, Go.Proofs.YtkjlcbfjllpcnaaW.PrintWords.rd, rd_T32, rd_T34])
    refine Ev.fold (xs := t.f2) (L := fun (c : Nat) i k => trustquorumref02_Depth.l0 k (c : Int) t.f2 (t.f2.length : Int) i) (by omega) (fun pre ys c => max c (depL ys) = depL t.f2) ?_ ?_ 0 (by omega)
    · intro c i hI hi
      rw [depL] at hI
      (refine Ev.shift ?_; simp only [trustquorumref02_Depth.l0, hi, Option.bind_some, ↓reduceIte, Bool.false_eq_true, reduceCtorEq, decide_eq_true_eq, Go.Proofs.YtkjlcbfjllpcnaaW.PrintWords.rd, rd_T32, rd_T34])
      rw [show wrap64 ((c : Int) + 1) = ((depL t.f2 + 1 : Nat) : Int) by rw [w64 (by omega) (by omega)]; omega]
      exact Ev.now _
    · intro pre y ys c i e hI hi h0 hlt hw hrd
      rw [depL] at hI
      refine Or.inl ⟨max c (dep y), by omega, fun k => ?_⟩
      (refine Ev.shift ?_; simp only [trustquorumref02_Depth.l0, h0, hlt, hw, hrd, Option.bind_some, ↓reduceIte, Bool.false_eq_true, reduceCtorEq, decide_eq_true_eq, Go.Proofs.YtkjlcbfjllpcnaaW.PrintWords.rd, rd_T32, rd_T34])
      refine Ev.bind1 (ref_Depth_ev n y (by have := wt_mem (show y ∈ t.f2 by rw [e]; simp); omega) (by omega)) ?_
      rw [mx_nat]
      exact k
theorem ref_Size_ev : ∀ (n : Nat) (t : S32), wt t < n → n < 1152921504606846976 → Ev (fun k => trustquorumref02_Size.f k t.f0 t.f1 t.f2) (siz t : Int)
  | 0, t, h, _ => absurd h (by omega)
  | n + 1, t, h, hn => by
    have hs := siz_le t
    have hw := h
    rw [wt_eq] at h
    have hl := len_wtL t.f2
    rw [siz_eq] at hs ⊢
    (refine Ev.shift ?_; simp only [trustquorumref02_Size.f, Option.bind_some, ↓reduceIte, Bool.false_eq_true, reduceCtorEq, decide_eq_true_eq, Go.Proofs.YtkjlcbfjllpcnaaW.PrintWords.rd, rd_T32, rd_T34])
    rw [show wrap64 ((t.f1.length : Int) + (t.f2.length : Int)) = ((t.f1.length + t.f2.length : Nat) : Int) by rw [w64 (by omega) (by omega)]; omega]
    refine Ev.fold (L := fun (c : Nat) i k => trustquorumref02_Size.l0 k (c : Int) t.f2 (t.f2.length : Int) i) (by omega) (fun pre ys c => c + sizL ys = t.f1.length + t.f2.length + sizL t.f2) ?_ ?_ (t.f1.length + t.f2.length) rfl
    · intro c i hI hi
      rw [sizL] at hI
      (refine Ev.shift ?_; simp only [trustquorumref02_Size.l0, hi, Option.bind_some, ↓reduceIte, Bool.false_eq_true, reduceCtorEq, decide_eq_true_eq, Go.Proofs.YtkjlcbfjllpcnaaW.PrintWords.rd, rd_T32, rd_T34])
      rw [← hI]
      exact Ev.now _
    · intro pre y ys c i e hI hi h0 hlt hw hrd
      rw [sizL] at hI
      refine Or.inl ⟨c + siz y, by omega, fun k => ?_⟩
      (refine Ev.shift ?_; simp only [trustquorumref02_Size.l0, h0, hlt, hw, hrd, Option.bind_some, ↓reduceIte, Bool.false_eq_true, reduceCtorEq, decide_eq_true_eq, Go.Proofs.YtkjlcbfjllpcnaaW.PrintWords.rd, rd_T32, rd_T34])
      refine Ev.bind1 (ref_Size_ev n y (by have := wt_mem (show y ∈ t.f2 by rw [e]; simp); omega) (by omega)) ?_
      rw [show wrap64 ((c : Int) + (siz y : Int)) = ((c + siz y : Nat) : Int) by rw [w64 (by omega) (by omega)]; omega]
      exact k
theorem ref_Of_ev (l : List Int) (hl : l.length < 1152921504606846976) : Ev (fun k => trustquorumref01_Of.f k l) (((ofS 0 l).1 : Int), (ofS 0 l).2) := by
  refine Ev.congr (f := fun k => trustquorumref01_Of.l0 k ((0 : Nat) : Int) l (l.length : Int) 0) (fun k => rfl) ?_
  refine Ev.fold (L := fun (c : Nat) i k => trustquorumref01_Of.l0 k (c : Int) l (l.length : Int) i) (by omega) (fun pre ys c => ofS c ys = ofS 0 l ∧ c < 1024) ?_ ?_ 0 ⟨rfl, by decide⟩
  · rintro c i ⟨hI, hc⟩ hi
    (refine Ev.shift ?_; simp only [trustquorumref01_Of.l0, hi, Option.bind_some, ↓reduceIte, Bool.false_eq_true, reduceCtorEq, decide_eq_true_eq, Go.Proofs.YtkjlcbfjllpcnaaW.PrintWords.rd, rd_T32, rd_T34])
    rw [← hI]
    exact Ev.now _
  · rintro pre y ys c i e ⟨hI, hc⟩ hi h0 hlt hw hrd
    rw [ofS] at hI
    cases hn : noNode y
    · have hb := noNode_not hn
      simp only [hn, Bool.false_eq_true, if_false] at hI
      cases hs : inS c y
      · refine Or.inl ⟨c ||| 2 ^ y.toNat, ⟨by simpa [hs] using hI, or_lt10 hc (two_lt10 (by omega))⟩, fun k => ?_⟩
        have h2 := two_lt10 (show y.toNat < 10 by omega)
        have e2 : Go.bits .or .i64 (c : Int) (shl .i64 1 y) = ((c ||| 2 ^ y.toNat : Nat) : Int) := by
          rw [show y = (y.toNat : Int) by omega, shl_nat (by omega), Int.toNat_natCast, or_nat (by omega) (by omega)]
        have h1 : ¬ y < 0 := by omega
        have h3 : decide (y ≥ 10) = false := by simp; omega
        (refine Ev.shift ?_; simp only [trustquorumref01_Of.l0, h0, hlt, hw, hrd, h1, h3, Option.bind_some, ↓reduceIte, Bool.false_eq_true, reduceCtorEq, decide_eq_true_eq, Go.Proofs.YtkjlcbfjllpcnaaW.PrintWords.rd, rd_T32, rd_T34])
        (refine Ev.shift ?_; simp only [trustquorumref01_Of.j1, ref01_Has_eq hc, hs, hb.1, hw, Option.bind_some, ↓reduceIte, Bool.false_eq_true, reduceCtorEq, decide_eq_true_eq, Go.Proofs.YtkjlcbfjllpcnaaW.PrintWords.rd, rd_T32, rd_T34])
        rw [e2]
        exact k
      · refine Or.inr ?_
        simp only [hs, if_true] at hI
        have h1 : ¬ y < 0 := by omega
        have h3 : decide (y ≥ 10) = false := by simp; omega
        (refine Ev.shift ?_; simp only [trustquorumref01_Of.l0, h0, hlt, hw, hrd, h1, h3, Option.bind_some, ↓reduceIte, Bool.false_eq_true, reduceCtorEq, decide_eq_true_eq, Go.Proofs.YtkjlcbfjllpcnaaW.PrintWords.rd, rd_T32, rd_T34])
        (refine Ev.shift ?_; simp only [trustquorumref01_Of.j1, ref01_Has_eq hc, hs, Option.bind_some, ↓reduceIte, Bool.false_eq_true, reduceCtorEq, decide_eq_true_eq, Go.Proofs.YtkjlcbfjllpcnaaW.PrintWords.rd, rd_T32, rd_T34])
        rw [← hI]
        exact Ev.now _
    · refine Or.inr ?_
      simp only [hn, if_true] at hI
      rw [← hI]
      by_cases h1 : y < 0
      · (refine Ev.shift ?_; simp only [trustquorumref01_Of.l0, h0, hlt, hw, hrd, h1, Option.bind_some, ↓reduceIte, Bool.false_eq_true, reduceCtorEq, decide_eq_true_eq, Go.Proofs.YtkjlcbfjllpcnaaW.PrintWords.rd, rd_T32, rd_T34])
        (refine Ev.shift ?_; simp only [trustquorumref01_Of.j1, Option.bind_some, ↓reduceIte, Bool.false_eq_true, reduceCtorEq, decide_eq_true_eq, Go.Proofs.YtkjlcbfjllpcnaaW.PrintWords.rd, rd_T32, rd_T34])
        exact Ev.now _
      · have h3 : decide (y ≥ 10) = true := by simp [noNode] at hn ⊢; omega
        (refine Ev.shift ?_; simp only [trustquorumref01_Of.l0, h0, hlt, hw, hrd, h1, h3, Option.bind_some, ↓reduceIte, Bool.false_eq_true, reduceCtorEq, decide_eq_true_eq, Go.Proofs.YtkjlcbfjllpcnaaW.PrintWords.rd, rd_T32, rd_T34])
        (refine Ev.shift ?_; simp only [trustquorumref01_Of.j1, Option.bind_some, ↓reduceIte, Bool.false_eq_true, reduceCtorEq, decide_eq_true_eq, Go.Proofs.YtkjlcbfjllpcnaaW.PrintWords.rd, rd_T32, rd_T34])
        exact Ev.now _
theorem ref_level_ev : ∀ (n : Nat) (t : S32), wt t < n → n < 1152921504606846976 → Ev (fun k => trustquorumref02_check.f k t.f0 t.f1 t.f2) (chk t)
  | 0, t, h, _ => absurd h (by omega)
  | n + 1, t, h, hn => by
    rw [wt_eq] at h
    have hl := len_wtL t.f2
    rw [chk_eq]
    have el : wrap64 ((t.f1.length : Int) + (t.f2.length : Int)) = ((t.f1.length + t.f2.length : Nat) : Int) := by rw [w64 (by omega) (by omega)]; omega
    by_cases h1 : t.f0 < 1
    · (refine Ev.shift ?_; simp only [trustquorumref02_check.f, h1, true_or, Option.bind_some, ↓reduceIte, Bool.false_eq_true, reduceCtorEq, decide_eq_true_eq, Go.Proofs.YtkjlcbfjllpcnaaW.PrintWords.rd, rd_T32, rd_T34])
      (refine Ev.shift ?_; simp only [trustquorumref02_check.j0, Option.bind_some, ↓reduceIte, Bool.false_eq_true, reduceCtorEq, decide_eq_true_eq, Go.Proofs.YtkjlcbfjllpcnaaW.PrintWords.rd, rd_T32, rd_T34])
      exact Ev.now _
    by_cases h2 : t.f0 > ((t.f1.length + t.f2.length : Nat) : Int)
    · (refine Ev.shift ?_; simp only [trustquorumref02_check.f, h1, h2, el, or_true, decide_true, Option.bind_some, ↓reduceIte, Bool.false_eq_true, reduceCtorEq, decide_eq_true_eq, Go.Proofs.YtkjlcbfjllpcnaaW.PrintWords.rd, rd_T32, rd_T34])
      (refine Ev.shift ?_; simp only [trustquorumref02_check.j0, Option.bind_some, ↓reduceIte, Bool.false_eq_true, reduceCtorEq, decide_eq_true_eq, Go.Proofs.YtkjlcbfjllpcnaaW.PrintWords.rd, rd_T32, rd_T34])
      exact Ev.now _
    (refine Ev.shift ?_; simp only [trustquorumref02_check.f, h1, h2, el, or_false, decide_false, Option.bind_some, ↓reduceIte, Bool.false_eq_true, reduceCtorEq, decide_eq_true_eq, Go.Proofs.YtkjlcbfjllpcnaaW.PrintWords.rd, rd_T32, rd_T34])
    (refine Ev.shift ?_; simp only [trustquorumref02_check.j0, Option.bind_some, ↓reduceIte, Bool.false_eq_true, reduceCtorEq, decide_eq_true_eq, Go.Proofs.YtkjlcbfjllpcnaaW.PrintWords.rd, rd_T32, rd_T34])
    have l1 : Ev (fun k => trustquorumref02_check.l1 k t.f2 (t.f2.length : Int) 0) (chkL t.f2) := by
        refine Ev.fold (L := fun (c : Unit) i k => trustquorumref02_check.l1 k t.f2 (t.f2.length : Int) i) (by omega) (fun pre ys c => chkL ys = chkL t.f2) ?_ ?_ () rfl
        · intro c i hI hi
          rw [chkL] at hI
          (refine Ev.shift ?_; simp only [trustquorumref02_check.l1, hi, Option.bind_some, ↓reduceIte, Bool.false_eq_true, reduceCtorEq, decide_eq_true_eq, Go.Proofs.YtkjlcbfjllpcnaaW.PrintWords.rd, rd_T32, rd_T34])
          rw [← hI]
          exact Ev.now _
        · intro pre y ys c i e hI hi h0 hlt hw hrd
          rw [chkL] at hI
          have hy := ref_level_ev n y (by have := wt_mem (show y ∈ t.f2 by rw [e]; simp); omega) (by omega)
          by_cases h4 : chk y = 0
          · refine Or.inl ⟨(), by rw [← hI, if_pos h4], fun k => ?_⟩
            (refine Ev.shift ?_; simp only [trustquorumref02_check.l1, h0, hlt, hw, hrd, Option.bind_some, ↓reduceIte, Bool.false_eq_true, reduceCtorEq, decide_eq_true_eq, Go.Proofs.YtkjlcbfjllpcnaaW.PrintWords.rd, rd_T32, rd_T34])
            refine Ev.bind1 hy ?_
            simp only [h4, if_true]
            exact k
          · refine Or.inr ?_
            rw [← hI, if_neg h4]
            (refine Ev.shift ?_; simp only [trustquorumref02_check.l1, h0, hlt, hw, hrd, Option.bind_some, ↓reduceIte, Bool.false_eq_true, reduceCtorEq, decide_eq_true_eq, Go.Proofs.YtkjlcbfjllpcnaaW.PrintWords.rd, rd_T32, rd_T34])
            refine Ev.bind1 hy ?_
            simp only [h4, if_false]
            exact Ev.now _
    generalize hT : (if (t.f1.any noNode) = true then 5 else if (ofS 0 t.f1).2 = 0 then chkL t.f2 else (ofS 0 t.f1).2) = T
    refine Ev.fold (L := fun (c : Unit) i k => trustquorumref02_check.l0 k t.f1 (t.f1.length : Int) i t.f0 t.f1 t.f2) (by omega) (fun pre ys c => (if (ys.any noNode) = true then 5 else if (ofS 0 t.f1).2 = 0 then chkL t.f2 else (ofS 0 t.f1).2) = T) ?_ ?_ () hT
    · intro c i hI hi
      simp only [List.any_nil, Bool.false_eq_true, if_false] at hI
      (refine Ev.shift ?_; simp only [trustquorumref02_check.l0, hi, Option.bind_some, ↓reduceIte, Bool.false_eq_true, reduceCtorEq, decide_eq_true_eq, Go.Proofs.YtkjlcbfjllpcnaaW.PrintWords.rd, rd_T32, rd_T34])
      refine Ev.bind1 (ref_Of_ev t.f1 (by omega)) ?_
      rw [← hI]
      by_cases h3 : (ofS 0 t.f1).2 = 0
      · simp only [h3, if_true]
        exact l1
      · simp only [h3, if_false]
        exact Ev.now _
    · intro pre y ys c i e hI hi h0 hlt hw hrd
      rw [List.any_cons] at hI
      cases hn : noNode y
      · have hb := noNode_not hn
        have h3 : ¬ y < 0 := by omega
        have h4 : ¬ y ≥ 10 := by omega
        refine Or.inl ⟨(), by simpa [hn] using hI, fun k => ?_⟩
        (refine Ev.shift ?_; simp only [trustquorumref02_check.l0, h0, hlt, hw, hrd, h3, h4, Option.bind_some, ↓reduceIte, Bool.false_eq_true, reduceCtorEq, decide_eq_true_eq, Go.Proofs.YtkjlcbfjllpcnaaW.PrintWords.rd, rd_T32, rd_T34])
        exact k
      · refine Or.inr ?_
        simp only [hn, Bool.true_or, if_true] at hI
        rw [← hI]
        by_cases h3 : y < 0
        · (refine Ev.shift ?_; simp only [trustquorumref02_check.l0, h0, hlt, hw, hrd, h3, Option.bind_some, ↓reduceIte, Bool.false_eq_true, reduceCtorEq, decide_eq_true_eq, Go.Proofs.YtkjlcbfjllpcnaaW.PrintWords.rd, rd_T32, rd_T34])
          exact Ev.now _
        · have h4 : y ≥ 10 := by simp [noNode] at hn; omega
          (refine Ev.shift ?_; simp only [trustquorumref02_check.l0, h0, hlt, hw, hrd, h3, h4, Option.bind_some, ↓reduceIte, Bool.false_eq_true, reduceCtorEq, decide_eq_true_eq, Go.Proofs.YtkjlcbfjllpcnaaW.PrintWords.rd, rd_T32, rd_T34])
          exact Ev.now _
theorem ref_Valid_ev (t : S32) (h : wt t < 1000000) : Ev (fun k => trustquorumref02_Valid.f k t.f0 t.f1 t.f2) (validT t) := by
  simp only [trustquorumref02_Valid.f, validT, Option.bind_some, ↓reduceIte, Bool.false_eq_true, reduceCtorEq, decide_eq_true_eq, Go.Proofs.YtkjlcbfjllpcnaaW.PrintWords.rd, rd_T32, rd_T34]
  refine Ev.bind1 (ref_Depth_ev 1000000 t h (by decide)) ?_
  by_cases h1 : dep t > 4
  · have : (dep t : Int) > 4 := by omega
    simp only [h1, this, Option.bind_some, ↓reduceIte, Bool.false_eq_true, reduceCtorEq, decide_eq_true_eq, Go.Proofs.YtkjlcbfjllpcnaaW.PrintWords.rd, rd_T32, rd_T34]
    exact Ev.now _
  have h2 : ¬ (dep t : Int) > 4 := by omega
  simp only [h1, h2, Option.bind_some, ↓reduceIte, Bool.false_eq_true, reduceCtorEq, decide_eq_true_eq, Go.Proofs.YtkjlcbfjllpcnaaW.PrintWords.rd, rd_T32, rd_T34]
  refine Ev.bind1 (ref_Size_ev 1000000 t h (by decide)) ?_
  by_cases h3 : siz t > 200
  · have : (siz t : Int) > 200 := by omega
    simp only [h3, this, Option.bind_some, ↓reduceIte, Bool.false_eq_true, reduceCtorEq, decide_eq_true_eq, Go.Proofs.YtkjlcbfjllpcnaaW.PrintWords.rd, rd_T32, rd_T34]
    exact Ev.now _
  have h4 : ¬ (siz t : Int) > 200 := by omega
  simp only [h3, h4, Option.bind_some, ↓reduceIte, Bool.false_eq_true, reduceCtorEq, decide_eq_true_eq, Go.Proofs.YtkjlcbfjllpcnaaW.PrintWords.rd, rd_T32, rd_T34]
  refine Ev.bind1 (ref_level_ev 1000000 t h (by decide)) ?_
  exact Ev.now _
end Go.Proofs.Ytkjlcbfjllpcnaa.X
namespace Go.Proofs.Ytkjlcbfjllpcnaa.X
open Go.RowKit Go.Proofs.YtkjlcbfjllpcnaaW.PrintWords Go.Proofs.YtkjlcbfjllpcnaaW.PrintLast Go.Proofs.YtkjlcbfjllpcnaaW.PrintMore
attribute [local go_sem] max2_int min2_int max_two min_two max_three min_three max_four min_four
set_option linter.unusedVariables false
set_option linter.unusedSimpArgs false
end Go.Proofs.Ytkjlcbfjllpcnaa.X
namespace Go.Proofs.Ytkjlcbfjllpcnaa.X
open Go.RowKit Go.Proofs.YtkjlcbfjllpcnaaW.PrintWords Go.Proofs.YtkjlcbfjllpcnaaW.PrintLast Go.Proofs.YtkjlcbfjllpcnaaW.PrintMore
set_option linter.unusedVariables false
def EvP {α : Type} (g : Nat → Option α) (P : α → Prop) : Prop := ∃ r, P r ∧ Ev g r
theorem EvP.now {α : Type} {P : α → Prop} {r : α} (h : P r) : EvP (fun _ => some r) P := ⟨r, h, Ev.now r⟩
theorem EvP.shift {α : Type} {g : Nat → Option α} {P : α → Prop} (h : EvP (fun k => g (k + 1)) P) : EvP g P := by
  obtain ⟨r, h1, h2⟩ := h
  exact ⟨r, h1, Ev.shift h2⟩
theorem EvP.bind {α β : Type} {g : Nat → Option α} {f : Nat → α → Option β} {P : α → Prop} {Q : β → Prop} (h : EvP g P) (k : ∀ a, P a → EvP (fun n => f n a) Q) : EvP (fun n => (g n).bind (f n)) Q := by
  obtain ⟨a, h1, h2⟩ := h
  obtain ⟨r, k1, k2⟩ := k a h1
  exact ⟨r, k1, Ev.bind h2 k2⟩
theorem EvP.imp {α : Type} {g : Nat → Option α} {P Q : α → Prop} (h : EvP g P) (k : ∀ a, P a → Q a) : EvP g Q := by
  obtain ⟨r, h1, h2⟩ := h
  exact ⟨r, k r h1, h2⟩
theorem EvP.ofEv {α : Type} {g : Nat → Option α} {r : α} (h : Ev g r) : EvP g (fun x => x = r) := ⟨r, rfl, h⟩
theorem EvP.loop {σ ρ : Type} {L : σ → Nat → Option ρ} {Q : ρ → Prop} (I : σ → Prop) (m : σ → Nat)
    (hstep : ∀ c, I c → (∀ c', I c' → m c' < m c → EvP (L c') Q) → EvP (L c) Q) (c0 : σ) (h0 : I c0) : EvP (L c0) Q := by
  have key : ∀ n c, m c < n → I c → EvP (L c) Q := by
    intro n
    induction n with
    | zero => intro c h; exact absurd h (by omega)
    | succ n ih => intro c h hc; exact hstep c hc fun c' h' hm => ih c' (by omega) h'
  exact key (m c0 + 1) c0 (by omega) h0
theorem tN {s : List Int} (hs : s.length < 4611686018427387904) {s1 a : Int} (h1 : 0 ≤ s1) (ha : 0 < a) (ha2 : a < 4611686018427387904) :
    EvP (fun _ => trustquorummake_Tape_N.f s s1 a) (fun r => (0 ≤ r.1 ∧ r.1 < a) ∧ 0 ≤ r.2) := by
  unfold trustquorummake_Tape_N.f
  by_cases h : s1 ≥ (s.length : Int)
  · simp only [h, if_true]
    exact EvP.now ⟨⟨by simp, by simpa using ha⟩, h1⟩
  have h2 : s1 < (s.length : Int) := by omega
  have h3 : ¬ a = 0 := by omega
  have hb1 := Int.tmod_lt_of_pos (rd s s1) ha
  have hb2 : - a < Int.tmod (rd s s1) a := by
    have := Int.lt_tmod_of_pos (rd s s1) ha
    omega
  simp only [h, if_false, h1, if_true, h2, h3]
  by_cases h4 : Int.tmod (rd s s1) a < 0
  · simp only [h4, if_true]
    refine EvP.now ?_
    show (0 ≤ wrap64 _ ∧ wrap64 _ < a) ∧ 0 ≤ wrap64 _
    rw [w64 (by omega) (by omega), w64 (by omega) (by omega)]
    omega
  · simp only [h4, if_false]
    refine EvP.now ?_
    show (0 ≤ Int.tmod (rd s s1) a ∧ Int.tmod (rd s s1) a < a) ∧ 0 ≤ wrap64 _
    rw [w64 (by omega) (by omega)]
    omega
theorem tRange {s : List Int} (hs : s.length < 4611686018427387904) {s1 a b : Int} (h1 : 0 ≤ s1) (ha : 0 ≤ a) (hb : a ≤ b) (hb2 : b < 4611686018427387) :
    EvP (fun _ => trustquorummake_Tape_Range.f s s1 a b) (fun r => (a ≤ r.1 ∧ r.1 ≤ b) ∧ 0 ≤ r.2) := by
  unfold trustquorummake_Tape_Range.f
  rw [w64 (n := b - a) (by omega) (by omega), w64 (by omega) (by omega)]
  refine EvP.bind (tN hs h1 (by omega) (by omega)) ?_
  rintro ⟨v, s'⟩ ⟨⟨h2, h3⟩, h4⟩
  refine EvP.now ?_
  show (a ≤ wrap64 _ ∧ wrap64 _ ≤ b) ∧ 0 ≤ s'
  simp only at h2 h3 h4 ⊢
  rw [w64 (by omega) (by omega)]
  omega
theorem tPick {s : List Int} (hs : s.length < 4611686018427387904) {s1 : Int} {l : List Int} (h1 : 0 ≤ s1) (ha : 0 < l.length) (hl : l.length < 4611686018427387904) :
    EvP (fun _ => trustquorummake_Tape_Pick.f s s1 l) (fun r => r.1 ∈ l ∧ 0 ≤ r.2) := by
  unfold trustquorummake_Tape_Pick.f
  refine EvP.bind (tN hs h1 (by omega) (by omega)) ?_
  rintro ⟨v, s'⟩ ⟨⟨h2, h3⟩, h4⟩
  simp only at h2 h3 h4 ⊢
  simp only [h2, h3, if_true]
  refine EvP.now ⟨?_, h4⟩
  simp only [rd]
  have h5 : v.toNat < l.length := by omega
  rw [List.getD_eq_getElem?_getD, List.getElem?_eq_getElem h5]
  exact List.getElem_mem h5
theorem tOrder {s : List Int} (hs : s.length < 4611686018427387904) {s1 : Int} {n : Nat} (h1 : 0 ≤ s1) (hn : n ≤ 1000) :
    EvP (fun k => trustquorummake_Tape_Order.f k s s1 (n : Int)) (fun r => (r.1.length = n ∧ ∀ x ∈ r.1, 0 ≤ x ∧ x < (n : Int)) ∧ 0 ≤ r.2) := by
  simp only [trustquorummake_Tape_Order.f]
  have l1 : ∀ (l : List Int) (i : Int) (s1 : Int), 0 ≤ s1 → l.length = n → (∀ x ∈ l, 0 ≤ x ∧ x < (n : Int)) → i < n →
      EvP (fun k => trustquorummake_Tape_Order.l1 k l i s s1) (fun r => (r.1.length = n ∧ ∀ x ∈ r.1, 0 ≤ x ∧ x < (n : Int)) ∧ 0 ≤ r.2) := by
    intro l i s1 h1 hl hx hi
    refine EvP.loop (L := fun (c : List Int × Int × Int) k => trustquorummake_Tape_Order.l1 k c.1 c.2.1 s c.2.2) (fun c => 0 ≤ c.2.2 ∧ c.1.length = n ∧ (∀ x ∈ c.1, 0 ≤ x ∧ x < (n : Int)) ∧ c.2.1 < n) (fun c => c.2.1.toNat) ?_ (l, i, s1) ⟨h1, hl, hx, hi⟩
    rintro ⟨l, i, s1⟩ ⟨h1, hl, hx, hi⟩ ih
    simp only at h1 hl hx hi ih ⊢
    by_cases h0 : i > 0
    · have e1 : wrap64 (i + 1) = i + 1 := w64 (by omega) (by omega)
      have e2 : wrap64 (i - 1) = i - 1 := w64 (by omega) (by omega)
      have h3 : 0 ≤ i := by omega
      have h4 : i < (l.length : Int) := by omega
      (refine EvP.shift ?_; simp only [trustquorummake_Tape_Order.l1, h0, e1, e2, h3, h4, Option.bind_some, ↓reduceIte, Bool.false_eq_true, reduceCtorEq, decide_eq_true_eq, Go.Proofs.YtkjlcbfjllpcnaaW.PrintWords.rd, rd_T32, rd_T34])
      refine EvP.bind (tN hs h1 (by omega) (by omega)) ?_
      rintro ⟨v, s'⟩ ⟨⟨h5, h6⟩, h7⟩
      simp only at h5 h6 h7 ⊢
      have h8 : v < (l.length : Int) := by omega
      simp only [h5, h8, if_true]
      have hm : ∀ j : Nat, j < l.length → l.getD j 0 ∈ l := fun j hj => by
        rw [List.getD_eq_getElem?_getD, List.getElem?_eq_getElem hj]; exact List.getElem_mem hj
      refine ih (_, i - 1, s') ⟨h7, by simpa using hl, ?_, by show i - 1 < n; omega⟩ (by show (i - 1).toNat < i.toNat; omega)
      intro x hx'
      rcases List.mem_or_eq_of_mem_set hx' with h | h
      · rcases List.mem_or_eq_of_mem_set h with h | h
        · exact hx x h
        · rw [h]; exact hx _ (hm _ (by omega))
      · rw [h]; exact hx _ (hm _ (by omega))
    · (refine EvP.shift ?_; simp only [trustquorummake_Tape_Order.l1, h0, Option.bind_some, ↓reduceIte, Bool.false_eq_true, reduceCtorEq, decide_eq_true_eq, Go.Proofs.YtkjlcbfjllpcnaaW.PrintWords.rd, rd_T32, rd_T34])
      exact EvP.now ⟨⟨hl, hx⟩, h1⟩
  refine EvP.loop (L := fun (c : List Int × Int) k => trustquorummake_Tape_Order.l0 k (n : Int) c.1 c.2 s s1) (fun c => c.2 = (c.1.length : Int) ∧ c.2 ≤ n ∧ (∀ x ∈ c.1, 0 ≤ x ∧ x < (n : Int))) (fun c => n - c.1.length) ?_ ([], 0) ⟨rfl, by show (0 : Int) ≤ n; omega, by simp⟩
  rintro ⟨l, i⟩ ⟨h2, h3, hx⟩ ih
  simp only at h2 h3 hx ih ⊢
  by_cases h0 : i < (n : Int)
  · have e1 : wrap64 (i + 1) = i + 1 := w64 (by omega) (by omega)
    have h4 : l.length < 17592186044416 := by omega
    (refine EvP.shift ?_; simp only [trustquorummake_Tape_Order.l0, h0, e1, h4, Option.bind_some, ↓reduceIte, Bool.false_eq_true, reduceCtorEq, decide_eq_true_eq, Go.Proofs.YtkjlcbfjllpcnaaW.PrintWords.rd, rd_T32, rd_T34])
    refine ih (l ++ [i], i + 1) ⟨by simp; omega, by show i + 1 ≤ n; omega, ?_⟩ (by simp; omega)
    intro x hx'
    rcases List.mem_append.1 hx' with h | h
    · exact hx x h
    · rw [List.mem_singleton.1 h]; omega
  · (refine EvP.shift ?_; simp only [trustquorummake_Tape_Order.l0, h0, Option.bind_some, ↓reduceIte, Bool.false_eq_true, reduceCtorEq, decide_eq_true_eq, Go.Proofs.YtkjlcbfjllpcnaaW.PrintWords.rd, rd_T32, rd_T34])
    exact l1 l _ s1 h1 (by omega) hx (by rw [w64 (by omega) (by omega)]; omega)
def foldU (l : List Int) (a : Nat) : Nat := l.foldl (fun a x => if noNode x = true then a else a ||| 2 ^ x.toNat) a
theorem foldU_lt {n : Nat} (hn : n ≤ 10) : ∀ (l : List Int) (a : Nat), a < 2 ^ n → (∀ x ∈ l, 0 ≤ x ∧ x < (n : Int)) → foldU l a < 2 ^ n := by
  intro l
  induction l with
  | nil => intro a h _; exact h
  | cons x xs ih =>
    intro a h hx
    have h1 := hx x (by simp)
    show foldU xs (if noNode x = true then a else a ||| 2 ^ x.toNat) < 2 ^ n
    refine ih _ ?_ fun y hy => hx y (by simp [hy])
    split
    · exact h
    · exact or_lt h (Nat.pow_lt_pow_right (by decide) (by omega))
theorem useL_lt2 {n : Nat} : ∀ (l : List S32), (∀ t ∈ l, uses t < 2 ^ n) → useL l < 2 ^ n
  | [], _ => by rw [useL]; exact Nat.two_pow_pos n
  | t :: ts, h => by rw [useL]; exact or_lt (h t (by simp)) (useL_lt2 ts fun y hy => h y (by simp [hy]))
theorem wtL_le {b : Nat} : ∀ (l : List S32), (∀ t ∈ l, wt t ≤ b) → wtL l ≤ l.length * b
  | [], _ => by rw [wtL]; omega
  | t :: ts, h => by
    rw [wtL, List.length_cons, Nat.add_mul]
    have := h t (by simp)
    have := wtL_le ts fun y hy => h y (by simp [hy])
    omega
def In (n b : Nat) (t : S32) : Prop := wt t ≤ b ∧ uses t < 2 ^ n
theorem In_mk {n b : Nat} (hn : n ≤ 10) {v : Int} {l : List Int} {ts : List S32} (h2 : ∀ x ∈ l, 0 ≤ x ∧ x < (n : Int)) (h4 : ∀ t ∈ ts, In n b t) (B : Nat) (hB : 1 + l.length + ts.length * b ≤ B) : In n B ⟨v, l, ts⟩ := by
  constructor
  · rw [wt_eq]
    have := wtL_le ts fun t ht => (h4 t ht).1
    simp only
    omega
  · rw [uses_eq]
    exact or_lt (foldU_lt hn l 0 (Nat.two_pow_pos n) h2) (useL_lt2 ts fun t ht => (h4 t ht).2)
abbrev toT (r : Int × List Int × List S32 × Int) : S32 := ⟨r.1, r.2.1, r.2.2.1⟩
theorem trust_row {s : List Int} (hs : s.length < 4611686018427387904) {n b : Nat} (hn : n ≤ 10) (hn1 : 1 ≤ n) (hb : b ≤ 100) (a2 : Int) (h2 : a2 ≤ 10)
    (hrec : a2 > 1 → ∀ s1, 0 ≤ s1 → EvP (fun k => trustquorummake_trust.f k s s1 (n : Int) (wrap64 (a2 - 1))) (fun r => In n b (toT r) ∧ 0 ≤ r.2.2.2)) {s1 : Int} (h1 : 0 ≤ s1) :
    EvP (fun k => trustquorummake_trust.f k s s1 (n : Int) a2) (fun r => In n (6 + 3 * b) (toT r) ∧ 0 ≤ r.2.2.2) := by
  have fin : ∀ (v : Int) (l : List Int) (ts : List S32), l.length ≤ 5 → (∀ x ∈ l, 0 ≤ x ∧ x < (n : Int)) → ts.length ≤ 3 → (∀ t ∈ ts, In n b t) → In n (6 + 3 * b) ⟨v, l, ts⟩ := by
    intro v l ts h1 h2 h3 h4
    refine In_mk hn h2 h4 _ ?_
    have : ts.length * b ≤ 3 * b := Nat.mul_le_mul_right b h3
    omega
  have fine : ∀ (v : Int) (l : List Int) (ts : List S32) (s2 : Int), l.length ≤ 5 → (∀ x ∈ l, 0 ≤ x ∧ x < (n : Int)) → ts.length ≤ 3 → (∀ t ∈ ts, In n b t) → 0 ≤ s2 → EvP (fun _ => some (v, l, ts, s2)) (fun r => In n (6 + 3 * b) (toT r) ∧ 0 ≤ r.2.2.2) :=
    fun v l ts s2 h1 h2 h3 h4 h5 => EvP.now ⟨fin v l ts h1 h2 h3 h4, h5⟩
  clear fin
  generalize 6 + 3 * b = B at fine ⊢
  have L1 : ∀ (l : List Int), 1 ≤ l.length → l.length ≤ 5 → (∀ x ∈ l, 0 ≤ x ∧ x < (n : Int)) → a2 > 1 → ∀ (m : Nat), m ≤ 3 → ∀ (s1 : Int), 0 ≤ s1 →
      EvP (fun k => trustquorummake_trust.l1 k (n : Int) a2 (m : Int) s s1 0 l ([] : List S32)) (fun r => In n B (toT r) ∧ 0 ≤ r.2.2.2) := by
    intro l hl0 hl hx ha m hm s1 h1
    refine EvP.loop (L := fun (c : Nat × Int × List S32) k => trustquorummake_trust.l1 k (n : Int) a2 (c.1 : Int) s c.2.1 0 l c.2.2) (fun c => 0 ≤ c.2.1 ∧ c.1 + c.2.2.length ≤ 3 ∧ ∀ t ∈ c.2.2, In n b t) (fun c => c.1) ?_ (m, s1, []) ⟨h1, by simp; omega, by simp⟩
    rintro ⟨m, s1, ts⟩ ⟨h1, h3, h4⟩ ih
    simp only at h1 h3 h4 ih ⊢
    by_cases h0 : (m : Int) > 0
    · have e1 : wrap64 ((m : Int) - 1) = ((m - 1 : Nat) : Int) := by rw [w64 (by omega) (by omega)]; omega
      have h6 : ts.length < 2513169434916 := by omega
      (refine EvP.shift ?_; simp only [trustquorummake_trust.l1, h0, e1, h6, Option.bind_some, ↓reduceIte, Bool.false_eq_true, reduceCtorEq, decide_eq_true_eq, Go.Proofs.YtkjlcbfjllpcnaaW.PrintWords.rd, rd_T32, rd_T34])
      refine EvP.bind (hrec ha s1 h1) ?_
      rintro ⟨v, l', ts', s'⟩ ⟨h7, h8⟩
      refine ih (m - 1, s', ts ++ [⟨v, l', ts'⟩]) ⟨h8, by simp; omega, ?_⟩ (by show m - 1 < m; omega)
      intro t ht
      rcases List.mem_append.1 ht with h | h
      · exact h4 t h
      · rw [List.mem_singleton.1 h]; exact h7
    · clear ih
      have ew : wrap64 ((l.length : Int) + (ts.length : Int)) = (l.length : Int) + (ts.length : Int) := w64 (by omega) (by omega)
      by_cases h5 : (ts.length : Int) > 0
      · (refine EvP.shift ?_; simp only [trustquorummake_trust.l1, h0, h5, ew, Option.bind_some, ↓reduceIte, Bool.false_eq_true, reduceCtorEq, decide_eq_true_eq, Go.Proofs.YtkjlcbfjllpcnaaW.PrintWords.rd, rd_T32, rd_T34])
        clear ew
        refine EvP.bind (tN hs h1 (by omega) (by omega)) ?_
        rintro ⟨v, s'⟩ ⟨⟨h6, h7⟩, h8⟩
        simp only at h6 h7 h8 ⊢
        split
        · rw [show wrap64 ((([] : List Int).length : Int) + (ts.length : Int)) = (ts.length : Int) by rw [List.length_nil, w64 (by omega) (by omega)]; omega]
          refine EvP.bind (tRange hs h8 (by omega) (by omega) (by omega)) ?_
          rintro ⟨v2, s2⟩ ⟨h9, h10⟩
          exact fine v2 [] ts s2 (by simp) (by simp) (by omega) h4 h10
        · refine EvP.bind (tRange hs h8 (by omega) (by omega) (by omega)) ?_
          rintro ⟨v2, s2⟩ ⟨h9, h10⟩
          exact fine v2 l ts s2 hl hx (by omega) h4 h10
      · (refine EvP.shift ?_; simp only [trustquorummake_trust.l1, h0, h5, ew, Option.bind_some, ↓reduceIte, Bool.false_eq_true, reduceCtorEq, decide_eq_true_eq, Go.Proofs.YtkjlcbfjllpcnaaW.PrintWords.rd, rd_T32, rd_T34])
        clear ew
        refine EvP.bind (tRange hs h1 (by omega) (by omega) (by omega)) ?_
        rintro ⟨v2, s2⟩ ⟨h9, h10⟩
        exact fine v2 l ts s2 hl hx (by omega) h4 h10
  have mnv : mn (n : Int) 5 ≤ n ∧ 1 ≤ mn (n : Int) 5 ∧ mn (n : Int) 5 ≤ 5 := by unfold mn; split <;> omega
  (refine EvP.shift ?_; simp only [trustquorummake_trust.f, Option.bind_some, ↓reduceIte, Bool.false_eq_true, reduceCtorEq, decide_eq_true_eq, Go.Proofs.YtkjlcbfjllpcnaaW.PrintWords.rd, rd_T32, rd_T34])
  refine EvP.bind (tOrder hs h1 (by omega)) ?_
  rintro ⟨o, s2⟩ ⟨⟨ho, hox⟩, h2'⟩
  simp only at ho hox h2' ⊢
  refine EvP.bind (tRange hs h2' (by omega) mnv.2.1 (by omega)) ?_
  rintro ⟨q, s3⟩ ⟨⟨hq1, hq2⟩, h3'⟩
  simp only at hq1 hq2 h3' ⊢
  have hq3 : 0 ≤ q := by omega
  have hq4 : q ≤ (o.length : Int) := by omega
  simp only [hq3, hq4, if_true, Option.bind_some]
  generalize hy : o.take q.toNat = y
  have hyl : y.length = q.toNat := by rw [← hy, List.length_take]; omega
  have hyx : ∀ x ∈ y, 0 ≤ x ∧ x < (n : Int) := fun x hx => hox x (by rw [← hy] at hx; exact List.mem_of_mem_take hx)
  refine EvP.loop (L := fun (c : List Int × Int) k => trustquorummake_trust.l0 k (n : Int) a2 y (y.length : Int) c.2 s s3 0 c.1) (fun c => c.2 = (c.1.length : Int) ∧ c.1.length ≤ y.length ∧ (∀ x ∈ c.1, 0 ≤ x ∧ x < (n : Int))) (fun c => y.length - c.1.length) ?_ ([], 0) ⟨rfl, by simp, by simp⟩
  rintro ⟨l, i⟩ ⟨h3, h4, hx⟩ ih
  simp only at h3 h4 hx ih ⊢
  by_cases h0 : i < (y.length : Int)
  · have e1 : wrap64 (i + 1) = i + 1 := w64 (by omega) (by omega)
    have h6 : l.length < 17592186044416 := by omega
    have h7 : 0 ≤ i := by omega
    (refine EvP.shift ?_; simp only [trustquorummake_trust.l0, h0, e1, h6, h7, Option.bind_some, ↓reduceIte, Bool.false_eq_true, reduceCtorEq, decide_eq_true_eq, Go.Proofs.YtkjlcbfjllpcnaaW.PrintWords.rd, rd_T32, rd_T34])
    refine ih (l ++ [y.getD i.toNat 0], i + 1) ⟨by simp; omega, by simp; omega, ?_⟩ (by simp; omega)
    intro x hx'
    rcases List.mem_append.1 hx' with h | h
    · exact hx x h
    · rw [List.mem_singleton.1 h, List.getD_eq_getElem?_getD, List.getElem?_eq_getElem (show i.toNat < y.length by omega)]
      exact hyx _ (List.getElem_mem _)
  · by_cases ha : a2 > 1
    · (refine EvP.shift ?_; simp only [trustquorummake_trust.l0, h0, ha, Option.bind_some, ↓reduceIte, Bool.false_eq_true, reduceCtorEq, decide_eq_true_eq, Go.Proofs.YtkjlcbfjllpcnaaW.PrintWords.rd, rd_T32, rd_T34])
      refine EvP.bind (tPick hs h3' (by decide) (by decide)) ?_
      rintro ⟨p, s4⟩ ⟨hp, h4'⟩
      simp only at hp h4' ⊢
      have hp2 : 0 ≤ p ∧ p ≤ 3 := by
        simp only [List.mem_cons, List.not_mem_nil, or_false] at hp
        omega
      have := L1 l (by omega) (by omega) hx ha p.toNat (by omega) s4 h4'
      rw [show ((p.toNat : Nat) : Int) = p by omega] at this
      exact this
    · (refine EvP.shift ?_; simp only [trustquorummake_trust.l0, h0, ha, Option.bind_some, ↓reduceIte, Bool.false_eq_true, reduceCtorEq, decide_eq_true_eq, Go.Proofs.YtkjlcbfjllpcnaaW.PrintWords.rd, rd_T32, rd_T34])
      rw [show wrap64 ((l.length : Int) + (([] : List S32).length : Int)) = (l.length : Int) by rw [List.length_nil, w64 (by omega) (by omega)]; omega]
      refine EvP.bind (tRange hs h3' (by omega) (by omega) (by omega)) ?_
      rintro ⟨v2, s2⟩ ⟨h9, h10⟩
      exact fine v2 l [] s2 (by omega) hx (by simp) (by simp) h10
theorem trust_ev {s : List Int} (hs : s.length < 4611686018427387904) {n : Nat} (hn : n ≤ 10) (hn1 : 1 ≤ n) {s1 : Int} (h1 : 0 ≤ s1) :
    EvP (fun k => trustquorummake_trust.f k s s1 (n : Int) 2) (fun r => In n 24 (toT r) ∧ 0 ≤ r.2.2.2) :=
  trust_row hs (b := 6) hn hn1 (by decide) 2 (by decide) (fun _ s1 h1 => by
    rw [show wrap64 ((2 : Int) - 1) = 1 from w64 (by decide) (by decide)]
    exact trust_row hs (b := 0) hn hn1 (by decide) 1 (by decide) (fun h => absurd h (by decide)) h1) h1
def Okt (n : Nat) (t : S32) : Prop := validT t = 0 ∧ In n 100 t
theorem one_ok {n : Nat} {v : Int} (h0 : 0 ≤ v) (h1 : v < (n : Int)) (hn : n ≤ 10) : Okt n ⟨1, [v], []⟩ := by
  constructor
  · have hv : noNode v = false := by simp [noNode]; omega
    have : (ofS 0 [v]).2 = 0 := by
      rw [ofS, hv, ofS]; simp [inS]
    simp [validT, dep, siz, depL, sizL, chk, chkL, hv, this]
  · exact In_mk hn (b := 0) (by simp; omega) (by simp) _ (by simp)
def Asc (n : Nat) (l : List Int) : Prop := l.length ≤ n ∧ (ofS 0 l).2 = 0 ∧ (ofS 0 l).1 < 2 ^ n ∧ ∀ x ∈ l, 0 ≤ x ∧ x < (n : Int)
theorem Asc.mono {n m : Nat} {l : List Int} (h : Asc n l) (hnm : n ≤ m) : Asc m l := by
  obtain ⟨h1, h2, h3, h4⟩ := h
  exact ⟨by omega, h2, Nat.lt_of_lt_of_le h3 (Nat.pow_le_pow_right (by decide) hnm), fun x hx => by have := h4 x hx; omega⟩
theorem Asc.any {n : Nat} {l : List Int} (h : Asc n l) (hn : n ≤ 10) : l.any noNode = false := by
  rw [List.any_eq_false]
  intro x hx
  have := h.2.2.2 x hx
  simp [noNode]; omega
theorem getD_mem' {α : Type} {l : List α} {i : Nat} (d : α) (h : i < l.length) : l.getD i d ∈ l := by
  rw [List.getD_eq_getElem?_getD, List.getElem?_eq_getElem h]; exact List.getElem_mem h
def OkM (n : Nat) (m : S34) : Prop := if m.f0 = true then Okt n m.f1 else m.f1 = ⟨0, [], []⟩
def OkC (c : List S34) : Prop := 1 ≤ c.length ∧ c.length ≤ 10 ∧ ∀ m ∈ c, OkM c.length m
theorem New_ev (l0 : List Int) (h : l0.length < 4611686018427387904) : ∃ s, s.length < 4611686018427387904 ∧ trustquorummake_New.f l0 = some (s, 0) := by
  unfold trustquorummake_New.f
  have h1 : 0 ≤ mn (l0.length : Int) 400 := by unfold mn; split <;> omega
  have h2 : mn (l0.length : Int) 400 ≤ (l0.length : Int) := by unfold mn; split <;> omega
  rw [if_pos h1, if_pos h2]
  refine ⟨_, ?_, rfl⟩
  rw [List.length_take]
  omega
def declF (i a : Nat) : List S34 → Nat
  | [] => a
  | m :: ms => declF (i + 1) (if m.f0 = true ∧ i < 10 then a ||| 2 ^ i else a) ms
def decl (c : List S34) : Nat := declF 0 0 c
theorem declF_bit : ∀ (ms : List S34) (i a j : Nat), (declF i a ms).testBit j = (a.testBit j || (decide (i ≤ j) && decide (j < 10) && (ms.getD (j - i) z34).f0)) := by
  intro ms
  induction ms with
  | nil => intro i a j; simp [declF, z34]
  | cons m ms ih =>
    intro i a j
    rw [declF, ih]
    by_cases h : j = i
    · subst h
      have e : decide (j + 1 ≤ j) = false := by simp
      have e2 : decide (j ≤ j) = true := by simp
      rw [e, e2, Nat.sub_self]
      by_cases h2 : j < 10 <;> cases hm : m.f0 <;> simp [h2, hm]
    · have e : (if m.f0 = true ∧ i < 10 then a ||| 2 ^ i else a).testBit j = a.testBit j := by
        split
        · rw [or_bit, two_bit]; simp; intro h2; omega
        · rfl
      rw [e]
      by_cases h2 : i ≤ j
      · obtain ⟨d, rfl⟩ : ∃ d, j = i + 1 + d := ⟨j - (i + 1), by omega⟩
        have h3 : i + 1 + d - i = d + 1 := by omega
        have h4 : i + 1 + d - (i + 1) = d := by omega
        rw [h3, h4, List.getD_cons_succ]
        simp [h2]
      · have h3 : ¬ i + 1 ≤ j := by omega
        simp [h2, h3]
theorem decl_bit (c : List S34) (j : Nat) : (decl c).testBit j = (decide (j < 10) && (c.getD j z34).f0) := by
  rw [decl, declF_bit]; simp
theorem decl_lt (c : List S34) : decl c < 1024 := lt_of_bits (n := 10) fun i hi => by rw [decl_bit]; simp; omega
theorem decl_len {c : List S34} {j : Nat} (h : (decl c).testBit j = true) : j < c.length := by
  rw [decl_bit] at h
  by_cases hj : j < c.length
  · exact hj
  · rw [List.getD_eq_getElem?_getD, List.getElem?_eq_none (by omega)] at h
    simp [z34] at h
def nodesL (s : Nat) : List Int := ((List.range 10).filter fun i => s.testBit i).map Int.ofNat
theorem nodesL_mem {s : Nat} {x : Int} : x ∈ nodesL s ↔ inS s x = true := by
  simp only [nodesL, List.mem_map, List.mem_filter, List.mem_range, inS, Bool.and_eq_true, decide_eq_true_eq]
  constructor
  · rintro ⟨i, ⟨h1, h2⟩, rfl⟩
    exact ⟨⟨by simp, by simp; omega⟩, by simpa using h2⟩
  · rintro ⟨⟨h1, h2⟩, h3⟩
    exact ⟨x.toNat, ⟨by omega, h3⟩, by simp; omega⟩
theorem nodesL_len (s : Nat) : (nodesL s).length ≤ 10 := by
  rw [nodesL, List.length_map]
  have := List.length_filter_le (fun i => s.testBit i) (List.range 10)
  simpa using this
def Light (c : List S34) : Prop := c.length < 1000000 ∧ ∀ m ∈ c, wt m.f1 < 1000000
theorem OkC.light {c : List S34} (h : OkC c) : Light c := by
  refine ⟨by have := h.2.1; omega, fun m hm => ?_⟩
  have := h.2.2 m hm
  unfold OkM at this
  split at this
  · have := this.2.1; omega
  · rw [this]; decide
theorem Light.at {c : List S34} (h : Light c) (j : Nat) : wt (c.getD j z34).f1 < 1000000 := by
  by_cases hj : j < c.length
  · exact h.2 _ (getD_mem' z34 hj)
  · rw [List.getD_eq_getElem?_getD, List.getElem?_eq_none (by omega)]; decide
def blk (c : List S34) (s : Nat) (j : Int) : Bool := inS (decl c) j && !(sat (dif 1023 s ||| 2 ^ j.toNat) (c.getD j.toNat z34).f1)
theorem inS_iff {s : Nat} {x : Int} : inS s x = true ↔ ∃ i : Nat, x = (i : Int) ∧ i < 10 ∧ s.testBit i = true := by
  simp only [inS, Bool.and_eq_true, decide_eq_true_eq]
  constructor
  · rintro ⟨⟨h1, h2⟩, h3⟩
    exact ⟨x.toNat, by omega, by omega, h3⟩
  · rintro ⟨i, rfl, h1, h2⟩
    exact ⟨⟨by omega, by omega⟩, by simpa using h2⟩
theorem and_nat' {a b : Nat} (ha : a < 1024) (hb : b < 1024) : Go.bits .and .i64 (a : Int) (b : Int) = ((a &&& b : Nat) : Int) := and_nat (by omega) (by omega)
theorem or_nat' {a b : Nat} (ha : a < 1024) (hb : b < 1024) : Go.bits .or .i64 (a : Int) (b : Int) = ((a ||| b : Nat) : Int) := or_nat (by omega) (by omega)
theorem shl_nat' {k : Nat} (h : k < 10) : shl .i64 1 (k : Int) = ((2 ^ k : Nat) : Int) := shl_nat (by omega)
theorem Declared_ev {c : List S34} (hc : c.length < 1000000) : Ev (fun k => configuration_Declared.f k c) (decl c : Int) := by
  simp only [configuration_Declared.f]
  refine Ev.fold (xs := c) (L := fun (a : Nat) i k => configuration_Declared.l0 k (a : Int) c (c.length : Int) i) (by omega) (fun pre ys a => declF pre.length a ys = decl c ∧ a < 1024) ?_ ?_ 0 ⟨rfl, by decide⟩
  · rintro a i ⟨hI, ha⟩ hi
    rw [declF] at hI
    (refine Ev.shift ?_; simp only [configuration_Declared.l0, hi, Option.bind_some, ↓reduceIte, Bool.false_eq_true, reduceCtorEq, decide_eq_true_eq, Go.Proofs.YtkjlcbfjllpcnaaW.PrintWords.rd, rd_T32, rd_T34])
    rw [hI]
    exact Ev.now _
  · rintro pre y ys a i e ⟨hI, ha⟩ hi h0 hlt hw hrd
    subst hi
    rw [declF] at hI
    by_cases h10 : pre.length < 10
    · have h10' : (pre.length : Int) < 10 := by omega
      have h2 := two_lt10 h10
      cases hy : y.f0
      · refine Or.inl ⟨a, ⟨by simpa [hy] using hI, ha⟩, fun k => ?_⟩
        (refine Ev.shift ?_; simp only [configuration_Declared.l0, h0, hlt, hw, hrd, hy, h10', Option.bind_some, ↓reduceIte, Bool.false_eq_true, reduceCtorEq, decide_eq_true_eq, Go.Proofs.YtkjlcbfjllpcnaaW.PrintWords.rd, rd_T32, rd_T34])
        exact k
      · refine Or.inl ⟨a ||| 2 ^ pre.length, ⟨by simpa [hy, h10] using hI, or_lt10 ha h2⟩, fun k => ?_⟩
        (refine Ev.shift ?_; simp only [configuration_Declared.l0, h0, hlt, hw, hrd, hy, h10', Option.bind_some, ↓reduceIte, Bool.false_eq_true, reduceCtorEq, decide_eq_true_eq, Go.Proofs.YtkjlcbfjllpcnaaW.PrintWords.rd, rd_T32, rd_T34])
        rw [shl_nat' h10, or_nat' ha h2]
        exact k
    · have h10' : ¬ (pre.length : Int) < 10 := by omega
      refine Or.inl ⟨a, ⟨by simpa [h10] using hI, ha⟩, fun k => ?_⟩
      cases hy : y.f0
      · (refine Ev.shift ?_; simp only [configuration_Declared.l0, h0, hlt, hw, hrd, hy, h10', Option.bind_some, ↓reduceIte, Bool.false_eq_true, reduceCtorEq, decide_eq_true_eq, Go.Proofs.YtkjlcbfjllpcnaaW.PrintWords.rd, rd_T32, rd_T34])
        exact k
      · (refine Ev.shift ?_; simp only [configuration_Declared.l0, h0, hlt, hw, hrd, hy, h10', Option.bind_some, ↓reduceIte, Bool.false_eq_true, reduceCtorEq, decide_eq_true_eq, Go.Proofs.YtkjlcbfjllpcnaaW.PrintWords.rd, rd_T32, rd_T34])
        exact k
theorem Nodes_ev {s : Nat} (hs : s < 1024) : Ev (fun k => nodeset_Nodes.f k (s : Int)) (nodesL s) := by
  simp only [nodeset_Nodes.f]
  refine Ev.count (L := fun (l : List Int) i k => nodeset_Nodes.l0 k (s : Int) l i) 10 (by decide) (fun i l => l = ((List.range i).filter fun i => s.testBit i).map Int.ofNat) ?_ ?_ [] rfl
  · rintro l rfl
    have h : ¬ ((10 : Nat) : Int) < 10 := by decide
    (refine Ev.shift ?_; simp only [nodeset_Nodes.l0, h, Option.bind_some, ↓reduceIte, Bool.false_eq_true, reduceCtorEq, decide_eq_true_eq, Go.Proofs.YtkjlcbfjllpcnaaW.PrintWords.rd, rd_T32, rd_T34])
    exact Ev.now _
  · rintro i l hi hl hw
    have h : (i : Int) < 10 := by omega
    have hlen : l.length < 17592186044416 := by
      rw [hl, List.length_map]
      have := List.length_filter_le (fun i => s.testBit i) (List.range i)
      simp at this ⊢; omega
    cases hb : s.testBit i
    · refine Or.inl ⟨l, ?_, fun k => ?_⟩
      · rw [hl, List.range_succ, List.filter_append]; simp [hb]
      · (refine Ev.shift ?_; simp only [nodeset_Nodes.l0, h, Has_eq hs, inS_nat s i (by omega), hb, hw, Option.bind_some, ↓reduceIte, Bool.false_eq_true, reduceCtorEq, decide_eq_true_eq, Go.Proofs.YtkjlcbfjllpcnaaW.PrintWords.rd, rd_T32, rd_T34])
        exact k
    · refine Or.inl ⟨l ++ [(i : Int)], ?_, fun k => ?_⟩
      · rw [hl, List.range_succ, List.filter_append]; simp [hb]
      · (refine Ev.shift ?_; simp only [nodeset_Nodes.l0, h, Has_eq hs, inS_nat s i (by omega), hb, hw, hlen, Option.bind_some, ↓reduceIte, Bool.false_eq_true, reduceCtorEq, decide_eq_true_eq, Go.Proofs.YtkjlcbfjllpcnaaW.PrintWords.rd, rd_T32, rd_T34])
        exact k
theorem Sub.or {a b c : Nat} (h : Sub a c) (k : Sub b c) : Sub (a ||| b) c := fun i hi => by
  rw [or_bit, Bool.or_eq_true] at hi
  exact hi.elim (h i) (k i)
theorem Sub.two {i s : Nat} (h : s.testBit i = true) : Sub (2 ^ i) s := fun j hj => by
  rw [two_bit, decide_eq_true_eq] at hj; subst hj; exact h
theorem pcn_lt {s i : Nat} (hi : i < 10) (h : s.testBit i = false) : pcn s < pcn (s ||| 2 ^ i) := by
  unfold pcn
  have key : ∀ n, (List.range n).countP (fun k => s.testBit k) + (if i < n then 1 else 0) ≤ (List.range n).countP fun k => (s ||| 2 ^ i).testBit k := by
    intro n
    induction n with
    | zero => simp
    | succ n ih =>
      rw [List.range_succ, List.countP_append, List.countP_append, List.countP_singleton, List.countP_singleton, or_bit, two_bit]
      generalize (List.range n).countP (fun k => (s ||| 2 ^ i).testBit k) = B at ih ⊢
      generalize (List.range n).countP (fun k => s.testBit k) = A at ih ⊢
      by_cases e : i = n
      · subst e
        rw [h, if_neg (Nat.lt_irrefl i)] at *
        simp
        omega
      · by_cases hin : i < n
        · rw [if_pos hin] at ih
          rw [if_pos (show i < n + 1 by omega)]
          cases hb : s.testBit n <;> simp [e] <;> omega
        · rw [if_neg hin] at ih
          rw [if_neg (show ¬ i < n + 1 by omega)]
          cases hb : s.testBit n <;> simp [e] <;> omega
  have := key 10
  rw [if_pos hi] at this
  omega
theorem pcn_le (s : Nat) : pcn s ≤ 10 := by
  have : (List.range 10).countP (fun k => s.testBit k) ≤ (List.range 10).length := List.countP_le_length
  simpa [pcn] using this
def quo (c : List S34) (x : Nat) : Bool := decide (x ≠ 0) && decide (x &&& decl c = x) && (nodesL x).all fun j => sat x (c.getD j.toNat z34).f1
theorem quo_iff {c : List S34} {x : Nat} (hx : x < 1024) : quo c x = true ↔ x ≠ 0 ∧ Sub x (decl c) ∧ ∀ i, x.testBit i = true → sat x (c.getD i z34).f1 = true := by
  unfold quo
  rw [Bool.and_eq_true, Bool.and_eq_true, decide_eq_true_eq, decide_eq_true_eq, List.all_eq_true, sub_and]
  constructor
  · rintro ⟨⟨h1, h2⟩, h3⟩
    refine ⟨h1, h2, fun i hi => ?_⟩
    have h10 : i < 10 := by
      rcases Nat.lt_or_ge i 10 with h | h
      · exact h
      · rw [bit_lt (n := 10) hx h] at hi; cases hi
    have := h3 (i : Int) (nodesL_mem.2 (inS_iff.2 ⟨i, rfl, h10, hi⟩))
    rwa [Int.toNat_natCast] at this
  · rintro ⟨h1, h2, h3⟩
    refine ⟨⟨h1, h2⟩, fun j hj => ?_⟩
    obtain ⟨i, rfl, h10, hi⟩ := inS_iff.1 (nodesL_mem.1 hj)
    rw [Int.toNat_natCast]
    exact h3 i hi
end Go.Proofs.Ytkjlcbfjllpcnaa.X
namespace Go.Proofs.Ytkjlcbfjllpcnaa.X
open Go.RowKit Go.Proofs.YtkjlcbfjllpcnaaW.PrintWords Go.Proofs.YtkjlcbfjllpcnaaW.PrintLast Go.Proofs.YtkjlcbfjllpcnaaW.PrintMore
attribute [local go_sem] max2_int min2_int max_two min_two max_three min_three max_four min_four
set_option linter.unusedVariables false
set_option linter.unusedSimpArgs false
end Go.Proofs.Ytkjlcbfjllpcnaa.X
namespace Go.Proofs.Ytkjlcbfjllpcnaa.X
open Go.RowKit Go.Lib Go.Sort Go.Proofs.YtkjlcbfjllpcnaaW.PrintWords Go.Proofs.YtkjlcbfjllpcnaaW.PrintLast Go.Proofs.YtkjlcbfjllpcnaaW.PrintMore
set_option linter.unusedVariables false
def leS (x y : Int) : Prop := ¬ ltS y x
instance (x y : Int) : Decidable (leS x y) := inferInstanceAs (Decidable (¬ (_ ∨ _)))
theorem leS_antisymm {x y : Int} (h : leS x y) (k : leS y x) : x = y := by unfold leS ltS at *; omega
theorem sortS_perm (l : List Int) : (sortS l).Perm l := List.mergeSort_perm _ _
theorem sortS_sorted (l : List Int) : (sortS l).Pairwise leS := by
  have := List.pairwise_mergeSort (le := fun x y => !(ltOf cmpS) y x) (by
    intro a b c h1 h2
    rw [Bool.not_eq_true', ltOf_not] at *
    unfold ltS at *; omega) (by
    intro a b
    rw [Bool.or_eq_true, Bool.not_eq_true', Bool.not_eq_true', ltOf_not, ltOf_not]
    unfold ltS; omega) l
  refine this.imp ?_
  intro a b h
  rw [Bool.not_eq_true', ltOf_not] at h
  exact h
theorem sortS_eq {l l' : List Int} (h : l.Perm l') (hs : l'.Pairwise leS) : sortS l = l' :=
  List.Perm.eq_of_pairwise (le := leS) (fun a b _ _ h k => leS_antisymm h k) (sortS_sorted l) hs ((sortS_perm l).trans h)
def memV (n : Nat) (m : S34) : Int := if m.f0 = true then (if validT m.f1 = 0 then (if uses m.f1 < 2 ^ n then 0 else 5) else validT m.f1) else (if m.f1.f0 = 0 ∧ m.f1.f1 = [] ∧ m.f1.f2 = [] then 0 else 1)
def valF (n : Nat) : List S34 → Int
  | [] => 0
  | m :: ms => if memV n m = 0 then valF n ms else memV n m
def valC (c : List S34) : Int := if c.length > 10 then 3 else valF c.length c
theorem member_ev {n : Nat} (hn : n ≤ 10) (m : S34) (hm : wt m.f1 < 1000000) : Ev (fun k => configuration_member.f k m.f0 m.f1.f0 m.f1.f1 m.f1.f2 (n : Int)) (memV n m) := by
  unfold memV
  cases h : m.f0
  · simp only [configuration_member.f, configuration_blank.f, Option.bind_some, ↓reduceIte, Bool.false_eq_true, reduceCtorEq, decide_eq_true_eq, Go.Proofs.YtkjlcbfjllpcnaaW.PrintWords.rd, rd_T32, rd_T34]
    by_cases h1 : m.f1.f0 = 0
    · by_cases h2 : m.f1.f1 = []
      · by_cases h3 : m.f1.f2 = []
        · simp only [h1, h2, h3, and_self, if_true, List.length_nil, Option.bind_some]
          simp only [Int.natCast_zero, beq_self_eq_true, if_true, Int.ofNat_zero, Option.bind_some]
          exact Ev.now _
        · have : ¬ (m.f1.f2.length : Int) = 0 := by
            intro h; exact h3 (List.eq_nil_of_length_eq_zero (by omega))
          have e2 : ((m.f1.f2.length : Int) == 0) = false := by simpa using this
          simp only [h1, h2, h3, and_false, if_true, if_false, List.length_nil, Int.natCast_zero, Int.ofNat_zero, e2, Option.bind_some, Bool.false_eq_true]
          exact Ev.now _
      · have : ¬ (m.f1.f1.length : Int) = 0 := by
          intro h; exact h2 (List.eq_nil_of_length_eq_zero (by omega))
        simp only [h1, h2, this, false_and, and_false, if_true, if_false, Option.bind_some, Bool.false_eq_true]
        exact Ev.now _
    · simp only [h1, false_and, if_false, Option.bind_some, Bool.false_eq_true]
      exact Ev.now _
  · simp only [configuration_member.f, Option.bind_some, ↓reduceIte, Bool.false_eq_true, reduceCtorEq, decide_eq_true_eq, Go.Proofs.YtkjlcbfjllpcnaaW.PrintWords.rd, rd_T32, rd_T34]
    refine Ev.bind1 (Valid_ev m.f1 hm) ?_
    by_cases h1 : validT m.f1 = 0
    · simp only [h1, if_true]
      refine Ev.bind1 (Uses_ev 1000000 m.f1 hm (by decide)) ?_
      have h0 : (0 : Int) ≤ (n : Int) := by omega
      rw [shl_nat (by omega), if_pos h0]
      by_cases h2 : uses m.f1 < 2 ^ n
      · rw [if_pos h2, if_neg (by omega)]; exact Ev.now _
      · rw [if_neg h2, if_pos (by omega)]; exact Ev.now _
    · simp only [h1, if_false]
      exact Ev.now _
theorem CValid_ev {c : List S34} (hc : Light c) : Ev (fun k => configuration_Valid.f k c) (valC c) := by
  have hl := hc.1
  unfold valC
  by_cases h : c.length > 10
  · have h2 : (c.length : Int) > 10 := by omega
    simp only [configuration_Valid.f, h, h2, Option.bind_some, ↓reduceIte, Bool.false_eq_true, reduceCtorEq, decide_eq_true_eq, Go.Proofs.YtkjlcbfjllpcnaaW.PrintWords.rd, rd_T32, rd_T34]
    exact Ev.now _
  · have h2 : ¬ (c.length : Int) > 10 := by omega
    simp only [configuration_Valid.f, h, h2, Option.bind_some, ↓reduceIte, Bool.false_eq_true, reduceCtorEq, decide_eq_true_eq, Go.Proofs.YtkjlcbfjllpcnaaW.PrintWords.rd, rd_T32, rd_T34]
    refine Ev.fold (xs := c) (L := fun (a : Unit) i k => configuration_Valid.l0 k c (c.length : Int) i c) (by omega) (fun pre ys a => valF c.length ys = valF c.length c) ?_ ?_ () rfl
    · intro a i hI hi
      rw [valF] at hI
      (refine Ev.shift ?_; simp only [configuration_Valid.l0, hi, Option.bind_some, ↓reduceIte, Bool.false_eq_true, reduceCtorEq, decide_eq_true_eq, Go.Proofs.YtkjlcbfjllpcnaaW.PrintWords.rd, rd_T32, rd_T34])
      rw [← hI]
      exact Ev.now _
    · intro pre y ys a i e hI hi h0 hlt hw hrd
      rw [valF] at hI
      have hm := member_ev (n := c.length) (by omega) y (hc.2 y (by rw [e]; simp))
      by_cases h4 : memV c.length y = 0
      · rw [if_pos h4] at hI
        refine Or.inl ⟨(), hI, fun k => ?_⟩
        (refine Ev.shift ?_; simp only [configuration_Valid.l0, h0, hlt, hw, hrd, Option.bind_some, ↓reduceIte, Bool.false_eq_true, reduceCtorEq, decide_eq_true_eq, Go.Proofs.YtkjlcbfjllpcnaaW.PrintWords.rd, rd_T32, rd_T34])
        refine Ev.bind1 hm ?_
        rw [h4]
        exact k
      · rw [if_neg h4] at hI
        refine Or.inr ?_
        rw [← hI]
        (refine Ev.shift ?_; simp only [configuration_Valid.l0, h0, hlt, hw, hrd, Option.bind_some, ↓reduceIte, Bool.false_eq_true, reduceCtorEq, decide_eq_true_eq, Go.Proofs.YtkjlcbfjllpcnaaW.PrintWords.rd, rd_T32, rd_T34])
        refine Ev.bind1 hm ?_
        simp only [h4, if_false]
        exact Ev.now _
theorem OkM.memV {n : Nat} {m : S34} (h : OkM n m) : memV n m = 0 := by
  unfold OkM at h
  unfold X.memV
  split at h
  · rename_i h1
    rw [if_pos h1, if_pos h.1, if_pos h.2.2]
  · rename_i h1
    rw [if_neg h1, h]
    simp
theorem valF_ok {n : Nat} : ∀ (l : List S34), (∀ m ∈ l, OkM n m) → valF n l = 0
  | [], _ => by rw [valF]
  | m :: ms, h => by rw [valF, if_pos (h m (by simp)).memV]; exact valF_ok ms fun x hx => h x (by simp [hx])
theorem OkC.valC {c : List S34} (h : OkC c) : valC c = 0 := by
  have := h.2.1
  rw [X.valC, if_neg (by omega)]
  exact valF_ok c h.2.2
theorem Ints_ev {xs ys : List Int} (hx : xs.length < 1000000) : Ev (fun k => trustquorummake_Ints.f k xs ys) (decide (xs = ys)) := by
  by_cases hl : xs.length = ys.length
  · have hl2 : (xs.length : Int) = (ys.length : Int) := by omega
    simp only [trustquorummake_Ints.f, Option.bind_some, ↓reduceIte, Bool.false_eq_true, reduceCtorEq, decide_eq_true_eq, Go.Proofs.YtkjlcbfjllpcnaaW.PrintWords.rd, rd_T32, rd_T34]
    simp only [if_pos hl2]
    refine Ev.fold (xs := xs) (L := fun (a : Unit) i k => trustquorummake_Ints.l0 k xs ys (xs.length : Int) i) (by omega) (fun pre zs a => xs.take pre.length = ys.take pre.length) ?_ ?_ () rfl
    · intro a i hI hi
      rw [List.take_of_length_le (Nat.le_refl _), List.take_of_length_le (by omega)] at hI
      (refine Ev.shift ?_; simp only [trustquorummake_Ints.l0, hi, Option.bind_some, ↓reduceIte, Bool.false_eq_true, reduceCtorEq, decide_eq_true_eq, Go.Proofs.YtkjlcbfjllpcnaaW.PrintWords.rd, rd_T32, rd_T34])
      rw [decide_eq_true hI]
      exact Ev.now _
    · intro pre y zs a i e hI hi h0 hlt hw hrd
      subst hi
      have hrd' := hrd
      simp only [Int.toNat_natCast] at hrd'
      have hlt2 : (pre.length : Int) < (ys.length : Int) := by omega
      have hp : pre.length < ys.length := by omega
      have hy : ys.getD pre.length 0 = ys[pre.length] := by rw [List.getD_eq_getElem?_getD, List.getElem?_eq_getElem hp]; rfl
      have hx' : xs.take (pre.length + 1) = xs.take pre.length ++ [y] := by
        have := hrd 0
        rw [Int.toNat_natCast, List.getD_eq_getElem?_getD, List.getElem?_eq_getElem (show pre.length < xs.length by omega)] at this
        rw [List.take_succ_eq_append_getElem (by omega)]
        congr 2
      by_cases h : y = ys.getD pre.length 0
      · refine Or.inl ⟨(), ?_, fun k => ?_⟩
        · rw [List.length_append, List.length_singleton, hx', hI, List.take_succ_eq_append_getElem hp, ← hy, h]
        · (refine Ev.shift ?_; simp only [trustquorummake_Ints.l0, h0, hlt, hw, hlt2, hrd', Int.toNat_natCast, Option.bind_some, ↓reduceIte, Bool.false_eq_true, reduceCtorEq, decide_eq_true_eq, Go.Proofs.YtkjlcbfjllpcnaaW.PrintWords.rd, rd_T32, rd_T34])
          simp only [if_pos h]
          exact k
      · refine Or.inr ?_
        have hne : xs ≠ ys := by
          intro hh
          subst hh
          have := hrd 0
          rw [Int.toNat_natCast] at this
          exact h this.symm
        rw [decide_eq_false hne]
        (refine Ev.shift ?_; simp only [trustquorummake_Ints.l0, h0, hlt, hw, hlt2, hrd', Int.toNat_natCast, Option.bind_some, ↓reduceIte, Bool.false_eq_true, reduceCtorEq, decide_eq_true_eq, Go.Proofs.YtkjlcbfjllpcnaaW.PrintWords.rd, rd_T32, rd_T34])
        simp only [if_neg h]
        exact Ev.now _
  · have hl2 : ¬ (xs.length : Int) = (ys.length : Int) := by omega
    simp only [trustquorummake_Ints.f, hl2, Option.bind_some, ↓reduceIte, Bool.false_eq_true, reduceCtorEq, decide_eq_true_eq, Go.Proofs.YtkjlcbfjllpcnaaW.PrintWords.rd, rd_T32, rd_T34]
    have hne : xs ≠ ys := fun hh => hl (by rw [hh])
    rw [decide_eq_false hne]
    exact Ev.now _
end Go.Proofs.Ytkjlcbfjllpcnaa.X
namespace Go.Proofs.Ytkjlcbfjllpcnaa.X
open Go.RowKit Go.Proofs.YtkjlcbfjllpcnaaW.PrintWords Go.Proofs.YtkjlcbfjllpcnaaW.PrintLast Go.Proofs.YtkjlcbfjllpcnaaW.PrintMore
set_option linter.unusedVariables false
instance (x y:Int):Decidable (ltS x y):=inferInstanceAs (Decidable (_ ∨ _))
end Go.Proofs.Ytkjlcbfjllpcnaa.X
namespace Go.Proofs.Ytkjlcbfjllpcnaa.X
open Go.RowKit Go.Lib Go.Sort Go.Proofs.YtkjlcbfjllpcnaaW.PrintWords Go.Proofs.YtkjlcbfjllpcnaaW.PrintLast Go.Proofs.YtkjlcbfjllpcnaaW.PrintMore
set_option linter.unusedVariables false
theorem pcn_sub {a b : Nat} (hb : b < 1024) (h : Sub a b) (hne : a ≠ b) : pcn a < pcn b := by
  have hex : ∃ i, i < 10 ∧ b.testBit i = true ∧ a.testBit i = false := by
    apply Classical.byContradiction
    intro hn
    refine hne (Sub.eq h fun i hi => ?_)
    cases ha : a.testBit i
    · refine absurd ⟨i, ?_, hi, ha⟩ hn
      rcases Nat.lt_or_ge i 10 with h | h
      · exact h
      · rw [bit_lt (n := 10) hb h] at hi; cases hi
    · rfl
  obtain ⟨i, h10, hbi, hai⟩ := hex
  refine Nat.lt_of_lt_of_le (pcn_lt h10 hai) ?_
  unfold pcn
  refine List.countP_mono_left fun k _ hk => ?_
  exact (Sub.or h (Sub.two hbi)) k hk
end Go.Proofs.Ytkjlcbfjllpcnaa.X
namespace Go.Proofs.Ytkjlcbfjllpcnaa.X
open Go.RowKit Go.Proofs.YtkjlcbfjllpcnaaW.PrintWords Go.Proofs.YtkjlcbfjllpcnaaW.PrintLast Go.Proofs.YtkjlcbfjllpcnaaW.PrintMore
set_option linter.unusedVariables false
def unh (c : List S34) (x : Nat) : Option Int := (nodesL x).find? fun j => !(sat x (c.getD j.toNat z34).f1)
theorem bit10 {x i : Nat} (hx : x < 1024) (hi : x.testBit i = true) : i < 10 := by
  rcases Nat.lt_or_ge i 10 with h | h
  · exact h
  · rw [bit_lt (n := 10) hx h] at hi; cases hi
theorem unh_none {c : List S34} {x : Nat} (hx : x < 1024) : unh c x = none ↔ ∀ i, x.testBit i = true → sat x (c.getD i z34).f1 = true := by
  unfold unh
  rw [List.find?_eq_none]
  constructor
  · intro h i hi
    have := h (i : Int) (nodesL_mem.2 (inS_iff.2 ⟨i, rfl, bit10 hx hi, hi⟩))
    rw [Int.toNat_natCast] at this
    simpa using this
  · intro h j hj
    obtain ⟨i, rfl, h10, hi⟩ := inS_iff.1 (nodesL_mem.1 hj)
    rw [Int.toNat_natCast, h i hi]
    simp
theorem unh_some {c : List S34} {x : Nat} {j : Int} (h : unh c x = some j) : ∃ i : Nat, j = (i : Int) ∧ i < 10 ∧ x.testBit i = true ∧ sat x (c.getD i z34).f1 = false := by
  have h1 := List.find?_some h
  have h2 := List.mem_of_find?_eq_some h
  obtain ⟨i, rfl, h10, hi⟩ := inS_iff.1 (nodesL_mem.1 h2)
  rw [Int.toNat_natCast] at h1
  exact ⟨i, rfl, h10, hi, by simpa using h1⟩
theorem Sub.lt {a b : Nat} (h : Sub a b) (hb : b < 1024) : a < 1024 := lt_of_bits (n := 10) fun i hi => by
  cases ha : a.testBit i
  · rfl
  · rw [← h i ha]; exact bit_lt hb hi
theorem Sub.le {a b : Nat} (h : Sub a b) : a ≤ b := by
  rw [← sub_and.2 h]; exact Nat.and_le_right
theorem quo_sat {c : List S34} {q i : Nat} (hq : q < 1024) (h : quo c q = true) (hi : q.testBit i = true) : sat q (c.getD i z34).f1 = true := ((quo_iff hq).1 h).2.2 i hi
theorem and_lt10 {a b : Nat} (hb : b < 1024) : a &&& b < 1024 := Nat.lt_of_le_of_lt Nat.and_le_right hb
theorem Sub.zero {a : Nat} (h : Sub a 0) : a = 0 := h.eq fun i hi => by rw [Nat.zero_testBit] at hi; cases hi
def allQ (c : List S34) : List Int := ((List.range (2 ^ c.length)).filter fun x => quo c x).map Int.ofNat
theorem pow10 {n : Nat} (hn : n ≤ 10) : 2 ^ n ≤ 1024 := Nat.pow_le_pow_right (n := 2) (by decide) hn
theorem allQ_len (c : List S34) (hn : c.length ≤ 10) : (allQ c).length ≤ 1024 := by
  have hp := pow10 hn
  unfold allQ
  rw [List.length_map]
  exact Nat.le_trans (List.length_filter_le _ _) (by simpa using hp)
def minQ (c : List S34) : List Int := leastS (allQ c)
theorem content_ev {c : List S34} (hc : Light c) {x j : Nat} (hx : x < 1024) (hj : j < c.length) : Ev (fun k => closure_content.f k c (j : Int) (x : Int)) (sat x (c.getD j z34).f1) := by
  have hj0 : (0 : Int) ≤ j := by omega
  have hj1 : (j : Int) < (c.length : Int) := by omega
  have hsat := Sat_ev hx 1000000 _ (hc.at j) (by decide)
  simp only [closure_content.f, hj0, hj1, Int.toNat_natCast, Option.bind_some, ↓reduceIte, Bool.false_eq_true, reduceCtorEq, decide_eq_true_eq, Go.Proofs.YtkjlcbfjllpcnaaW.PrintWords.rd, rd_T32, rd_T34]
  refine Ev.bind1 hsat ?_
  exact Ev.now _
def optN : Option Int → Int × Bool
  | some j => (j, true)
  | none => (0, false)
theorem unhappy_ev {c : List S34} (hc : Light c) {x : Nat} (hx : x < 1024) (hd : Sub x (decl c)) : Ev (fun k => closure_unhappy.f k c (x : Int)) (optN (unh c x)) := by
  simp only [closure_unhappy.f]
  refine Ev.bind1 (Nodes_ev hx) ?_
  have hl := nodesL_len x
  refine Ev.fold (xs := nodesL x) (L := fun (a : Unit) i k => closure_unhappy.l0 k (x : Int) (nodesL x) ((nodesL x).length : Int) i c) (by omega) (fun pre ys a => (ys.find? fun j => !(sat x (c.getD j.toNat z34).f1)) = unh c x) ?_ ?_ () rfl
  · intro a i hI hi
    rw [List.find?_nil] at hI
    (refine Ev.shift ?_; simp only [closure_unhappy.l0, hi, Option.bind_some, ↓reduceIte, Bool.false_eq_true, reduceCtorEq, decide_eq_true_eq, Go.Proofs.YtkjlcbfjllpcnaaW.PrintWords.rd, rd_T32, rd_T34])
    rw [← hI]
    exact Ev.now _
  · intro pre y ys a i e hI hi h0 hlt hw hrd
    obtain ⟨j, rfl, h10, hj⟩ := inS_iff.1 (nodesL_mem.1 (show y ∈ nodesL x by rw [e]; simp))
    have hcon := content_ev hc hx (decl_len (hd j hj))
    rw [List.find?_cons, Int.toNat_natCast] at hI
    cases hs : sat x (c.getD j z34).f1
    · refine Or.inr ?_
      rw [hs] at hI
      simp only [Bool.not_false] at hI
      rw [← hI]
      (refine Ev.shift ?_; simp only [closure_unhappy.l0, h0, hlt, hw, hrd, Option.bind_some, ↓reduceIte, Bool.false_eq_true, reduceCtorEq, decide_eq_true_eq, Go.Proofs.YtkjlcbfjllpcnaaW.PrintWords.rd, rd_T32, rd_T34])
      refine Ev.bind1 hcon ?_
      rw [hs]
      exact Ev.now _
    · rw [hs] at hI
      simp only [Bool.not_true] at hI
      refine Or.inl ⟨(), hI, fun k => ?_⟩
      (refine Ev.shift ?_; simp only [closure_unhappy.l0, h0, hlt, hw, hrd, Option.bind_some, ↓reduceIte, Bool.false_eq_true, reduceCtorEq, decide_eq_true_eq, Go.Proofs.YtkjlcbfjllpcnaaW.PrintWords.rd, rd_T32, rd_T34])
      refine Ev.bind1 hcon ?_
      rw [hs]
      exact k
theorem quo_unh {c : List S34} {x : Nat} (hx : x < 1024) (h0 : x ≠ 0) (hd : Sub x (decl c)) : quo c x = !(optN (unh c x)).2 := by
  cases hu : unh c x with
  | none => exact (quo_iff hx).2 ⟨h0, hd, (unh_none hx).1 hu⟩
  | some j =>
    obtain ⟨i, rfl, h10, hi, hs⟩ := unh_some hu
    cases hq : quo c x
    · rfl
    · rw [quo_sat hx hq hi] at hs; cases hs
theorem Quorum_ev {c : List S34} (hc : Light c) {x : Nat} (hx : x < 1024) : Ev (fun k => closure_Quorum.f k c (x : Int)) (quo c x) := by
  simp only [closure_Quorum.f, Valid_eq, vld_nat hx, Option.bind_some, ↓reduceIte, Bool.false_eq_true, reduceCtorEq, decide_eq_true_eq, Go.Proofs.YtkjlcbfjllpcnaaW.PrintWords.rd, rd_T32, rd_T34]
  by_cases h0 : x = 0
  · have h1 : (x : Int) = 0 := by omega
    simp only [h1, Option.bind_some, ↓reduceIte, Bool.false_eq_true, reduceCtorEq, decide_eq_true_eq, Go.Proofs.YtkjlcbfjllpcnaaW.PrintWords.rd, rd_T32, rd_T34]
    have : quo c x = false := by unfold quo; simp [h0]
    rw [this]
    exact Ev.now _
  have h1 : ¬ (x : Int) = 0 := by omega
  simp only [h1, closure_inside.f, Option.bind_some, ↓reduceIte, Bool.false_eq_true, reduceCtorEq, decide_eq_true_eq, Go.Proofs.YtkjlcbfjllpcnaaW.PrintWords.rd, rd_T32, rd_T34]
  have hD := Declared_ev hc.1
  have hin : Ev (fun k => (configuration_Declared.f k c).bind fun t => some (Go.bits .andNot .i64 (x : Int) t == 0)) (dif x (decl c) == 0) := by
    refine Ev.bind1 hD ?_
    have hdl := decl_lt c
    rw [andNot_nat (by omega) (by omega)]
    have : (((dif x (decl c) : Nat) : Int) == 0) = (dif x (decl c) == 0) := by
      by_cases h : dif x (decl c) = 0
      · rw [h]; rfl
      · have h2 : ¬ ((dif x (decl c) : Nat) : Int) = 0 := by omega
        rw [beq_eq_false_iff_ne.2 h, beq_eq_false_iff_ne.2 h2]
    rw [this]
    exact Ev.now _
  refine Ev.bind1 hin ?_
  by_cases h : Sub x (decl c)
  · rw [sub_dif.2 h]
    simp only [beq_self_eq_true, if_true]
    refine Ev.bind1 (unhappy_ev hc hx h) ?_
    rw [quo_unh hx h0 h]
    exact Ev.now _
  · have h2 : (dif x (decl c) == 0) = false := beq_eq_false_iff_ne.2 fun e => h (sub_dif.1 e)
    rw [h2]
    simp only [Bool.false_eq_true, if_false]
    have : quo c x = false := by
      cases hq : quo c x
      · rfl
      · exact absurd ((quo_iff hx).1 hq).2.1 h
    rw [this]
    exact Ev.now _
theorem all_ev {c : List S34} (hc : Light c) (hn : c.length ≤ 10) : Ev (fun k => quorums_all.f k c) (allQ c) := by
  have hp := pow10 hn
  simp only [quorums_all.f, shl_nat (show c.length ≤ 61 by omega)]
  unfold allQ
  generalize 2 ^ c.length = m at hp
  refine Ev.count (L := fun (x3 : List Int) i k => quorums_all.l0 k x3 (m : Int) i c) m (by omega) (fun i x3 => x3 = ((List.range i).filter fun x => quo c x).map Int.ofNat) ?_ ?_ [] rfl
  · intro x3 h
    have hlt : ¬ (m : Int) < (m : Int) := by omega
    (refine Ev.shift ?_; simp only [quorums_all.l0, hlt, Option.bind_some, ↓reduceIte, Bool.false_eq_true, reduceCtorEq, decide_eq_true_eq, Go.Proofs.YtkjlcbfjllpcnaaW.PrintWords.rd, rd_T32, rd_T34])
    rw [h]
    exact Ev.now _
  · intro i x3 hi h hw
    have hlt : (i : Int) < (m : Int) := by omega
    have hx : i < 1024 := by omega
    have hlen : x3.length < 17592186044416 := by
      rw [h, List.length_map]
      have := List.length_filter_le (fun x => quo c x) (List.range i)
      rw [List.length_range] at this
      omega
    refine Or.inl ⟨x3 ++ if quo c i = true then [(i : Int)] else [], ?_, fun k => ?_⟩
    · rw [h, List.range_succ, List.filter_append, List.map_append]
      cases hq : quo c i <;> simp [hq]
    · (refine Ev.shift ?_; simp only [quorums_all.l0, hlt, hw, Option.bind_some, ↓reduceIte, Bool.false_eq_true, reduceCtorEq, decide_eq_true_eq, Go.Proofs.YtkjlcbfjllpcnaaW.PrintWords.rd, rd_T32, rd_T34])
      refine Ev.bind1 (Quorum_ev hc hx) ?_
      cases hq : quo c i
      · simp only [hq, Bool.false_eq_true, if_false, List.append_nil] at k ⊢
        exact k
      · simp only [hq, if_true, hlen] at k ⊢
        exact k
theorem Minimal_ev {c : List S34} (hc : Light c) (hn : c.length ≤ 10) (hv : valC c = 0) : Ev (fun k => quorums_Minimal.f k c) (minQ c, 0) := by
  simp only [quorums_Minimal.f]
  refine Ev.bind1 (CValid_ev hc) ?_
  rw [hv]
  simp only [if_true]
  refine Ev.bind1 (all_ev hc hn) ?_
  have hl := allQ_len c hn
  have h1 : (allQ c).length ≤ 1048576 := by omega
  simp only [nodeset_Least.f, if_pos h1, Option.bind_some]
  exact Ev.now _
theorem Count_ev {c : List S34} (hc : Light c) (hn : c.length ≤ 10) (hv : valC c = 0) : Ev (fun k => quorums_Count.f k c) (((allQ c).length : Int), 0) := by
  simp only [quorums_Count.f]
  refine Ev.bind1 (CValid_ev hc) ?_
  rw [hv]
  simp only [if_true]
  refine Ev.bind1 (all_ev hc hn) ?_
  exact Ev.now _
def fwd (c : List S34) (j : Int) : Nat := uses (c.getD j.toNat z34).f1 &&& decl c
def stp (c : List S34) (s : Nat) : Nat := (nodesL s).foldl (fun a j => a ||| fwd c j) s
def Clo (c : List S34) (s : Nat) : Prop := ∀ i : Nat, s.testBit i = true → Sub (fwd c (i : Int)) s
theorem fwd_lt (c : List S34) (j : Int) : fwd c j < 1024 := and_lt10 (decl_lt c)
theorem fold_or_bit {f : Int → Nat} (i : Nat) : ∀ (l : List Int) (a : Nat), (l.foldl (fun a j => a ||| f j) a).testBit i = true ↔ a.testBit i = true ∨ ∃ j ∈ l, (f j).testBit i = true
  | [], a => by simp
  | x :: xs, a => by
    rw [List.foldl_cons, fold_or_bit i xs, or_bit, Bool.or_eq_true]
    constructor
    · rintro ((h | h) | ⟨j, h, k⟩)
      · exact Or.inl h
      · exact Or.inr ⟨x, by simp, h⟩
      · exact Or.inr ⟨j, by simp [h], k⟩
    · rintro (h | ⟨j, h, k⟩)
      · exact Or.inl (Or.inl h)
      · rcases List.mem_cons.1 h with rfl | h
        · exact Or.inl (Or.inr k)
        · exact Or.inr ⟨j, h, k⟩
theorem stp_bit {c : List S34} {s i : Nat} : (stp c s).testBit i = true ↔ s.testBit i = true ∨ ∃ j ∈ nodesL s, (fwd c j).testBit i = true := fold_or_bit i _ _
theorem stp_sub (c : List S34) (s : Nat) : Sub s (stp c s) := fun i hi => stp_bit.2 (Or.inl hi)
theorem stp_lt {c : List S34} {s : Nat} (h : s < 1024) : stp c s < 1024 := lt_of_bits (n := 10) fun i hi => by
  cases hb : (stp c s).testBit i
  · rfl
  · rcases stp_bit.1 hb with h1 | ⟨j, _, h1⟩
    · rw [← h1]; exact bit_lt h hi
    · rw [← h1]; exact bit_lt (fwd_lt c j) hi
theorem stp_in {c : List S34} {s T : Nat} (hT : Clo c T) (h : Sub s T) : Sub (stp c s) T := fun i hi => by
  rcases stp_bit.1 hi with h1 | ⟨j, hj, h1⟩
  · exact h i h1
  · obtain ⟨k, rfl, h10, hk⟩ := inS_iff.1 (nodesL_mem.1 hj)
    exact hT k (h k hk) i h1
theorem stp_fix {c : List S34} {s : Nat} (hs : s < 1024) (h : stp c s = s) : Clo c s := fun i hi k hk => by
  rw [← h]
  exact stp_bit.2 (Or.inr ⟨(i : Int), nodesL_mem.2 (inS_iff.2 ⟨i, rfl, bit10 hs hi, hi⟩), hk⟩)
def rchF (c : List S34) : Nat → Nat → Nat
  | 0, s => s
  | n + 1, s => if stp c s = s then s else rchF c n (stp c s)
def rch (c : List S34) (k : Nat) : Nat := rchF c 11 (2 ^ k)
theorem rchF_spec {c : List S34} : ∀ n s, s < 1024 → 10 < n + pcn s → Clo c (rchF c n s) ∧ Sub s (rchF c n s) ∧ rchF c n s < 1024 ∧ ∀ T, Clo c T → Sub s T → Sub (rchF c n s) T
  | 0, s, _, h => absurd (pcn_le s) (by omega)
  | n + 1, s, hs, h => by
    rw [rchF]
    by_cases e : stp c s = s
    · rw [if_pos e]
      exact ⟨stp_fix hs e, Sub.refl _, hs, fun T _ h => h⟩
    · rw [if_neg e]
      have h1 := pcn_sub (stp_lt (c := c) hs) (stp_sub c s) (fun h => e h.symm)
      obtain ⟨h2, h3, h4, h5⟩ := rchF_spec (c := c) n (stp c s) (stp_lt hs) (by omega)
      exact ⟨h2, (stp_sub c s).trans h3, h4, fun T hT hsT => h5 T hT (stp_in hT hsT)⟩
theorem pcn_two {k : Nat} (hk : k < 10) : 1 ≤ pcn (2 ^ k) := by
  have := pcn_lt (s := 0) hk (Nat.zero_testBit k)
  rw [Nat.zero_or] at this
  omega
theorem rch_spec {c : List S34} {k : Nat} (hk : k < 10) : Clo c (rch c k) ∧ Sub (2 ^ k) (rch c k) ∧ rch c k < 1024 ∧ ∀ T, Clo c T → Sub (2 ^ k) T → Sub (rch c k) T :=
  rchF_spec 11 _ (two_lt10 hk) (by have := pcn_two hk; omega)
theorem rch_self {c : List S34} {k : Nat} (hk : k < 10) : (rch c k).testBit k = true := (rch_spec hk).2.1 k (by rw [two_bit]; simp)
theorem rch_trans {c : List S34} {k j : Nat} (hk : k < 10) (hj : (rch c k).testBit j = true) : Sub (rch c j) (rch c k) :=
  (rch_spec (bit10 (rch_spec hk).2.2.1 hj)).2.2.2 _ (rch_spec hk).1 (Sub.two hj)
theorem rch_decl {c : List S34} {k : Nat} (hk : (decl c).testBit k = true) : Sub (rch c k) (decl c) :=
  (rch_spec (bit10 (decl_lt c) hk)).2.2.2 _ (fun i _ j hj => by unfold fwd at hj; rw [and_bit, Bool.and_eq_true] at hj; exact hj.2) (Sub.two hk)
def prt (c : List S34) (k : Nat) : Nat := (nodesL (rch c k)).foldl (fun a n => a ||| if (rch c n.toNat).testBit k = true then 2 ^ n.toNat else 0) 0
theorem prt_bit {c : List S34} {k n : Nat} (hk : k < 10) : (prt c k).testBit n = true ↔ (rch c k).testBit n = true ∧ (rch c n).testBit k = true := by
  unfold prt
  rw [fold_or_bit n]
  constructor
  · rintro (h | ⟨j, hj, h⟩)
    · rw [Nat.zero_testBit] at h; cases h
    · obtain ⟨i, rfl, h10, hi⟩ := inS_iff.1 (nodesL_mem.1 hj)
      rw [Int.toNat_natCast] at h
      split at h
      · rename_i h1
        rw [two_bit, decide_eq_true_eq] at h
        subst h
        exact ⟨hi, h1⟩
      · rw [Nat.zero_testBit] at h; cases h
  · rintro ⟨h1, h2⟩
    refine Or.inr ⟨(n : Int), nodesL_mem.2 (inS_iff.2 ⟨n, rfl, bit10 (rch_spec hk).2.2.1 h1, h1⟩), ?_⟩
    rw [Int.toNat_natCast, if_pos h2, two_bit]
    simp
theorem prt_self {c : List S34} {k : Nat} (hk : k < 10) : (prt c k).testBit k = true := (prt_bit hk).2 ⟨rch_self hk, rch_self hk⟩
theorem prt_lt {c : List S34} {k : Nat} (hk : k < 10) : prt c k < 1024 := Sub.lt (b := rch c k) (fun i hi => ((prt_bit hk).1 hi).1) (rch_spec hk).2.2.1
theorem prt_eq {c : List S34} {k n : Nat} (hk : k < 10) (h : (prt c k).testBit n = true) : prt c n = prt c k := by
  obtain ⟨h1, h2⟩ := (prt_bit hk).1 h
  have hn := bit10 (rch_spec hk).2.2.1 h1
  refine Sub.eq (fun i hi => ?_) fun i hi => ?_
  · obtain ⟨h3, h4⟩ := (prt_bit hn).1 hi
    exact (prt_bit hk).2 ⟨rch_trans hk h1 i h3, rch_trans (bit10 (rch_spec hn).2.2.1 h3) h4 k h2⟩
  · obtain ⟨h3, h4⟩ := (prt_bit hk).1 hi
    exact (prt_bit hn).2 ⟨rch_trans hn h2 i h3, rch_trans (bit10 (rch_spec hk).2.2.1 h3) h4 n h1⟩
def partsStep (c : List S34) (o : List Int × Nat) (k : Nat) : List Int × Nat := if o.2.testBit k = true ∨ (decl c).testBit k = false then o else (o.1 ++ [(prt c k : Int)], o.2 ||| prt c k)
def partsF (c : List S34) (n : Nat) : List Int × Nat := (List.range n).foldl (partsStep c) ([], 0)
def partsS (c : List S34) : List Int := (partsF c c.length).1
theorem partsF_succ (c : List S34) (n : Nat) : partsF c (n + 1) = partsStep c (partsF c n) n := by unfold partsF; rw [List.range_succ, List.foldl_append]; rfl
structure PInv (c : List S34) (n : Nat) (o : List Int × Nat) : Prop where
  form : ∀ x ∈ o.1, ∃ k, (decl c).testBit k = true ∧ x = (prt c k : Int)
  done : ∀ i, o.2.testBit i = true ↔ ∃ x ∈ o.1, x.toNat.testBit i = true
  apart : o.1.Pairwise fun x y => x.toNat &&& y.toNat = 0
  all : ∀ j, j < n → (decl c).testBit j = true → o.2.testBit j = true
  lt : o.2 < 1024
  len : o.1.length ≤ n
theorem partsF_inv (c : List S34) : ∀ n, PInv c n (partsF c n)
  | 0 => ⟨by simp [partsF], by simp [partsF], by simp [partsF], fun j h => absurd h (by omega), by simp [partsF], by simp [partsF]⟩
  | n + 1 => by
    have ih := partsF_inv c n
    rw [partsF_succ]
    unfold partsStep
    split
    · rename_i h
      refine ⟨ih.form, ih.done, ih.apart, fun j hj hd => ?_, ih.lt, Nat.le_succ_of_le ih.len⟩
      rcases Nat.lt_or_ge j n with h1 | h1
      · exact ih.all j h1 hd
      · have : j = n := by omega
        subst this
        rcases h with h | h
        · exact h
        · rw [h] at hd; cases hd
    · rename_i h
      have hd : (decl c).testBit n = true := by
        cases hb : (decl c).testBit n
        · exact absurd (Or.inr hb) h
        · rfl
      have hn := bit10 (decl_lt c) hd
      have hno : ∀ i, (prt c n).testBit i = true → (partsF c n).2.testBit i = false := by
        intro i hi
        cases hb : (partsF c n).2.testBit i
        · rfl
        · obtain ⟨x, hx, hxi⟩ := (ih.done i).1 hb
          obtain ⟨k, hk, rfl⟩ := ih.form x hx
          have hk10 := bit10 (decl_lt c) hk
          rw [Int.toNat_natCast] at hxi
          have e1 := prt_eq hk10 hxi
          rw [prt_eq hn hi] at e1
          refine absurd (Or.inl ((ih.done n).2 ⟨_, hx, ?_⟩)) h
          rw [Int.toNat_natCast, ← e1]
          exact prt_self hn
      refine ⟨fun x hx => ?_, fun i => ?_, ?_, fun j hj hdj => ?_, or_lt10 ih.lt (prt_lt hn), by simp; exact ih.len⟩
      · rcases List.mem_append.1 hx with hx | hx
        · exact ih.form x hx
        · rw [List.mem_singleton] at hx; exact ⟨n, hd, hx⟩
      · simp only [or_bit, Bool.or_eq_true, List.mem_append, List.mem_singleton]
        rw [ih.done]
        constructor
        · rintro (⟨x, h1, h2⟩ | h1)
          · exact ⟨x, Or.inl h1, h2⟩
          · exact ⟨_, Or.inr rfl, by rw [Int.toNat_natCast]; exact h1⟩
        · rintro ⟨x, h1 | h1, h2⟩
          · exact Or.inl ⟨x, h1, h2⟩
          · subst h1; rw [Int.toNat_natCast] at h2; exact Or.inr h2
      · simp only [List.pairwise_append, List.mem_singleton]
        refine ⟨ih.apart, by simp, fun x hx y hy => ?_⟩
        subst hy
        rw [Int.toNat_natCast]
        refine eq_bits fun i => ?_
        rw [and_bit, Nat.zero_testBit]
        cases h1 : (prt c n).testBit i
        · simp
        · have h2 := hno i h1
          cases h3 : x.toNat.testBit i
          · rfl
          · rw [(ih.done i).2 ⟨x, hx, h3⟩] at h2; cases h2
      · rw [or_bit, Bool.or_eq_true]
        rcases Nat.lt_or_ge j n with h1 | h1
        · exact Or.inl (ih.all j h1 hdj)
        · have : j = n := by omega
          subst this
          exact Or.inr (prt_self hn)
theorem reached_ev {c : List S34} (hc : Light c) {j : Nat} (hj : (decl c).testBit j = true) : Ev (fun k => quorums_reached.f k c (j : Int)) (rch c j : Int) := by
  have hdl := decl_lt c
  have h10 := bit10 hdl hj
  have hj0 : (0 : Int) ≤ j := by omega
  simp only [quorums_reached.f]
  refine Ev.bind1 (Declared_ev hc.1) ?_
  simp only [hj0, if_true, shl_nat' h10]
  have hstep : ∀ (r : Int) (s : Nat), s < 1024 → Sub s (decl c) →
      Ev (fun k => if ((stp c s : Nat) : Int) = (s : Int) then some (s : Int) else quorums_reached.l0 k (decl c : Int) (stp c s : Int) c) r →
      Ev (fun k => quorums_reached.l0 k (decl c : Int) (s : Int) c) r := by
    intro r s hs hd hk
    (refine Ev.shift ?_; simp only [quorums_reached.l0, Option.bind_some, ↓reduceIte, Bool.false_eq_true, reduceCtorEq, decide_eq_true_eq, Go.Proofs.YtkjlcbfjllpcnaaW.PrintWords.rd, rd_T32, rd_T34])
    refine Ev.bind1 (Nodes_ev hs) ?_
    have hl := nodesL_len s
    refine Ev.fold (xs := nodesL s) (L := fun (a : Nat) i k => quorums_reached.l1 k (decl c : Int) (s : Int) (a : Int) (nodesL s) ((nodesL s).length : Int) i c) (by omega) (fun pre ys a => a < 1024 ∧ ys.foldl (fun a j => a ||| fwd c j) a = stp c s) ?_ ?_ s ⟨hs, rfl⟩
    · rintro a i ⟨ha, hI⟩ hi
      rw [List.foldl_nil] at hI
      subst hI
      (refine Ev.shift ?_; simp only [quorums_reached.l1, hi, Option.bind_some, ↓reduceIte, Bool.false_eq_true, reduceCtorEq, decide_eq_true_eq, Go.Proofs.YtkjlcbfjllpcnaaW.PrintWords.rd, rd_T32, rd_T34])
      exact hk
    · rintro pre y ys a i e ⟨ha, hI⟩ hi h0 hlt hw hrd
      obtain ⟨m, rfl, hm10, hm⟩ := inS_iff.1 (nodesL_mem.1 (show y ∈ nodesL s by rw [e]; simp))
      have hml := decl_len (hd m hm)
      have hm0 : (0 : Int) ≤ m := by omega
      have hm1 : (m : Int) < (c.length : Int) := by omega
      have hu := Uses_ev 1000000 _ (hc.at m) (by decide)
      have hul := uses_lt (c.getD m z34).f1
      have hf := fwd_lt c (m : Int)
      rw [List.foldl_cons] at hI
      refine Or.inl ⟨a ||| fwd c (m : Int), ⟨or_lt10 ha hf, hI⟩, fun k => ?_⟩
      (refine Ev.shift ?_; simp only [quorums_reached.l1, h0, hlt, hw, hrd, hm0, hm1, Int.toNat_natCast, Option.bind_some, ↓reduceIte, Bool.false_eq_true, reduceCtorEq, decide_eq_true_eq, Go.Proofs.YtkjlcbfjllpcnaaW.PrintWords.rd, rd_T32, rd_T34])
      refine Ev.bind1 hu ?_
      have e1 : Go.bits .or .i64 (a : Int) (Go.bits .and .i64 (uses (c.getD m z34).f1 : Int) (decl c : Int)) = ((a ||| fwd c (m : Int) : Nat) : Int) := by
        rw [and_nat' hul hdl, or_nat' ha (and_lt10 hdl)]
        rfl
      rw [e1]
      exact k
  have key : ∀ (n s : Nat), s < 1024 → Sub s (decl c) → 10 < n + pcn s → Ev (fun k => quorums_reached.l0 k (decl c : Int) (s : Int) c) (rchF c n s : Int) := by
    intro n
    induction n with
    | zero => intro s _ _ h; exact absurd (pcn_le s) (by omega)
    | succ n ih =>
      intro s hs hd hp
      have hst := stp_lt (c := c) hs
      refine hstep _ s hs hd ?_
      rw [rchF]
      by_cases he : stp c s = s
      · have he' : ((stp c s : Nat) : Int) = (s : Int) := by omega
        simp only [he', he, if_true]
        exact Ev.now _
      · have he' : ¬ ((stp c s : Nat) : Int) = (s : Int) := by omega
        simp only [he', he, if_false]
        refine ih _ hst (stp_in (fun i _ k hk => by unfold fwd at hk; rw [and_bit, Bool.and_eq_true] at hk; exact hk.2) hd) ?_
        have := pcn_sub hst (stp_sub c s) (fun h => he h.symm)
        omega
  exact key 11 _ (two_lt10 h10) (Sub.two hj) (by have := pcn_two h10; omega)
def rchL (c : List S34) : List Int := (List.range c.length).map fun k => if (decl c).testBit k = true then (rch c k : Int) else 0
theorem rchL_len (c : List S34) : (rchL c).length = c.length := by unfold rchL; simp
theorem rchL_get {c : List S34} {k : Nat} (hk : k < c.length) : (rchL c).getD k 0 = if (decl c).testBit k = true then (rch c k : Int) else 0 := by
  unfold rchL
  rw [List.getD_eq_getElem?_getD, List.getElem?_map, List.getElem?_range hk]
  rfl
def setR (c : List S34) (l : List Int) (y : Int) : List Int := l.set y.toNat (rch c y.toNat : Int)
theorem setR_fold (c : List S34) : ∀ (ys l : List Int), (ys.foldl (setR c) l).length = l.length
  | [], l => rfl
  | y :: ys, l => by rw [List.foldl_cons, setR_fold c ys, setR, List.length_set]
theorem setR_get (c : List S34) (k : Nat) : ∀ (ys l : List Int), k < l.length → (∀ y ∈ ys, 0 ≤ y) → (ys.foldl (setR c) l).getD k 0 = if (k : Int) ∈ ys then (rch c k : Int) else l.getD k 0
  | [], l, h, _ => by simp
  | y :: ys, l, h, hy => by
    rw [List.foldl_cons, setR_get c k ys _ (by rw [setR, List.length_set]; exact h) (fun z hz => hy z (by simp [hz]))]
    have h0 := hy y (by simp)
    by_cases hm : (k : Int) ∈ ys
    · rw [if_pos hm, if_pos (by simp [hm])]
    · rw [if_neg hm]
      unfold setR
      by_cases e : (k : Int) = y
      · subst e
        rw [if_pos (by simp), Int.toNat_natCast, List.getD_eq_getElem?_getD, List.getElem?_set_self h]
        rfl
      · have hne : y.toNat ≠ k := by omega
        rw [if_neg (by simp [e, hm]), List.getD_eq_getElem?_getD, List.getElem?_set_ne hne, List.getD_eq_getElem?_getD]
theorem setR_all (c : List S34) (hn : c.length ≤ 10) : (nodesL (decl c)).foldl (setR c) (List.replicate c.length 0) = rchL c := by
  refine List.ext_getElem (by rw [setR_fold, rchL_len, List.length_replicate]) fun k h1 h2 => ?_
  rw [setR_fold, List.length_replicate] at h1
  have hg := setR_get c k (nodesL (decl c)) (List.replicate c.length 0) (by simpa using h1) (fun y hy => by
    obtain ⟨i, rfl, _⟩ := inS_iff.1 (nodesL_mem.1 hy); omega)
  have hr := rchL_get (c := c) h1
  have hz : (List.replicate c.length (0 : Int)).getD k 0 = 0 := by simp [List.getD_eq_getElem?_getD, List.getElem?_replicate]; split <;> rfl
  have hmem : (k : Int) ∈ nodesL (decl c) ↔ (decl c).testBit k = true := by
    rw [nodesL_mem, inS_nat _ _ (by omega)]
  have e : ((nodesL (decl c)).foldl (setR c) (List.replicate c.length 0)).getD k 0 = (rchL c).getD k 0 := by
    rw [hg, hr, hz]
    by_cases hb : (decl c).testBit k = true
    · rw [if_pos hb, if_pos (hmem.2 hb)]
    · rw [if_neg hb, if_neg (fun h => hb (hmem.1 h))]
  rw [List.getD_eq_getElem?_getD, List.getD_eq_getElem?_getD, List.getElem?_eq_getElem (by rw [setR_fold, List.length_replicate]; exact h1), List.getElem?_eq_getElem h2] at e
  simpa using e
theorem Parts_ev {c : List S34} (hc : Light c) (hn : c.length ≤ 10) (hv : valC c = 0) : Ev (fun k => quorums_Parts.f k c) (partsS c, 0) := by
  have hdl := decl_lt c
  have hc0 : (0 : Int) ≤ (c.length : Int) := by omega
  have hcl : c.length ≤ 35184372088832 := by omega
  simp only [quorums_Parts.f]
  refine Ev.bind1 (CValid_ev hc) ?_
  rw [hv]
  simp only [if_true, hc0, Int.toNat_natCast, hcl]
  refine Ev.bind1 (Declared_ev hc.1) ?_
  refine Ev.bind1 (Nodes_ev hdl) ?_
  have hl := nodesL_len (decl c)
  refine Ev.fold (xs := nodesL (decl c)) (L := fun (l : List Int) i k => quorums_Parts.l0 k l (nodesL (decl c)) ((nodesL (decl c)).length : Int) i c) (by omega) (fun pre ys l => ys.foldl (setR c) l = rchL c ∧ l.length = c.length) ?_ ?_ _ ⟨setR_all c hn, by simp⟩
  · rintro l i ⟨hI, hll⟩ hi
    rw [List.foldl_nil] at hI
    subst hI
    (refine Ev.shift ?_; simp only [quorums_Parts.l0, hi, Option.bind_some, ↓reduceIte, Bool.false_eq_true, reduceCtorEq, decide_eq_true_eq, Go.Proofs.YtkjlcbfjllpcnaaW.PrintWords.rd, rd_T32, rd_T34])
    have hlen := rchL_len c
    rw [hlen]
    refine Ev.count (L := fun (o : List Int × Nat) i k => quorums_Parts.l1 k (rchL c) o.1 (o.2 : Int) (rchL c) (c.length : Int) i) c.length (by omega) (fun i o => o = partsF c i) ?_ ?_ ([], 0) rfl
    · intro o h
      have hlt : ¬ (c.length : Int) < (c.length : Int) := by omega
      (refine Ev.shift ?_; simp only [quorums_Parts.l1, hlt, Option.bind_some, ↓reduceIte, Bool.false_eq_true, reduceCtorEq, decide_eq_true_eq, Go.Proofs.YtkjlcbfjllpcnaaW.PrintWords.rd, rd_T32, rd_T34])
      rw [h]
      exact Ev.now _
    · intro i o hi h hw
      have ih := partsF_inv c i
      rw [← h] at ih
      have hi0 : (0 : Int) ≤ i := by omega
      have hi1 : (i : Int) < (c.length : Int) := by omega
      have hi2 : (i : Int) < ((rchL c).length : Int) := by omega
      have h10 : i < 10 := by omega
      have hget := rchL_get (c := c) hi
      have hand : (Go.bits .and .i64 (o.2 : Int) (shl .i64 1 (i : Int)) = 0) ↔ o.2.testBit i = false := by
        rw [shl_nat' h10, and_nat' ih.lt (two_lt10 h10), ← and_two]
        omega
      have skip : o.2.testBit i = true ∨ (decl c).testBit i = false → o = partsF c (i + 1) := by
        intro hh
        rw [partsF_succ, ← h, partsStep, if_pos hh]
      cases hdone : o.2.testBit i
      · cases hdec : (decl c).testBit i
        · refine Or.inl ⟨o, skip (Or.inr hdec), fun k => ?_⟩
          rw [hdec] at hget
          simp only [Bool.false_eq_true, if_false] at hget
          (refine Ev.shift ?_; simp only [quorums_Parts.l1, hi0, hi1, hi2, hand, hdone, Int.toNat_natCast, hget, Option.bind_some, ↓reduceIte, Bool.false_eq_true, reduceCtorEq, decide_eq_true_eq, Go.Proofs.YtkjlcbfjllpcnaaW.PrintWords.rd, rd_T32, rd_T34])
          simp only [beq_self_eq_true]
          (refine Ev.shift ?_; simp only [quorums_Parts.j2, hw, Option.bind_some, ↓reduceIte, Bool.false_eq_true, reduceCtorEq, decide_eq_true_eq, Go.Proofs.YtkjlcbfjllpcnaaW.PrintWords.rd, rd_T32, rd_T34])
          exact k
        · have hr := rch_spec (c := c) h10
          have hrd := rch_decl hdec
          rw [hdec] at hget
          simp only [if_true] at hget
          have hne : ((rch c i : Int) == 0) = false := by
            have : rch c i ≠ 0 := fun e => by have := rch_self (c := c) h10; rw [e, Nat.zero_testBit] at this; cases this
            simp; omega
          refine Or.inl ⟨(o.1 ++ [(prt c i : Int)], o.2 ||| prt c i), ?_, fun k => ?_⟩
          · rw [partsF_succ, ← h, partsStep, if_neg (by rw [hdone, hdec]; simp)]
          · (refine Ev.shift ?_; simp only [quorums_Parts.l1, hi0, hi1, hi2, hand, hdone, Int.toNat_natCast, hget, hne, Option.bind_some, ↓reduceIte, Bool.false_eq_true, reduceCtorEq, decide_eq_true_eq, Go.Proofs.YtkjlcbfjllpcnaaW.PrintWords.rd, rd_T32, rd_T34])
            (refine Ev.shift ?_; simp only [quorums_Parts.j2, Option.bind_some, ↓reduceIte, Bool.false_eq_true, reduceCtorEq, decide_eq_true_eq, Go.Proofs.YtkjlcbfjllpcnaaW.PrintWords.rd, rd_T32, rd_T34])
            refine Ev.bind1 (Nodes_ev hr.2.2.1) ?_
            have hl2 := nodesL_len (rch c i)
            have hpl := prt_lt (c := c) h10
            refine Ev.fold (xs := nodesL (rch c i)) (L := fun (a : Nat) q k => quorums_Parts.l2 k (rchL c) o.1 (o.2 : Int) (i : Int) (a : Int) (rchL c) (c.length : Int) (i : Int) (nodesL (rch c i)) ((nodesL (rch c i)).length : Int) q) (by omega) (fun pre ys a => a < 1024 ∧ ys.foldl (fun a n => a ||| if (rch c n.toNat).testBit i = true then 2 ^ n.toNat else 0) a = prt c i) ?_ ?_ 0 ⟨by decide, rfl⟩
            · rintro a q ⟨ha, hI⟩ hq
              rw [List.foldl_nil] at hI
              subst hI
              have holen : o.1.length < 17592186044416 := by have := ih.len; omega
              (refine Ev.shift ?_; simp only [quorums_Parts.l2, hq, holen, or_nat' ih.lt hpl, hw, Option.bind_some, ↓reduceIte, Bool.false_eq_true, reduceCtorEq, decide_eq_true_eq, Go.Proofs.YtkjlcbfjllpcnaaW.PrintWords.rd, rd_T32, rd_T34])
              exact k
            · rintro pre y ys a q e ⟨ha, hI⟩ hq h0 hlt hwq hrdq
              obtain ⟨m, rfl, hm10, hm⟩ := inS_iff.1 (nodesL_mem.1 (show y ∈ nodesL (rch c i) by rw [e]; simp))
              have hmd := hrd m hm
              have hml := decl_len hmd
              have hm0 : (0 : Int) ≤ m := by omega
              have hm1 : (m : Int) < (c.length : Int) := by omega
              have hm2 : (m : Int) < ((rchL c).length : Int) := by omega
              have hgm := rchL_get (c := c) hml
              rw [hmd] at hgm
              simp only [if_true] at hgm
              have hrm := (rch_spec (c := c) hm10).2.2.1
              have hhas := Has_eq hrm (i : Int)
              rw [inS_nat _ _ h10] at hhas
              rw [List.foldl_cons, Int.toNat_natCast] at hI
              refine Or.inl ⟨_, ⟨?_, hI⟩, fun k => ?_⟩
              · split
                · exact or_lt10 ha (two_lt10 hm10)
                · rw [Nat.or_zero]; exact ha
              · (refine Ev.shift ?_; simp only [quorums_Parts.l2, h0, hlt, hwq, hrdq, hm0, hm1, hm2, Int.toNat_natCast, hgm, hhas, Option.bind_some, ↓reduceIte, Bool.false_eq_true, reduceCtorEq, decide_eq_true_eq, Go.Proofs.YtkjlcbfjllpcnaaW.PrintWords.rd, rd_T32, rd_T34])
                cases hb : (rch c m).testBit i
                · simp only [hb, Bool.false_eq_true, if_false, Nat.or_zero] at k ⊢
                  exact k
                · simp only [hb, if_true] at k ⊢
                  rw [shl_nat' hm10, or_nat' ha (two_lt10 hm10)]
                  exact k
      · refine Or.inl ⟨o, skip (Or.inl hdone), fun k => ?_⟩
        (refine Ev.shift ?_; simp only [quorums_Parts.l1, hi0, hi1, hi2, hand, hdone, Int.toNat_natCast, Option.bind_some, ↓reduceIte, Bool.false_eq_true, reduceCtorEq, decide_eq_true_eq, Go.Proofs.YtkjlcbfjllpcnaaW.PrintWords.rd, rd_T32, rd_T34])
        (refine Ev.shift ?_; simp only [quorums_Parts.j2, hw, Option.bind_some, ↓reduceIte, Bool.false_eq_true, reduceCtorEq, decide_eq_true_eq, Go.Proofs.YtkjlcbfjllpcnaaW.PrintWords.rd, rd_T32, rd_T34])
        exact k
  · rintro pre y ys l i e ⟨hI, hll⟩ hi h0 hlt hw hrd
    obtain ⟨m, rfl, hm10, hm⟩ := inS_iff.1 (nodesL_mem.1 (show y ∈ nodesL (decl c) by rw [e]; simp))
    have hml := decl_len hm
    have hm0 : (0 : Int) ≤ m := by omega
    have hm1 : (m : Int) < (l.length : Int) := by omega
    rw [List.foldl_cons] at hI
    refine Or.inl ⟨setR c l (m : Int), ⟨hI, by rw [setR, List.length_set]; exact hll⟩, fun k => ?_⟩
    (refine Ev.shift ?_; simp only [quorums_Parts.l0, h0, hlt, hw, hrd, Option.bind_some, ↓reduceIte, Bool.false_eq_true, reduceCtorEq, decide_eq_true_eq, Go.Proofs.YtkjlcbfjllpcnaaW.PrintWords.rd, rd_T32, rd_T34])
    refine Ev.bind1 (reached_ev hc hm) ?_
    simp only [hm0, hm1, if_true]
    exact k
def memS (n : Nat) (t : Int) : S34 := ⟨true, ⟨t, (List.range n).map Int.ofNat, []⟩⟩
def sameC (n : Nat) (t : Int) : List S34 := List.replicate n (memS n t)
theorem sameA_ev {n : Nat} (hn : n ≤ 1000) (t : Int) : Ev (fun k => trustquorumlaw10_same.f k (n : Int) t) (sameC n t) := by
  have hlt : ¬ (n : Int) < (n : Int) := by omega
  simp only [trustquorumlaw10_same.f]
  refine Ev.count (L := fun (l : List Int) i k => trustquorumlaw10_same.l0 k (n : Int) i t l) n (by omega) (fun i l => l = (List.range i).map Int.ofNat) ?_ ?_ [] rfl
  · intro l hl
    (refine Ev.shift ?_; simp only [trustquorumlaw10_same.l0, hlt, Option.bind_some, ↓reduceIte, Bool.false_eq_true, reduceCtorEq, decide_eq_true_eq, Go.Proofs.YtkjlcbfjllpcnaaW.PrintWords.rd, rd_T32, rd_T34])
    subst hl
    refine Ev.count (L := fun (c : List S34) i k => trustquorumlaw10_same.l1 k (n : Int) i t ((List.range n).map Int.ofNat) c) n (by omega) (fun i c => c = List.replicate i (memS n t)) ?_ ?_ [] rfl
    · intro c h
      (refine Ev.shift ?_; simp only [trustquorumlaw10_same.l1, hlt, Option.bind_some, ↓reduceIte, Bool.false_eq_true, reduceCtorEq, decide_eq_true_eq, Go.Proofs.YtkjlcbfjllpcnaaW.PrintWords.rd, rd_T32, rd_T34])
      rw [h]
      exact Ev.now _
    · intro i c hi h hw
      have h1 : (i : Int) < (n : Int) := by omega
      have h2 : c.length < 2199023255552 := by rw [h, List.length_replicate]; omega
      refine Or.inl ⟨c ++ [memS n t], by rw [h, List.replicate_succ'], fun k => ?_⟩
      (refine Ev.shift ?_; simp only [trustquorumlaw10_same.l1, h1, h2, hw, Option.bind_some, ↓reduceIte, Bool.false_eq_true, reduceCtorEq, decide_eq_true_eq, Go.Proofs.YtkjlcbfjllpcnaaW.PrintWords.rd, rd_T32, rd_T34])
      exact k
  · intro i l hi h hw
    have h1 : (i : Int) < (n : Int) := by omega
    have h2 : l.length < 17592186044416 := by rw [h, List.length_map, List.length_range]; omega
    refine Or.inl ⟨l ++ [(i : Int)], by rw [h, List.range_succ, List.map_append]; rfl, fun k => ?_⟩
    (refine Ev.shift ?_; simp only [trustquorumlaw10_same.l0, h1, h2, hw, Option.bind_some, ↓reduceIte, Bool.false_eq_true, reduceCtorEq, decide_eq_true_eq, Go.Proofs.YtkjlcbfjllpcnaaW.PrintWords.rd, rd_T32, rd_T34])
    exact k
theorem s3_light : Light (sameC 3 2) := ⟨by decide, by decide⟩
theorem s3_min : minQ (sameC 3 2) = [3, 5, 6] := by
  have e : allQ (sameC 3 2) = [3, 5, 6, 7] := by decide +kernel
  have e2 : sortS [3, 5, 6, 7] = [3, 5, 6, 7] := sortS_eq (List.Perm.refl _) (by decide)
  have e3 : ([3, 5, 6, 7] : List Int).filter vld = [3, 5, 6, 7] := by decide
  rw [minQ, e, leastS, e3, e2]
  decide
theorem awake10_ev : Ev (fun k => trustquorumlaw10_awake.f k) true := by
  have hs : Ev (fun k => trustquorumlaw10_same.f k 3 2) (sameC 3 2) := sameA_ev (n := 3) (by decide) 2
  have h10 : (sameC 3 2).length ≤ 10 := by decide
  have hv : valC (sameC 3 2) = 0 := by decide
  have hm := Minimal_ev s3_light h10 hv
  rw [s3_min] at hm
  have hn := Count_ev s3_light h10 hv
  have e4 : ((allQ (sameC 3 2)).length : Int) = 4 := by decide +kernel
  rw [e4] at hn
  have hp := Parts_ev s3_light h10 hv
  have e5 : partsS (sameC 3 2) = [7] := by decide +kernel
  rw [e5] at hp
  simp only [trustquorumlaw10_awake.f]
  refine Ev.bind1 hs ?_
  refine Ev.bind1 hm ?_
  refine Ev.bind1 hs ?_
  refine Ev.bind1 hn ?_
  refine Ev.bind1 hs ?_
  refine Ev.bind1 hp ?_
  simp only [if_true]
  refine Ev.bind1 (Ints_ev (by decide)) ?_
  simp only [decide_true, if_true]
  refine Ev.bind1 (Ints_ev (by decide)) ?_
  simp only [decide_true, if_true]
  exact Ev.now _
theorem Symm_ev {c : List S34} (hc : Light c) (hn : c.length ≤ 10) (hv : valC c = 0)
    (h : ∀ s i j : Nat, (decl c).testBit i = true → (decl c).testBit j = true → sat s (c.getD i z34).f1 = sat s (c.getD j z34).f1) : Ev (fun k => quorums_Symmetric.f k c) (true, 0) := by
  have hp := pow10 hn
  have hdl := decl_lt c
  simp only [quorums_Symmetric.f]
  refine Ev.bind1 (CValid_ev hc) ?_
  rw [hv]
  simp only [if_true]
  refine Ev.bind1 (Declared_ev hc.1) ?_
  refine Ev.bind1 (Nodes_ev hdl) ?_
  have hl := nodesL_len (decl c)
  have hsh : shl .i64 1 (c.length : Int) = ((2 ^ c.length : Nat) : Int) := shl_nat (by omega)
  rw [hsh]
  have hmem : ∀ y ∈ nodesL (decl c), ∃ i : Nat, y = (i : Int) ∧ (decl c).testBit i = true ∧ i < c.length := fun y hy => by
    obtain ⟨i, rfl, _, hi⟩ := inS_iff.1 (nodesL_mem.1 hy)
    exact ⟨i, rfl, hi, decl_len hi⟩
  generalize nodesL (decl c) = N at hl hmem
  generalize 2 ^ c.length = m at hp
  refine Ev.count (L := fun (u : Unit) i k => quorums_Symmetric.l0 k N (m : Int) i c) m (by omega) (fun _ _ => True) ?_ ?_ () trivial
  · intro u _
    have hlt : ¬ (m : Int) < (m : Int) := by omega
    (refine Ev.shift ?_; simp only [quorums_Symmetric.l0, hlt, Option.bind_some, ↓reduceIte, Bool.false_eq_true, reduceCtorEq, decide_eq_true_eq, Go.Proofs.YtkjlcbfjllpcnaaW.PrintWords.rd, rd_T32, rd_T34])
    exact Ev.now _
  · intro s u hs _ hw
    have hlt : (s : Int) < (m : Int) := by omega
    have hs10 : s < 1024 := by omega
    refine Or.inl ⟨(), trivial, fun k => ?_⟩
    (refine Ev.shift ?_; simp only [quorums_Symmetric.l0, hlt, Option.bind_some, ↓reduceIte, Bool.false_eq_true, reduceCtorEq, decide_eq_true_eq, Go.Proofs.YtkjlcbfjllpcnaaW.PrintWords.rd, rd_T32, rd_T34])
    refine Ev.fold (xs := N) (L := fun (u : Unit) i k => quorums_Symmetric.l1 k N (s : Int) (m : Int) (s : Int) N (N.length : Int) i c) (by omega) (fun _ _ _ => True) ?_ ?_ () trivial
    · intro u i _ hi
      (refine Ev.shift ?_; simp only [quorums_Symmetric.l1, hi, hw, Option.bind_some, ↓reduceIte, Bool.false_eq_true, reduceCtorEq, decide_eq_true_eq, Go.Proofs.YtkjlcbfjllpcnaaW.PrintWords.rd, rd_T32, rd_T34])
      exact k
    · intro pre y ys u i e _ hi h0 hlt hw2 hrd
      refine Or.inl ⟨(), trivial, fun k' => ?_⟩
      obtain ⟨a, rfl, ha, hal⟩ := hmem y (by rw [e]; simp)
      have hN : 0 < N.length := by rw [e]; simp; omega
      obtain ⟨b, hb, hbd, hbl⟩ := hmem (N.getD 0 0) (getD_mem' 0 hN)
      have hN' : (0 : Int) < (N.length : Int) := by omega
      have ha0 : (0 : Int) ≤ a := by omega
      have ha1 : (a : Int) < (c.length : Int) := by omega
      have hb0 : (0 : Int) ≤ b := by omega
      have hb1 : (b : Int) < (c.length : Int) := by omega
      have s1 := Sat_ev hs10 1000000 _ (hc.at a) (by decide)
      have s2 := Sat_ev hs10 1000000 _ (hc.at b) (by decide)
      have hg : N.getD (0 : Int).toNat 0 = (b : Int) := hb
      (refine Ev.shift ?_; simp only [quorums_Symmetric.l1, h0, hlt, hw2, hrd, ha0, ha1, Int.toNat_natCast, Option.bind_some, ↓reduceIte, Bool.false_eq_true, reduceCtorEq, decide_eq_true_eq, Go.Proofs.YtkjlcbfjllpcnaaW.PrintWords.rd, rd_T32, rd_T34])
      refine Ev.bind1 s1 ?_
      simp only [hN', hg, hb0, hb1, if_true, Int.toNat_natCast]
      refine Ev.bind1 s2 ?_
      rw [h s a b ha hbd]
      simp only [bne_self_eq_false, Bool.false_eq_true, if_false]
      exact k'
def repC (n : Nat) (x : S32) : List S34 := List.replicate n ⟨true, x⟩
theorem repC_get {n : Nat} {x : S32} {i : Nat} (hi : i < n) : (repC n x).getD i z34 = ⟨true, x⟩ := by
  unfold repC
  rw [List.getD_eq_getElem?_getD, List.getElem?_replicate, if_pos hi]
  rfl
theorem repC_decl {n : Nat} {x : S32} (hn : n ≤ 10) : decl (repC n x) = 2 ^ n - 1 := eq_bits fun i => by
  rw [decl_bit, full_bit]
  by_cases hi : i < n
  · rw [repC_get hi]
    have : i < 10 := by omega
    simp [hi, this]
  · have : (repC n x).getD i z34 = z34 := by
      unfold repC
      rw [List.getD_eq_getElem?_getD, List.getElem?_replicate, if_neg hi]
      rfl
    rw [this]
    simp [hi]
    intro _; rfl
mutual
theorem sat_zero : ∀ (t : S32), chk t = 0 → sat 0 t = false
  | ⟨n, l, ts⟩ => by
    intro h
    rw [chk] at h
    rw [sat, decide_eq_false_iff_not]
    split at h
    · cases h
    rename_i h1
    split at h
    · cases h
    split at h
    · have h2 := satC_zero ts h
      have h3 : l.countP (fun x => inS 0 x) = 0 := by
        rw [List.countP_eq_zero]
        intro x _ hx
        unfold inS at hx
        simp at hx
      rw [h2, h3]
      omega
    · rename_i h4; exact absurd h h4
theorem satC_zero : ∀ (l : List S32), chkL l = 0 → satC 0 l = 0
  | [], _ => by rw [satC]
  | t :: ts, h => by
    rw [chkL] at h
    rw [satC]
    split at h
    · rename_i h1
      rw [sat_zero t h1, satC_zero ts h]
      simp
    · rename_i h1; exact absurd h h1
end
theorem validT_chk {t : S32} (h : validT t = 0) : chk t = 0 := by
  unfold validT at h
  split at h
  · cases h
  split at h
  · cases h
  exact h
theorem quo_rep {n : Nat} {x : S32} (hn : n ≤ 10) (hx : chk x = 0) {z : Nat} (hz : z < 2 ^ n) : quo (repC n x) z = sat z x := by
  have hp := pow10 hn
  have hz10 : z < 1024 := by omega
  have hget : ∀ i, z.testBit i = true → (repC n x).getD i z34 = ⟨true, x⟩ := fun i hi => repC_get (by
    rcases Nat.lt_or_ge i n with h | h
    · exact h
    · rw [bit_lt hz h] at hi; cases hi)
  have hsub : Sub z (decl (repC n x)) := fun i hi => by
    rw [repC_decl hn, full_bit]
    rcases Nat.lt_or_ge i n with h | h
    · simpa using h
    · rw [bit_lt hz h] at hi; cases hi
  cases hs : sat z x
  · cases hq : quo (repC n x) z
    · rfl
    · have hh := (quo_iff hz10).1 hq
      obtain ⟨i, hi⟩ : ∃ i, z.testBit i = true := by
        apply Classical.byContradiction
        intro hno
        refine hh.1 (eq_bits fun i => ?_)
        rw [Nat.zero_testBit]
        cases hb : z.testBit i
        · rfl
        · exact absurd ⟨i, hb⟩ hno
      have := hh.2.2 i hi
      rw [hget i hi, hs] at this
      cases this
  · refine (quo_iff hz10).2 ⟨fun e => ?_, hsub, fun i hi => by rw [hget i hi]; exact hs⟩
    rw [e, sat_zero x hx] at hs
    cases hs
theorem rep_all {n : Nat} {x : S32} (hn : n ≤ 10) (hx : chk x = 0) : (allQ (repC n x)).length = (List.range (2 ^ n)).countP fun z => sat z x := by
  unfold allQ
  have hl : (repC n x).length = n := by simp [repC]
  rw [List.length_map, ← List.countP_eq_length_filter, hl]
  refine List.countP_congr fun z hz => ?_
  rw [quo_rep hn hx (List.mem_range.1 hz)]
theorem rep_same {n : Nat} {x : S32} (hn : n ≤ 10) (s i j : Nat) (hi : (decl (repC n x)).testBit i = true) (hj : (decl (repC n x)).testBit j = true) : sat s ((repC n x).getD i z34).f1 = sat s ((repC n x).getD j z34).f1 := by
  rw [repC_decl hn, full_bit] at hi hj
  rw [repC_get (by simpa using hi), repC_get (by simpa using hj)]
end Go.Proofs.Ytkjlcbfjllpcnaa.X
namespace Go.Proofs.Ytkjlcbfjllpcnaa.Pure
open Go.RowKit Go.Proofs.Ytkjlcbfjllpcnaa.X Go.Proofs.YtkjlcbfjllpcnaaW.PrintWords Go.Proofs.YtkjlcbfjllpcnaaW.PrintLast
set_option linter.unusedVariables false
theorem trust3_ev {s : List Int} (hs : s.length < 4611686018427387904) {n : Nat} (hn : n ≤ 10) (hn1 : 1 ≤ n) {s1 : Int} (h1 : 0 ≤ s1) :
    EvP (fun k => trustquorummake_trust.f k s s1 (n : Int) 3) (fun r => In n 78 (toT r) ∧ 0 ≤ r.2.2.2) :=
  trust_row hs (b := 24) hn hn1 (by decide) 3 (by decide) (fun _ s1 h1 => by
    rw [show wrap64 ((3 : Int) - 1) = 2 from w64 (by decide) (by decide)]
    exact trust_ev hs hn hn1 h1) h1
theorem Trust3_ev {s : List Int} (hs : s.length < 4611686018427387904) {n : Nat} (hn : n ≤ 10) (hn1 : 1 ≤ n) {s1 : Int} (h1 : 0 ≤ s1) :
    EvP (fun k => trustquorummake_Trust.f k s s1 (n : Int) 3) (fun r => Okt n (toT r) ∧ 0 ≤ r.2.2.2) := by
  simp only [trustquorummake_Trust.f]
  refine EvP.bind (trust3_ev hs hn hn1 h1) ?_
  rintro ⟨v, l, ts, s'⟩ ⟨h2, h3⟩
  simp only at h2 h3 ⊢
  refine EvP.bind (EvP.ofEv (ref_Valid_ev (toT (v, l, ts, s')) (by have := h2.1; omega))) ?_
  rintro r rfl
  by_cases h : validT (toT (v, l, ts, s')) = 0
  · simp only [h, if_true]
    exact EvP.now ⟨⟨h, Nat.le_trans h2.1 (by decide), h2.2⟩, h3⟩
  · simp only [h, if_false]
    refine EvP.bind (tN hs h3 (by omega) (by omega)) ?_
    rintro ⟨v, s'⟩ ⟨⟨h2, h3⟩, h4⟩
    exact EvP.now ⟨one_ok h2 h3 hn, h4⟩
theorem QuorumsSymmetric : trustquorumlaw10_QuorumsSymmetric.Pure := by
  intro l0 h1 h2 h3
  obtain ⟨s, hs, e⟩ := New_ev l0 (by omega)
  suffices h : EvP (fun k => trustquorumlaw10_QuorumsSymmetric.f k l0) (fun r => r = true) by
    obtain ⟨r, rfl, h⟩ := h
    exact h.rounds
  simp only [trustquorumlaw10_QuorumsSymmetric.f, e, Option.bind_some]
  refine EvP.bind (tRange hs (by decide) (by decide) (by decide) (by decide)) ?_
  rintro ⟨n, s1⟩ ⟨⟨h5, h6⟩, h7⟩
  simp only at h5 h6 h7 ⊢
  obtain ⟨n, rfl⟩ := Int.eq_ofNat_of_zero_le (show 0 ≤ n by omega)
  have hn1 : 1 ≤ n := by omega
  have hn10 : n ≤ 10 := by omega
  refine EvP.bind (Trust3_ev hs hn10 hn1 h7) ?_
  rintro ⟨t, l, ts, s2⟩ ⟨hx, h8⟩
  simp only at h8 ⊢
  have hx' : Okt n ⟨t, l, ts⟩ := hx
  have hck := validT_chk hx'.1
  have hok : OkC (repC n ⟨t, l, ts⟩) := by
    refine ⟨by simpa [repC] using hn1, by simpa [repC] using hn10, fun m hm => ?_⟩
    have hl : (repC n (⟨t, l, ts⟩ : S32)).length = n := by simp [repC]
    rw [hl]
    unfold repC at hm
    rw [List.eq_of_mem_replicate hm]
    unfold OkM
    rw [if_pos rfl]
    exact hx'
  have hlen : (repC n (⟨t, l, ts⟩ : S32)).length = n := by simp [repC]
  have hwt : wt (⟨t, l, ts⟩ : S32) < 1000000 := by have := hx'.2.1; omega
  refine EvP.ofEv ?_ |>.imp (fun a h => h)
  have hlt : ¬ (n : Int) < (n : Int) := by omega
  refine Ev.count (L := fun (c : List S34) i k => trustquorumlaw10_QuorumsSymmetric.l0 k (n : Int) i t l ts c) n (by omega) (fun i c => c = List.replicate i ⟨true, ⟨t, l, ts⟩⟩) ?_ ?_ [] rfl
  · intro c hc
    have hc' : c = repC n ⟨t, l, ts⟩ := hc
    refine Ev.shift ?_
    simp only [trustquorumlaw10_QuorumsSymmetric.l0, hlt, if_false]
    rw [hc']
    refine Ev.bind1 (Symm_ev hok.light (by omega) hok.valC (fun s i j hi hj => rep_same hn10 s i j hi hj)) ?_
    refine Ev.bind1 (Count_ev hok.light (by omega) hok.valC) ?_
    rw [rep_all hn10 hck]
    have hn0 : (0 : Int) ≤ n := by omega
    have hsh : shl .i64 1 (n : Int) = ((2 ^ n : Nat) : Int) := shl_nat (by omega)
    have hp := pow10 hn10
    generalize 2 ^ n = m at hsh hp
    refine Ev.count (L := fun (a : Nat) i k => trustquorumlaw10_QuorumsSymmetric.l1 k (n : Int) true 0 (((List.range m).countP fun z => sat z ⟨t, l, ts⟩ : Nat) : Int) 0 (a : Int) i t l ts) m (by omega) (fun i a => a = (List.range i).countP fun z => sat z ⟨t, l, ts⟩) ?_ ?_ 0 rfl
    · intro a ha
      have hlt : ¬ (m : Int) < (m : Int) := by omega
      refine Ev.shift ?_
      simp only [trustquorumlaw10_QuorumsSymmetric.l1, hn0, hsh, hlt, if_true, if_false]
      rw [ha]
      simp only [if_true]
      refine Ev.bind1 awake10_ev ?_
      exact Ev.now _
    · intro i a hi ha hw
      have hlt : (i : Int) < (m : Int) := Int.ofNat_lt.2 hi
      have hi10 : i < 1024 := Nat.lt_of_lt_of_le hi hp
      have hle : a ≤ i := by rw [ha]; have := List.countP_le_length (p := fun z => sat z ⟨t, l, ts⟩) (l := List.range i); simpa using this
      have hw1 : wrap64 ((a : Int) + 1) = ((a + 1 : Nat) : Int) := by clear hsh hw; exact w64 (by omega) (by omega)
      refine Or.inl ⟨a + if sat i ⟨t, l, ts⟩ = true then 1 else 0, by rw [ha, List.range_succ, List.countP_append, List.countP_singleton], fun k => ?_⟩
      refine Ev.shift ?_
      simp only [trustquorumlaw10_QuorumsSymmetric.l1, hn0, hsh, hlt, if_true]
      refine Ev.bind1 (ref02_Sat_ev hi10 1000000 (⟨t, l, ts⟩ : S32) hwt (by decide)) ?_
      cases hb : sat i ⟨t, l, ts⟩
      · rw [hb] at k
        simp only [Bool.false_eq_true, if_false, Nat.add_zero, hw] at k ⊢
        exact k
      · rw [hb] at k
        simp only [if_true, hw] at k ⊢
        rw [hw1]
        exact k
  · intro i c hi hc hw
    have h1 : (i : Int) < (n : Int) := Int.ofNat_lt.2 hi
    have h2 : c.length < 2199023255552 := by clear hw; rw [hc, List.length_replicate]; omega
    refine Or.inl ⟨c ++ [⟨true, ⟨t, l, ts⟩⟩], by rw [hc, List.replicate_succ'], fun k => ?_⟩
    refine Ev.shift ?_
    simp only [trustquorumlaw10_QuorumsSymmetric.l0, h1, h2, hw, if_true]
    exact k
end Go.Proofs.Ytkjlcbfjllpcnaa.Pure
