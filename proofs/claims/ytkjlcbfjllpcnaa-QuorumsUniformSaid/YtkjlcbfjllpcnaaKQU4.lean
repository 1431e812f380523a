/- Proof of the statement QuorumsUniform: part 4 of 5, what it computes and why that answers true. -/
import Derived.Test.YtkjlcbfjllpcnaaKQU3
set_option linter.unusedVariables false
set_option linter.unusedSimpArgs false
namespace Go.Proofs.Ytkjlcbfjllpcnaa.X
open Go.RowKit Go.Proofs.YtkjlcbfjllpcnaaW.PrintWords Go.Proofs.YtkjlcbfjllpcnaaW.PrintLast Go.Proofs.YtkjlcbfjllpcnaaW.PrintMore
attribute [local go_sem] max2_int min2_int max_two min_two max_three min_three max_four min_four
set_option linter.unusedVariables false
set_option linter.unusedSimpArgs false
mutual
def trustquorumlaw10_QuorumsUniform.l0:Nat→Int→Int→List Int→Int→Int→Int→List Int→Int→Bool→Int→Int→Int→Int→Option (Bool)
 | 0,_,_,_,_,_,_,_,_,_,_,_,_,_=>none
 | k+1,x5,x6,x7,x8,x9,x10,x11,x12,x13,x14,x15,x16,x17=>if 0≤x5 then (if x17 < (shl .i64 1 x5) then ((trustquorumref01_Size.f k x17).bind fun t814=>(if t814=x6 then ((trustquorumref01_Size.f k x17).bind fun t815=>(if t815 ≥ x6 then (trustquorumlaw10_QuorumsUniform.l0 k x5 x6 x7 x8 x9 x10 x11 x12 x13 x14 (wrap64 (x15+1)) (wrap64 (x16+1)) (wrap64 (x17+1))) else (trustquorumlaw10_QuorumsUniform.l0 k x5 x6 x7 x8 x9 x10 x11 x12 x13 x14 (wrap64 (x15+1)) x16 (wrap64 (x17+1))))) else ((trustquorumref01_Size.f k x17).bind fun t816=>(if t816 ≥ x6 then (trustquorumlaw10_QuorumsUniform.l0 k x5 x6 x7 x8 x9 x10 x11 x12 x13 x14 x15 (wrap64 (x16+1)) (wrap64 (x17+1))) else (trustquorumlaw10_QuorumsUniform.l0 k x5 x6 x7 x8 x9 x10 x11 x12 x13 x14 x15 x16 (wrap64 (x17+1))))))) else (trustquorumlaw10_QuorumsUniform.l1 k x5 x6 x7 x8 x9 x10 x11 x12 x13 x14 x15 x16 x7 (x7.length:Int) 0)) else (none)
def trustquorumlaw10_QuorumsUniform.l1:Nat→Int→Int→List Int→Int→Int→Int→List Int→Int→Bool→Int→Int→Int→List Int→Int→Int→Option (Bool)
 | 0,_,_,_,_,_,_,_,_,_,_,_,_,_,_,_=>none
 | k+1,x5,x6,x7,x8,x9,x10,x11,x12,x13,x14,x15,x16,x75,x76,x77=>if x77 < x76 then (if 0≤x77 then (if x77 < (x75.length:Int) then ((trustquorumref01_Size.f k (rd x75 x77)).bind fun t818=>(if t818=x6 then (if 0≤x5 then (if (rd x75 x77) ≥ (shl .i64 1 x5) then (some false) else (trustquorumlaw10_QuorumsUniform.l1 k x5 x6 x7 x8 x9 x10 x11 x12 x13 x14 x15 x16 x75 x76 (wrap64 (x77+1)))) else (none)) else (some false))) else (none)) else (none)) else (if x8=0 then (if x10=0 then (if x12=0 then (if x14=0 then (if (x7.length:Int)=x15 then (if x9=x16 then (if 0≤x5 then ((trustquorummake_Ints.f k x11 (([wrap64 ((shl .i64 1 x5) - 1)]:List Int))).bind fun t822=>(if t822=true then (if x13=true then ((trustquorumlaw10_awake.f k).bind fun t823=>(some t823)) else (some false)) else (some false))) else (none)) else (some false)) else (some false)) else (some false)) else (some false)) else (some false)) else (some false))
end
def trustquorumlaw10_QuorumsUniform.f (k:Nat) (a0:Int) (a1:Int):Option (Bool):=if (wrap64 (1+(Int.tmod (wrap64 (a0)) 8)))=0 then (none) else ((trustquorumlaw10_same.f k (wrap64 (1+(Int.tmod (wrap64 (a0)) 8))) (wrap64 (1+(Int.tmod (wrap64 (a1)) (wrap64 (1+(Int.tmod (wrap64 (a0)) 8))))))).bind fun t790=>((quorums_Minimal.f k t790).bind fun bt793=>((trustquorumlaw10_same.f k (wrap64 (1+(Int.tmod (wrap64 (a0)) 8))) (wrap64 (1+(Int.tmod (wrap64 (a1)) (wrap64 (1+(Int.tmod (wrap64 (a0)) 8))))))).bind fun t797=>((quorums_Count.f k t797).bind fun bt800=>((trustquorumlaw10_same.f k (wrap64 (1+(Int.tmod (wrap64 (a0)) 8))) (wrap64 (1+(Int.tmod (wrap64 (a1)) (wrap64 (1+(Int.tmod (wrap64 (a0)) 8))))))).bind fun t802=>((quorums_Parts.f k t802).bind fun bt805=>((trustquorumlaw10_same.f k (wrap64 (1+(Int.tmod (wrap64 (a0)) 8))) (wrap64 (1+(Int.tmod (wrap64 (a1)) (wrap64 (1+(Int.tmod (wrap64 (a0)) 8))))))).bind fun t809=>((quorums_Symmetric.f k t809).bind fun bt812=>(trustquorumlaw10_QuorumsUniform.l0 k (wrap64 (1+(Int.tmod (wrap64 (a0)) 8))) (wrap64 (1+(Int.tmod (wrap64 (a1)) (wrap64 (1+(Int.tmod (wrap64 (a0)) 8)))))) bt793.1 bt793.2 bt800.1 bt800.2 bt805.1 bt805.2 bt812.1 bt812.2 0 0 0)))))))))
set_option maxHeartbeats 8000000 in
set_option maxRecDepth 100000 in
theorem trustquorumlaw10_QuorumsUniform.calls (k:Nat) (a0:Int) (a1:Int) (w:World) (h:trustquorumlaw10_QuorumsUniform.f k a0 a1=some true) :
  Calls Try.prog 10 #[.int .u8 a0,.int .u8 a1] w fun e w'=>e=.returned (.bool true)∧Below w.heap.size w w':=by
 have HB:=Z (Below.refl w.heap.size w)
 have H:(if (wrap64 (1+(Int.tmod (wrap64 (a0)) 8)))=0 then (none) else ((trustquorumlaw10_same.f k (wrap64 (1+(Int.tmod (wrap64 (a0)) 8))) (wrap64 (1+(Int.tmod (wrap64 (a1)) (wrap64 (1+(Int.tmod (wrap64 (a0)) 8))))))).bind fun t790=>((quorums_Minimal.f k t790).bind fun bt793=>((trustquorumlaw10_same.f k (wrap64 (1+(Int.tmod (wrap64 (a0)) 8))) (wrap64 (1+(Int.tmod (wrap64 (a1)) (wrap64 (1+(Int.tmod (wrap64 (a0)) 8))))))).bind fun t797=>((quorums_Count.f k t797).bind fun bt800=>((trustquorumlaw10_same.f k (wrap64 (1+(Int.tmod (wrap64 (a0)) 8))) (wrap64 (1+(Int.tmod (wrap64 (a1)) (wrap64 (1+(Int.tmod (wrap64 (a0)) 8))))))).bind fun t802=>((quorums_Parts.f k t802).bind fun bt805=>((trustquorumlaw10_same.f k (wrap64 (1+(Int.tmod (wrap64 (a0)) 8))) (wrap64 (1+(Int.tmod (wrap64 (a1)) (wrap64 (1+(Int.tmod (wrap64 (a0)) 8))))))).bind fun t809=>((quorums_Symmetric.f k t809).bind fun bt812=>(trustquorumlaw10_QuorumsUniform.l0 k (wrap64 (1+(Int.tmod (wrap64 (a0)) 8))) (wrap64 (1+(Int.tmod (wrap64 (a1)) (wrap64 (1+(Int.tmod (wrap64 (a0)) 8)))))) bt793.1 bt793.2 bt800.1 bt800.2 bt805.1 bt805.2 bt812.1 bt812.2 0 0 0))))))))))=some true:=h
 clear h
 obtain ⟨ji24,hji24⟩:∃ j_:Int,(wrap64 (1+(Int.tmod (wrap64 (a0)) 8)))=j_:=⟨_,rfl⟩
 simp only [hji24] at H
 have hji24w:(IntKind.i64.wrap (1+(Int.tmod (wrap64 (a0)) 8)))=ji24:=(i64_w _).trans hji24
 by_cases c3:ji24=0
 ·rw [if_pos c3] at H
  exact absurd H (by simp)
 ·rw [if_neg c3] at H
  have c3b0:(ji24 == 0)=false:=beq_eq_false_iff_ne.mpr c3
  have c3b1:(ji24 != 0)=true:=bne_iff_ne.mpr c3
  replace H:=Option.bind_eq_some_iff.mp H
  obtain ⟨t790,A40,H⟩:=H
  try dsimp only at H
  have A4:=Z A40
  clear A40
  replace H:=Option.bind_eq_some_iff.mp H
  obtain ⟨⟨t793,t796⟩,A50,H⟩:=H
  try dsimp only at H
  have A5:=Z A50
  clear A50
  replace H:=Option.bind_eq_some_iff.mp H
  obtain ⟨t797,A60,H⟩:=H
  try dsimp only at H
  have A6:=Z A60
  clear A60
  replace H:=Option.bind_eq_some_iff.mp H
  obtain ⟨⟨t800,t801⟩,A70,H⟩:=H
  try dsimp only at H
  have A7:=Z A70
  clear A70
  replace H:=Option.bind_eq_some_iff.mp H
  obtain ⟨t802,A80,H⟩:=H
  try dsimp only at H
  have A8:=Z A80
  clear A80
  replace H:=Option.bind_eq_some_iff.mp H
  obtain ⟨⟨t805,t808⟩,A90,H⟩:=H
  try dsimp only at H
  have A9:=Z A90
  clear A90
  replace H:=Option.bind_eq_some_iff.mp H
  obtain ⟨t809,A100,H⟩:=H
  try dsimp only at H
  have A10:=Z A100
  clear A100
  replace H:=Option.bind_eq_some_iff.mp H
  obtain ⟨⟨t812,t813⟩,A110,H⟩:=H
  try dsimp only at H
  have A11:=Z A110
  clear A110
  have H':=Z H
  clear H
  go_enter Try.func10,Try.ntmps10
  go_wp2_with (first|((with_reducible refine gate_callee (f:=40) rfl ?_);refine goesL_ (some 32) rfl rfl Try.func40 (by kernel_rfl) rfl #[.int .i64 ji24,.int .i64 (wrap64 (1+(Int.tmod (wrap64 (a1)) ji24)))] rfl pG ?_;(with_reducible refine (trustquorumlaw10_same.calls k ji24 (wrap64 (1+(Int.tmod (wrap64 (a1)) ji24))) t790 _ A4.out).mono ?_);rintro e w12 ⟨v791,rfl,ho0,hb⟩;refine ⟨_,rfl,?_⟩;have n0_:=Z (Kd.R_lower ho0 (below_size pB));have n1_:=Z (below_step pB hb);clear HB;have HO792:=n0_;have HB:=n1_;clear n0_ n1_;(try clear hb);(try clear hb2);(try clear hk);(try clear hi);(try clear ho0);obtain ⟨Ao13,co13,eo13⟩:=Kd.R_slice HO792.out;subst eo13)|((with_reducible refine gate_callee (f:=36) rfl ?_);refine goesL_ (some 33) rfl rfl Try.func36 (by kernel_rfl) rfl #[.agg #[.slice Ao13 t790.length co13]] rfl pG ?_;(with_reducible refine (quorums_Minimal.calls k _ _ t790 t793 t796 _ ?side1 ?side2 A5.out).mono ?_);(case side1=>repeat (first|exact (Kd.R_reads' HO792.out).2.2|(with_reducible refine Kd.C_alloc ?_ _)|(with_reducible refine Kd.C_drewN ?_ _)|(with_reducible refine Kd.C_drew ?_)));(case side2=>exact (Kd.R_reads' HO792.out).2.1);rintro e w14 ⟨v794,rfl,ho0,hb⟩;refine ⟨_,rfl,?_⟩;have n0_:=Z (Kd.R_elder' (pR HO792) (Kd.R_base ho0) hb);have n1_:=Z (Kd.R_lower ho0 (below_size pB));have n2_:=Z (below_step pB hb);clear HO792;clear HB;have HO792:=n0_;have HO795:=n1_;have HB:=n2_;clear n0_ n1_ n2_;(try clear hb);(try clear hb2);(try clear hk);(try clear hi);(try clear ho0))|((with_reducible refine gate_callee (f:=40) rfl ?_);refine goesL_ (some 39) rfl rfl Try.func40 (by kernel_rfl) rfl #[.int .i64 ji24,.int .i64 (wrap64 (1+(Int.tmod (wrap64 (a1)) ji24)))] rfl pG ?_;(with_reducible refine (trustquorumlaw10_same.calls k ji24 (wrap64 (1+(Int.tmod (wrap64 (a1)) ji24))) t797 _ A6.out).mono ?_);rintro e w15 ⟨v798,rfl,ho0,hb⟩;refine ⟨_,rfl,?_⟩;have n0_:=Z (Kd.R_elder' (pR HO792) (Kd.R_base ho0) hb);have n1_:=Z (Kd.R_below (pR HO795) hb);have n2_:=Z (Kd.R_lower (Kd.R_new' (Kd.R_new' ho0 (Kd.R_lt (pR HO792))) (Kd.R_lt (pR HO795))) (below_size pB));have n3_:=Z (below_step pB hb);clear HO792;clear HO795;clear HB;have HO792:=n0_;have HO795:=n1_;have HO799:=n2_;have HB:=n3_;clear n0_ n1_ n2_ n3_;(try clear hb);(try clear hb2);(try clear hk);(try clear hi);(try clear ho0);obtain ⟨Ao16,co16,eo16⟩:=Kd.R_slice HO799.out;subst eo16)|((with_reducible refine gate_callee (f:=41) rfl ?_);refine goesL_ (some 40) rfl rfl Try.func41 (by kernel_rfl) rfl #[.agg #[.slice Ao16 t797.length co16]] rfl pG ?_;(with_reducible refine (quorums_Count.calls k _ _ t797 t800 t801 _ ?side1 ?side2 A7.out).mono ?_);(case side1=>repeat (first|exact (Kd.R_reads' HO799.out).2.2|(with_reducible refine Kd.C_alloc ?_ _)|(with_reducible refine Kd.C_drewN ?_ _)|(with_reducible refine Kd.C_drew ?_)));(case side2=>exact (Kd.R_reads' HO799.out).2.1);rintro e w17 ⟨rfl,hb⟩;refine ⟨_,rfl,?_⟩;have n0_:=Z (Kd.R_below (pR HO792) hb);have n1_:=Z (Kd.R_below (pR HO795) hb);have n2_:=Z (Kd.R_below (pR HO799) hb);have n3_:=Z (below_step pB hb);clear HO792;clear HO795;clear HO799;clear HB;have HO792:=n0_;have HO795:=n1_;have HO799:=n2_;have HB:=n3_;clear n0_ n1_ n2_ n3_;(try clear hb);(try clear hb2);(try clear hk);(try clear hi))|((with_reducible refine gate_callee (f:=40) rfl ?_);refine goesL_ (some 46) rfl rfl Try.func40 (by kernel_rfl) rfl #[.int .i64 ji24,.int .i64 (wrap64 (1+(Int.tmod (wrap64 (a1)) ji24)))] rfl pG ?_;(with_reducible refine (trustquorumlaw10_same.calls k ji24 (wrap64 (1+(Int.tmod (wrap64 (a1)) ji24))) t802 _ A8.out).mono ?_);rintro e w18 ⟨v803,rfl,ho0,hb⟩;refine ⟨_,rfl,?_⟩;have n0_:=Z (Kd.R_elder' (pR HO792) (Kd.R_base ho0) hb);have n1_:=Z (Kd.R_below (pR HO795) hb);have n2_:=Z (Kd.R_elder' (pR HO799) (Kd.R_base ho0) hb);have n3_:=Z (Kd.R_lower (Kd.R_new' (Kd.R_new' (Kd.R_new' ho0 (Kd.R_lt (pR HO792))) (Kd.R_lt (pR HO795))) (Kd.R_lt (pR HO799))) (below_size pB));have n4_:=Z (below_step pB hb);clear HO792;clear HO795;clear HO799;clear HB;have HO792:=n0_;have HO795:=n1_;have HO799:=n2_;have HO804:=n3_;have HB:=n4_;clear n0_ n1_ n2_ n3_ n4_;(try clear hb);(try clear hb2);(try clear hk);(try clear hi);(try clear ho0);obtain ⟨Ao19,co19,eo19⟩:=Kd.R_slice HO804.out;subst eo19)|((with_reducible refine gate_callee (f:=39) rfl ?_);refine goesL_ (some 47) rfl rfl Try.func39 (by kernel_rfl) rfl #[.agg #[.slice Ao19 t802.length co19]] rfl pG ?_;(with_reducible refine (quorums_Parts.calls k _ _ t802 t805 t808 _ ?side1 ?side2 A9.out).mono ?_);(case side1=>repeat (first|exact (Kd.R_reads' HO804.out).2.2|(with_reducible refine Kd.C_alloc ?_ _)|(with_reducible refine Kd.C_drewN ?_ _)|(with_reducible refine Kd.C_drew ?_)));(case side2=>exact (Kd.R_reads' HO804.out).2.1);rintro e w20 ⟨v806,rfl,ho0,hb⟩;refine ⟨_,rfl,?_⟩;have n0_:=Z (Kd.R_elder' (pR HO792) (Kd.R_base ho0) hb);have n1_:=Z (Kd.R_elder' (pR HO795) (Kd.R_base ho0) hb);have n2_:=Z (Kd.R_elder' (pR HO799) (Kd.R_base ho0) hb);have n3_:=Z (Kd.R_elder' (pR HO804) (Kd.R_base ho0) hb);have n4_:=Z (Kd.R_lower (Kd.R_new' ho0 (Kd.R_lt (pR HO795))) (below_size pB));have n5_:=Z (below_step pB hb);clear HO792;clear HO795;clear HO799;clear HO804;clear HB;have HO792:=n0_;have HO795:=n1_;have HO799:=n2_;have HO804:=n3_;have HO807:=n4_;have HB:=n5_;clear n0_ n1_ n2_ n3_ n4_ n5_;(try clear hb);(try clear hb2);(try clear hk);(try clear hi);(try clear ho0))|((with_reducible refine gate_callee (f:=40) rfl ?_);refine goesL_ (some 53) rfl rfl Try.func40 (by kernel_rfl) rfl #[.int .i64 ji24,.int .i64 (wrap64 (1+(Int.tmod (wrap64 (a1)) ji24)))] rfl pG ?_;(with_reducible refine (trustquorumlaw10_same.calls k ji24 (wrap64 (1+(Int.tmod (wrap64 (a1)) ji24))) t809 _ A10.out).mono ?_);rintro e w21 ⟨v810,rfl,ho0,hb⟩;refine ⟨_,rfl,?_⟩;have n0_:=Z (Kd.R_elder' (pR HO792) (Kd.R_base ho0) hb);have n1_:=Z (Kd.R_below (pR HO795) hb);have n2_:=Z (Kd.R_elder' (pR HO799) (Kd.R_base ho0) hb);have n3_:=Z (Kd.R_elder' (pR HO804) (Kd.R_base ho0) hb);have n4_:=Z (Kd.R_below (pR HO807) hb);have n5_:=Z (Kd.R_lower (Kd.R_new' (Kd.R_new' (Kd.R_new' (Kd.R_new' (Kd.R_new' ho0 (Kd.R_lt (pR HO792))) (Kd.R_lt (pR HO795))) (Kd.R_lt (pR HO799))) (Kd.R_lt (pR HO804))) (Kd.R_lt (pR HO807))) (below_size pB));have n6_:=Z (below_step pB hb);clear HO792;clear HO795;clear HO799;clear HO804;clear HO807;clear HB;have HO792:=n0_;have HO795:=n1_;have HO799:=n2_;have HO804:=n3_;have HO807:=n4_;have HO811:=n5_;have HB:=n6_;clear n0_ n1_ n2_ n3_ n4_ n5_ n6_;(try clear hb);(try clear hb2);(try clear hk);(try clear hi);(try clear ho0);obtain ⟨Ao22,co22,eo22⟩:=Kd.R_slice HO811.out;subst eo22)|((with_reducible refine gate_callee (f:=42) rfl ?_);refine goesL_ (some 54) rfl rfl Try.func42 (by kernel_rfl) rfl #[.agg #[.slice Ao22 t809.length co22]] rfl pG ?_;(with_reducible refine (quorums_Symmetric.calls k _ _ t809 t812 t813 _ ?side1 ?side2 A11.out).mono ?_);(case side1=>repeat (first|exact (Kd.R_reads' HO811.out).2.2|(with_reducible refine Kd.C_alloc ?_ _)|(with_reducible refine Kd.C_drewN ?_ _)|(with_reducible refine Kd.C_drew ?_)));(case side2=>exact (Kd.R_reads' HO811.out).2.1);rintro e w23 ⟨rfl,hb⟩;refine ⟨_,rfl,?_⟩;have n0_:=Z (Kd.R_below (pR HO792) hb);have n1_:=Z (Kd.R_below (pR HO795) hb);have n2_:=Z (Kd.R_below (pR HO799) hb);have n3_:=Z (Kd.R_below (pR HO804) hb);have n4_:=Z (Kd.R_below (pR HO807) hb);have n5_:=Z (Kd.R_below (pR HO811) hb);have n6_:=Z (below_step pB hb);clear HO792;clear HO795;clear HO799;clear HO804;clear HO807;clear HO811;clear HB;have HO792:=n0_;have HO795:=n1_;have HO799:=n2_;have HO804:=n3_;have HO807:=n4_;have HO811:=n5_;have HB:=n6_;clear n0_ n1_ n2_ n3_ n4_ n5_ n6_;(try clear hb);(try clear hb2);(try clear hk);(try clear hi)))
  go_loopg [15,16,17] k (fun kq v15 v16 v17 w'=>∃ (x15_1:Int) (x16_1:Int) (x17_1:Int),v15=.int .i64 x15_1∧v16=.int .i64 x16_1∧v17=.int .i64 x17_1∧Aside0 (trustquorumlaw10_QuorumsUniform.l0 kq ji24 (wrap64 (1+(Int.tmod (wrap64 (a1)) ji24))) t793 t796 t800 t801 t805 t808 t812 t813 x15_1 x16_1 x17_1=some true)∧Aside0 (kq≤k)∧Aside0 (Kd.R (Kd.int .i64) 3 w' w.heap.size (fun k_=>some k_ ≠ (v806:Value).ownBlock) v794 t793)∧Aside0 (Kd.R (Kd.int .i64) 3 w' w.heap.size (fun k_=>some k_ ≠ (v794:Value).ownBlock) v806 t805)∧Aside0 (Below w.heap.size w w'))
  case atStart=>exact ⟨(0),(0),(0),pE,pE,pE,H',⟨Nat.le_refl _⟩,⟨by (with_reducible repeat (first|apply Kd.R_alloc|apply Kd.R_drewN|apply Kd.R_drew));exact Kd.R_mono HO795.out (fun _ hk=>hk.2)⟩,⟨by (with_reducible repeat (first|apply Kd.R_alloc|apply Kd.R_drewN|apply Kd.R_drew));exact Kd.R_mono HO807.out (fun _ hk=>hk.2)⟩,⟨pB⟩⟩
  case round =>
   clear H'
   try clear c1
   try clear p2
   try clear c3
   try clear c3b0
   try clear c3b1
   try clear c4
   try clear p6
   try clear c10
   obtain ⟨x15_1,x16_1,x17_1,rfl,rfl,rfl,HA,HK1,HO_7,HO_11,HB⟩:=hrel
   cases gk with
   | zero=>exact absurd HA.out (by simp [trustquorumlaw10_QuorumsUniform.l0])
   | succ k1 =>
    have H:=HA.out
    clear HA
    simp only [trustquorumlaw10_QuorumsUniform.l0] at H
    by_cases c25:0≤(ji24)
    ·rw [if_pos c25] at H
     have c25b0:=eq_true c25
     have c25b1:decide (0≤(ji24))=true:=decide_eq_true c25
     clear c25
     obtain ⟨ji26,hji26⟩:∃ j_:Int,(shl .i64 1 (ji24))=j_:=⟨_,rfl⟩
     replace H:(if x17_1 < (ji26) then ((trustquorumref01_Size.f k1 x17_1).bind fun t814=>(if t814=(wrap64 (1+(Int.tmod (wrap64 (a1)) (ji24)))) then ((trustquorumref01_Size.f k1 x17_1).bind fun t815=>(if t815 ≥ (wrap64 (1+(Int.tmod (wrap64 (a1)) (ji24)))) then (trustquorumlaw10_QuorumsUniform.l0 k1 (ji24) (wrap64 (1+(Int.tmod (wrap64 (a1)) (ji24)))) t793 t796 t800 t801 t805 t808 t812 t813 (wrap64 (x15_1+1)) (wrap64 (x16_1+1)) (wrap64 (x17_1+1))) else (trustquorumlaw10_QuorumsUniform.l0 k1 (ji24) (wrap64 (1+(Int.tmod (wrap64 (a1)) (ji24)))) t793 t796 t800 t801 t805 t808 t812 t813 (wrap64 (x15_1+1)) x16_1 (wrap64 (x17_1+1))))) else ((trustquorumref01_Size.f k1 x17_1).bind fun t816=>(if t816 ≥ (wrap64 (1+(Int.tmod (wrap64 (a1)) (ji24)))) then (trustquorumlaw10_QuorumsUniform.l0 k1 (ji24) (wrap64 (1+(Int.tmod (wrap64 (a1)) (ji24)))) t793 t796 t800 t801 t805 t808 t812 t813 x15_1 (wrap64 (x16_1+1)) (wrap64 (x17_1+1))) else (trustquorumlaw10_QuorumsUniform.l0 k1 (ji24) (wrap64 (1+(Int.tmod (wrap64 (a1)) (ji24)))) t793 t796 t800 t801 t805 t808 t812 t813 x15_1 x16_1 (wrap64 (x17_1+1))))))) else (trustquorumlaw10_QuorumsUniform.l1 k1 (ji24) (wrap64 (1+(Int.tmod (wrap64 (a1)) (ji24)))) t793 t796 t800 t801 t805 t808 t812 t813 x15_1 x16_1 t793 (t793.length:Int) 0))=some true:=by first|(rw [hji26] at H;exact H)|(simp only [hji26] at H ⊢;exact H)
     have hji26_:(IntKind.i64.wrap (1 * 2 ^ min (ji24).toNat 64))=ji26:=hji26
     have hji26z:(ji24)≤64→(IntKind.i64.wrap (1 * 2 ^ (ji24).toNat))=ji26:=shl_small hji26
     have hji26u:(IntKind.i64.wrap (2 ^ min (ji24).toNat 64))=ji26:=by have h_:=hji26_;rw [Int.one_mul] at h_;exact h_
     have hji26v:(ji24)≤64→(IntKind.i64.wrap (2 ^ (ji24).toNat))=ji26:=fun hle_=>by have h_:=hji26z hle_;rw [Int.one_mul] at h_;exact h_
     have hji26y:(wrap64 (1 * 2 ^ min (ji24).toNat 64))=ji26:=(i64_w _).symm.trans hji26_
     have hji26x:(ji24)≤64→(wrap64 (1 * 2 ^ (ji24).toNat))=ji26:=fun h_=>(i64_w _).symm.trans (hji26z h_)
     by_cases c27:x17_1 < (ji26)
     ·rw [if_pos c27] at H
      have c27b0:decide (x17_1 < (ji26))=true:=decide_eq_true c27
      clear c27
      replace H:=Option.bind_eq_some_iff.mp H
      obtain ⟨t814,A280,H⟩:=H
      try dsimp only at H
      have A28:=Z A280
      clear A280
      by_cases c29:t814=(wrap64 (1+(Int.tmod (wrap64 (a1)) (ji24))))
      ·rw [if_pos c29] at H
       have c29b0:(t814 == (wrap64 (1+(Int.tmod (wrap64 (a1)) (ji24)))))=true:=beq_iff_eq.mpr c29
       have c29b1:(t814 != (wrap64 (1+(Int.tmod (wrap64 (a1)) (ji24)))))=false:=bne_eq_false_iff_eq.mpr c29
       clear c29
       replace H:=Option.bind_eq_some_iff.mp H
       obtain ⟨t815,A300,H⟩:=H
       try dsimp only at H
       have A30:=Z A300
       clear A300
       by_cases c31:t815 ≥ (wrap64 (1+(Int.tmod (wrap64 (a1)) (ji24))))
       ·rw [if_pos c31] at H
        have c31b0:decide ((wrap64 (1+(Int.tmod (wrap64 (a1)) (ji24))))≤t815)=true:=decide_eq_true c31
        clear c31
        have H':=Z H
        clear H
        go_wp2_with (first|((with_reducible refine gate_callee (f:=43) rfl ?_);refine goesL_ (some 64) rfl rfl Try.func43 (by kernel_rfl) rfl #[.int .i64 x17_1] rfl pG ?_;(with_reducible refine (trustquorumref01_Size.calls k1 x17_1 t814 _ A28.out).mono ?_);rintro e w' ⟨rfl,⟨nd,rfl⟩⟩;refine ⟨_,rfl,?_⟩)|((with_reducible refine gate_callee (f:=43) rfl ?_);refine goesL_ (some 70) rfl rfl Try.func43 (by kernel_rfl) rfl #[.int .i64 x17_1] rfl pG ?_;(with_reducible refine (trustquorumref01_Size.calls k1 x17_1 t815 _ A30.out).mono ?_);rintro e w' ⟨rfl,⟨nd,rfl⟩⟩;refine ⟨_,rfl,?_⟩))
        go_roundg k1
        case measure=>have:=HK1.out;omega
        case rel=>exact ⟨(wrap64 (x15_1+1)),(wrap64 (x16_1+1)),(wrap64 (x17_1+1)),pE,pE,pE,H',⟨by have:=HK1.out;omega⟩,⟨pR HO_7⟩,⟨pR HO_11⟩,⟨pB⟩⟩
       ·rw [if_neg c31] at H
        have c31b0:decide ((wrap64 (1+(Int.tmod (wrap64 (a1)) (ji24))))≤t815)=false:=decide_eq_false c31
        clear c31
        have H':=Z H
        clear H
        go_wp2_with (first|((with_reducible refine gate_callee (f:=43) rfl ?_);refine goesL_ (some 64) rfl rfl Try.func43 (by kernel_rfl) rfl #[.int .i64 x17_1] rfl pG ?_;(with_reducible refine (trustquorumref01_Size.calls k1 x17_1 t814 _ A28.out).mono ?_);rintro e w' ⟨rfl,⟨nd,rfl⟩⟩;refine ⟨_,rfl,?_⟩)|((with_reducible refine gate_callee (f:=43) rfl ?_);refine goesL_ (some 70) rfl rfl Try.func43 (by kernel_rfl) rfl #[.int .i64 x17_1] rfl pG ?_;(with_reducible refine (trustquorumref01_Size.calls k1 x17_1 t815 _ A30.out).mono ?_);rintro e w' ⟨rfl,⟨nd,rfl⟩⟩;refine ⟨_,rfl,?_⟩))
        go_roundg k1
        case measure=>have:=HK1.out;omega
        case rel=>exact ⟨(wrap64 (x15_1+1)),(x16_1),(wrap64 (x17_1+1)),pE,pE,pE,H',⟨by have:=HK1.out;omega⟩,⟨pR HO_7⟩,⟨pR HO_11⟩,⟨pB⟩⟩
      ·rw [if_neg c29] at H
       have c29b0:(t814 == (wrap64 (1+(Int.tmod (wrap64 (a1)) (ji24)))))=false:=beq_eq_false_iff_ne.mpr c29
       have c29b1:(t814 != (wrap64 (1+(Int.tmod (wrap64 (a1)) (ji24)))))=true:=bne_iff_ne.mpr c29
       replace H:=Option.bind_eq_some_iff.mp H
       obtain ⟨t816,A320,H⟩:=H
       try dsimp only at H
       have A32:=Z A320
       clear A320
       by_cases c33:t816 ≥ (wrap64 (1+(Int.tmod (wrap64 (a1)) (ji24))))
       ·rw [if_pos c33] at H
        have c33b0:decide ((wrap64 (1+(Int.tmod (wrap64 (a1)) (ji24))))≤t816)=true:=decide_eq_true c33
        clear c33
        have H':=Z H
        clear H
        go_wp2_with (first|((with_reducible refine gate_callee (f:=43) rfl ?_);refine goesL_ (some 64) rfl rfl Try.func43 (by kernel_rfl) rfl #[.int .i64 x17_1] rfl pG ?_;(with_reducible refine (trustquorumref01_Size.calls k1 x17_1 t814 _ A28.out).mono ?_);rintro e w' ⟨rfl,⟨nd,rfl⟩⟩;refine ⟨_,rfl,?_⟩)|((with_reducible refine gate_callee (f:=43) rfl ?_);refine goesL_ (some 70) rfl rfl Try.func43 (by kernel_rfl) rfl #[.int .i64 x17_1] rfl pG ?_;(with_reducible refine (trustquorumref01_Size.calls k1 x17_1 t816 _ A32.out).mono ?_);rintro e w' ⟨rfl,⟨nd,rfl⟩⟩;refine ⟨_,rfl,?_⟩))
        go_roundg k1
        case measure=>have:=HK1.out;omega
        case rel=>exact ⟨(x15_1),(wrap64 (x16_1+1)),(wrap64 (x17_1+1)),pE,pE,pE,H',⟨by have:=HK1.out;omega⟩,⟨pR HO_7⟩,⟨pR HO_11⟩,⟨pB⟩⟩
       ·rw [if_neg c33] at H
        have c33b0:decide ((wrap64 (1+(Int.tmod (wrap64 (a1)) (ji24))))≤t816)=false:=decide_eq_false c33
        clear c33
        have H':=Z H
        clear H
        go_wp2_with (first|((with_reducible refine gate_callee (f:=43) rfl ?_);refine goesL_ (some 64) rfl rfl Try.func43 (by kernel_rfl) rfl #[.int .i64 x17_1] rfl pG ?_;(with_reducible refine (trustquorumref01_Size.calls k1 x17_1 t814 _ A28.out).mono ?_);rintro e w' ⟨rfl,⟨nd,rfl⟩⟩;refine ⟨_,rfl,?_⟩)|((with_reducible refine gate_callee (f:=43) rfl ?_);refine goesL_ (some 70) rfl rfl Try.func43 (by kernel_rfl) rfl #[.int .i64 x17_1] rfl pG ?_;(with_reducible refine (trustquorumref01_Size.calls k1 x17_1 t816 _ A32.out).mono ?_);rintro e w' ⟨rfl,⟨nd,rfl⟩⟩;refine ⟨_,rfl,?_⟩))
        go_roundg k1
        case measure=>have:=HK1.out;omega
        case rel=>exact ⟨(x15_1),(x16_1),(wrap64 (x17_1+1)),pE,pE,pE,H',⟨by have:=HK1.out;omega⟩,⟨pR HO_7⟩,⟨pR HO_11⟩,⟨pB⟩⟩
     ·rw [if_neg c27] at H
      have c27b0:decide (x17_1 < (ji26))=false:=decide_eq_false c27
      clear c27
      have H':=Z H
      clear H
      obtain ⟨Ao34,co34,eo34⟩:=Kd.R_slice HO_7.out
      subst eo34
      go_wp2
      go_loopg [77] k1 (fun kq v77 w'=>∃ (x77_2:Int),v77=.int .i64 x77_2∧Aside0 (trustquorumlaw10_QuorumsUniform.l1 kq (ji24) (wrap64 (1+(Int.tmod (wrap64 (a1)) (ji24)))) t793 t796 t800 t801 t805 t808 t812 t813 x15_1 x16_1 t793 (t793.length:Int) x77_2=some true)∧Aside0 (kq≤k1)∧Aside0 (Kd.R (Kd.int .i64) 3 w' w.heap.size (fun k_=>some k_ ≠ (v806:Value).ownBlock) (.slice Ao34 t793.length co34) t793)∧Aside0 (Kd.R (Kd.int .i64) 3 w' w.heap.size (fun k_=>some k_ ≠ ((.slice Ao34 t793.length co34):Value).ownBlock∧some k_ ≠ ((.slice Ao34 t793.length co34):Value).ownBlock) v806 t805)∧Aside0 (Kd.R (Kd.int .i64) 3 w' w.heap.size (fun k_=>some k_ ≠ (v806:Value).ownBlock) (.slice Ao34 t793.length co34) t793)∧Aside0 (Below w.heap.size w w'))
      case atStart=>exact ⟨(0),pE,H',⟨Nat.le_refl _⟩,⟨pR HO_7⟩,⟨by (with_reducible repeat (first|apply Kd.R_alloc|apply Kd.R_drewN|apply Kd.R_drew));exact Kd.R_mono HO_11.out (fun _ hk=>⟨hk,hk⟩)⟩,⟨pR HO_7⟩,⟨pB⟩⟩
      case round =>
       clear H'
       try clear c1
       try clear c2
       try clear p2
       try clear c3
       try clear c3b0
       try clear c3b1
       try clear c4
       try clear p6
       try clear c10
       try clear c25
       try clear c25b0
       try clear c25b1
       try clear c27
       try clear c27b0
       try clear c29
       try clear c29b0
       try clear c29b1
       try clear c31
       try clear c31b0
       try clear c33
       try clear c33b0
       obtain ⟨x77_2,rfl,HA,HK2,HO_7,HO_11,HO_75,HB⟩:=hrel
       cases gk with
       | zero=>exact absurd HA.out (by simp [trustquorumlaw10_QuorumsUniform.l1])
       | succ k2 =>
        have H:=HA.out
        clear HA
        simp only [trustquorumlaw10_QuorumsUniform.l1] at H
        by_cases c35:x77_2 < (t793.length:Int)
        ·rw [if_pos c35] at H
         have c35b0:decide (x77_2 < (t793.length:Int))=true:=decide_eq_true c35
         clear c35
         by_cases c36:0≤x77_2
         ·rw [if_pos c36] at H
          have c36b0:decide (0≤x77_2)=true:=decide_eq_true c36
          clear c36
          by_cases c37:x77_2 < (t793.length:Int)
          ·rw [if_pos c37] at H
           have c37b0:decide (x77_2 < (t793.length:Int))=true:=decide_eq_true c37
           clear c37
           replace H:=Option.bind_eq_some_iff.mp H
           obtain ⟨t818,A380,H⟩:=H
           try dsimp only at H
           have A38:=Z A380
           clear A380
           by_cases c39:t818=(wrap64 (1+(Int.tmod (wrap64 (a1)) (ji24))))
           ·rw [if_pos c39] at H
            have c39b0:(t818 == (wrap64 (1+(Int.tmod (wrap64 (a1)) (ji24)))))=true:=beq_iff_eq.mpr c39
            have c39b1:(t818 != (wrap64 (1+(Int.tmod (wrap64 (a1)) (ji24)))))=false:=bne_eq_false_iff_eq.mpr c39
            clear c39
            by_cases c40:0≤(ji24)
            ·rw [if_pos c40] at H
             have c40b0:=eq_true c40
             have c40b1:decide (0≤(ji24))=true:=decide_eq_true c40
             clear c40
             simp only [hji26] at H
             by_cases c42:(rd t793 x77_2) ≥ (ji26)
             ·rw [if_pos c42] at H
              have c42b0:decide ((ji26)≤(rd t793 x77_2))=true:=decide_eq_true c42
              clear c42
              exact absurd H (by simp)
             ·rw [if_neg c42] at H
              have c42b0:decide ((ji26)≤(rd t793 x77_2))=false:=decide_eq_false c42
              clear c42
              have H':=Z H
              clear H
              have p817:0≤(x77_2:Int):=of_decide_eq_true (by first|(with_reducible assumption)|assumption)
              have q817:x77_2 < (t793.length:Int):=of_decide_eq_true (by first|(with_reducible assumption)|assumption)
              obtain ⟨ad817,e817,hx817_0⟩:=Kd.at_int (Kd.R_reads' HO_75.out).2.2 x77_2 p817 q817
              cases e817
              replace p817:=eq_true p817
              replace q817:=eq_true q817
              go_wp2_with (first|((with_reducible refine gate_callee (f:=43) rfl ?_);refine goesL_ (some 82) rfl rfl Try.func43 (by kernel_rfl) rfl #[.int .i64 (rd t793 x77_2)] rfl pG ?_;(with_reducible refine (trustquorumref01_Size.calls k2 (rd t793 x77_2) t818 _ A38.out).mono ?_);rintro e w' ⟨rfl,⟨nd,rfl⟩⟩;refine ⟨_,rfl,?_⟩))
              go_roundg k2
              case measure=>have:=HK1.out;have:=HK2.out;omega
              case rel=>exact ⟨(wrap64 (x77_2+1)),pE,H',⟨by have:=HK1.out;have:=HK2.out;omega⟩,⟨pR HO_7⟩,⟨pR HO_11⟩,⟨pR HO_75⟩,⟨pB⟩⟩
            ·rw [if_neg c40] at H
             exact absurd H (by simp)
           ·rw [if_neg c39] at H
            have c39b0:(t818 == (wrap64 (1+(Int.tmod (wrap64 (a1)) (ji24)))))=false:=beq_eq_false_iff_ne.mpr c39
            have c39b1:(t818 != (wrap64 (1+(Int.tmod (wrap64 (a1)) (ji24)))))=true:=bne_iff_ne.mpr c39
            exact absurd H (by simp)
          ·rw [if_neg c37] at H
           exact absurd H (by simp)
         ·rw [if_neg c36] at H
          exact absurd H (by simp)
        ·rw [if_neg c35] at H
         have c35b0:decide (x77_2 < (t793.length:Int))=false:=decide_eq_false c35
         clear c35
         by_cases c43:t796=0
         ·rw [if_pos c43] at H
          have c43b0:(t796 == 0)=true:=beq_iff_eq.mpr c43
          have c43b1:(t796 != 0)=false:=bne_eq_false_iff_eq.mpr c43
          clear c43
          by_cases c44:t801=0
          ·rw [if_pos c44] at H
           have c44b0:(t801 == 0)=true:=beq_iff_eq.mpr c44
           have c44b1:(t801 != 0)=false:=bne_eq_false_iff_eq.mpr c44
           clear c44
           by_cases c45:t808=0
           ·rw [if_pos c45] at H
            have c45b0:(t808 == 0)=true:=beq_iff_eq.mpr c45
            have c45b1:(t808 != 0)=false:=bne_eq_false_iff_eq.mpr c45
            clear c45
            by_cases c46:t813=0
            ·rw [if_pos c46] at H
             have c46b0:(t813 == 0)=true:=beq_iff_eq.mpr c46
             have c46b1:(t813 != 0)=false:=bne_eq_false_iff_eq.mpr c46
             clear c46
             by_cases c47:(t793.length:Int)=x15_1
             ·rw [if_pos c47] at H
              have c47b0:((t793.length:Int) == x15_1)=true:=beq_iff_eq.mpr c47
              have c47b1:((t793.length:Int) != x15_1)=false:=bne_eq_false_iff_eq.mpr c47
              clear c47
              by_cases c48:t800=x16_1
              ·rw [if_pos c48] at H
               have c48b0:(t800 == x16_1)=true:=beq_iff_eq.mpr c48
               have c48b1:(t800 != x16_1)=false:=bne_eq_false_iff_eq.mpr c48
               clear c48
               by_cases c49:0≤(ji24)
               ·rw [if_pos c49] at H
                have c49b0:=eq_true c49
                have c49b1:decide (0≤(ji24))=true:=decide_eq_true c49
                clear c49
                simp only [hji26] at H
                obtain ⟨y819,hy819⟩:∃ y_:List Int,y_=(([wrap64 ((ji26) - 1)]:List Int)):=⟨_,rfl⟩
                first|rw [← hy819] at H|(replace H:=(Option.bind_some _ _).symm.trans H;rw [← hy819] at H)
                have Ny819:=Z hy819
                clear hy819
                replace H:=Option.bind_eq_some_iff.mp H
                obtain ⟨t822,A510,H⟩:=H
                try dsimp only at H
                have A51:=Z A510
                clear A510
                by_cases c52:t822=true
                ·subst c52
                 rw [if_pos rfl] at H
                 by_cases c53:t812=true
                 ·subst c53
                  rw [if_pos rfl] at H
                  replace H:=Option.bind_eq_some_iff.mp H
                  obtain ⟨t823,A540,H⟩:=H
                  try dsimp only at H
                  have A54:=Z A540
                  clear A540
                  obtain rfl:=Option.some.inj H
                  go_wp2_with (first|((with_reducible refine gate_dst (N:=122) rfl ?_);(try (refine gate_guard (by rfl) ?_;dsimp only));refine Kd.R_lit (Kd.int .i64) _ 3 ?hg (N:=122) ?hd (xs:=([wrap64 ((ji26) - 1)]:List Int)) (inner:=[.int .i64 (wrap64 ((ji26) - 1))]) (ok:=fun _=>True) (okp:=fun _=>True) ?hr ?hp (fun _ hk=>hk) trivial (Below.refl _ _) (Nat.le_refl _) (by simp) ?_;(case hd=>rfl);(case hg=>rfl);(case hr=>first|(go_simp;done)|(go_simp;rfl));(case hp=>exact (Reps.one (show Kd.M (Kd.int .i64) _ _ _ (wrap64 ((ji26) - 1)) [.int .i64 (wrap64 ((ji26) - 1))] from rfl) (Reps.none _ _)));intro v820 w55 ho56 hb hg_ hnew_;clear hg_ hnew_;(first|rw [← Ny819.out] at ho56|(simp only [Int.reduceToNat] at ho56;rw [← Ny819.out] at ho56));have n0_:=Z (Kd.R_elder' (pR HO_7) (Kd.R_base ho56) hb);have n1_:=Z (Kd.R_elder' (pR HO_11) (Kd.R_base ho56) hb);have n2_:=Z (Kd.R_elder' (pR HO_75) (Kd.R_base ho56) hb);have n3_:=Z (Kd.R_lower (Kd.R_new' (Kd.R_new' (Kd.R_new' ho56 (Kd.R_lt (pR HO_7))) (Kd.R_lt (pR HO_11))) (Kd.R_lt (pR HO_75))) (below_size pB));have n4_:=Z (below_step pB hb);clear HO_7;clear HO_11;clear HO_75;clear HB;have HO_7:=n0_;have HO_11:=n1_;have HO_75:=n2_;have HO821:=n3_;have HB:=n4_;clear n0_ n1_ n2_ n3_ n4_;clear hb ho56;obtain ⟨Ao57,co57,eo57⟩:=Kd.R_slice HO_11.out;subst eo57;obtain ⟨Ao58,co58,eo58⟩:=Kd.R_slice HO821.out;subst eo58)|(go_at_call 22;(with_reducible refine (trustquorummake_Ints.calls k2 _ _ t805 _ _ y819 true _ ?side1 ?side2 ?side3 ?side4 A51.out).mono ?_);(case side1=>repeat (first|exact (Kd.R_reads' HO_11.out).2.2|(with_reducible refine Kd.C_alloc ?_ _)|(with_reducible refine Kd.C_drewN ?_ _)|(with_reducible refine Kd.C_drew ?_)));(case side2=>exact (Kd.R_reads' HO_11.out).2.1);(case side3=>repeat (first|exact (Kd.R_reads' HO821.out).2.2|(with_reducible refine Kd.C_alloc ?_ _)|(with_reducible refine Kd.C_drewN ?_ _)|(with_reducible refine Kd.C_drew ?_)));(case side4=>exact (Kd.R_reads' HO821.out).2.1);rintro e w' ⟨rfl,⟨nd,rfl⟩⟩)|(go_at_call 38;(with_reducible refine (trustquorumlaw10_awake.calls k2   _ A54.out).mono ?_);rintro e w59 ⟨rfl,hb⟩;have n0_:=Z (Kd.R_below (pR HO_7) hb);have n1_:=Z (Kd.R_below (pR HO_11) hb);have n2_:=Z (Kd.R_below (pR HO_75) hb);have n3_:=Z (Kd.R_below (pR HO821) hb);have n4_:=Z (below_step pB hb);clear HO_7;clear HO_11;clear HO_75;clear HO821;clear HB;have HO_7:=n0_;have HO_11:=n1_;have HO_75:=n2_;have HO821:=n3_;have HB:=n4_;clear n0_ n1_ n2_ n3_ n4_;(try clear hb);(try clear hb2);(try clear hk);(try clear hi)))
                  go_ret
                  exact ⟨by first|rfl|exact congrArg (fun b_:Bool=>Ending.returned (Value.bool b_)) HT.out|(simp [errW_none,errW_some] <;> rfl)|(simp only [← hji24,← hji26,← hji26];first|rfl|(simp [errW_none,errW_some] <;> rfl))|(simp [*,errW_none,errW_some] <;> rfl),pB⟩
                 ·replace c53:=Bool.eq_false_iff.mpr c53
                  subst c53
                  rw [if_neg (show ¬ (false=true) by decide)] at H
                  exact absurd H (by simp)
                ·replace c52:=Bool.eq_false_iff.mpr c52
                 subst c52
                 rw [if_neg (show ¬ (false=true) by decide)] at H
                 exact absurd H (by simp)
               ·rw [if_neg c49] at H
                exact absurd H (by simp)
              ·rw [if_neg c48] at H
               have c48b0:(t800 == x16_1)=false:=beq_eq_false_iff_ne.mpr c48
               have c48b1:(t800 != x16_1)=true:=bne_iff_ne.mpr c48
               exact absurd H (by simp)
             ·rw [if_neg c47] at H
              have c47b0:((t793.length:Int) == x15_1)=false:=beq_eq_false_iff_ne.mpr c47
              have c47b1:((t793.length:Int) != x15_1)=true:=bne_iff_ne.mpr c47
              exact absurd H (by simp)
            ·rw [if_neg c46] at H
             have c46b0:(t813 == 0)=false:=beq_eq_false_iff_ne.mpr c46
             have c46b1:(t813 != 0)=true:=bne_iff_ne.mpr c46
             exact absurd H (by simp)
           ·rw [if_neg c45] at H
            have c45b0:(t808 == 0)=false:=beq_eq_false_iff_ne.mpr c45
            have c45b1:(t808 != 0)=true:=bne_iff_ne.mpr c45
            exact absurd H (by simp)
          ·rw [if_neg c44] at H
           have c44b0:(t801 == 0)=false:=beq_eq_false_iff_ne.mpr c44
           have c44b1:(t801 != 0)=true:=bne_iff_ne.mpr c44
           exact absurd H (by simp)
         ·rw [if_neg c43] at H
          have c43b0:(t796 == 0)=false:=beq_eq_false_iff_ne.mpr c43
          have c43b1:(t796 != 0)=true:=bne_iff_ne.mpr c43
          exact absurd H (by simp)
    ·rw [if_neg c25] at H
     exact absurd H (by simp)
def trustquorumlaw10_QuorumsUniform.Pure:Prop:=∀ (a0:Int) (a1:Int),(Lit.int .u8 a0).wf=true→(Lit.int .u8 a1).wf=true→∃ k,trustquorumlaw10_QuorumsUniform.f k a0 a1=some true
theorem trustquorumlaw10_QuorumsUniform.walk (P:trustquorumlaw10_QuorumsUniform.Pure) (a0:Int) (a1:Int) (w:World) (w0:(Lit.int .u8 a0).wf=true) (w1:(Lit.int .u8 a1).wf=true) :
  Calls Try.prog 10 #[.int .u8 a0,.int .u8 a1] w fun e w'=>e=.returned (.bool true)∧Below w.heap.size w w':=by
 obtain ⟨k,h⟩:=P a0 a1 w0 w1
 refine (trustquorumlaw10_QuorumsUniform.calls k a0 a1 w h).mono ?_
 rintro e w' ⟨rfl,hd⟩
 exact ⟨rfl,hd⟩
end Go.Proofs.Ytkjlcbfjllpcnaa.X
namespace Go.Proofs.Ytkjlcbfjllpcnaa.X
open Go.RowKit Go.Proofs.YtkjlcbfjllpcnaaW.PrintWords Go.Proofs.YtkjlcbfjllpcnaaW.PrintLast Go.Proofs.YtkjlcbfjllpcnaaW.PrintMore
set_option linter.unusedVariables false
mutual
def depL : List S32 → Nat
  | [] => 0
  | t :: ts => max (dep t) (depL ts)
def dep : S32 → Nat
  | ⟨_, _, ts⟩ => depL ts + 1
end
mutual
def sizL : List S32 → Nat
  | [] => 0
  | t :: ts => siz t + sizL ts
def siz : S32 → Nat
  | ⟨_, l, ts⟩ => l.length + ts.length + sizL ts
end
mutual
def useL : List S32 → Nat
  | [] => 0
  | t :: ts => uses t ||| useL ts
def uses : S32 → Nat
  | ⟨_, l, ts⟩ => l.foldl (fun a x => if noNode x = true then a else a ||| 2 ^ x.toNat) 0 ||| useL ts
end
def ofS (a : Nat) : List Int → Nat × Int
  | [] => (a, 0)
  | x :: xs => if noNode x = true then (0, 5) else if inS a x = true then (0, 6) else ofS (a ||| 2 ^ x.toNat) xs
mutual
def chkL : List S32 → Int
  | [] => 0
  | t :: ts => if chk t = 0 then chkL ts else chk t
def chk : S32 → Int
  | ⟨n, l, ts⟩ => if n < 1 ∨ n > ((l.length + ts.length : Nat) : Int) then 4 else if (l.any noNode) = true then 5 else if (ofS 0 l).2 = 0 then chkL ts else (ofS 0 l).2
end
def validT (t : S32) : Int := if dep t > 4 then 3 else if siz t > 200 then 3 else chk t
theorem dep_eq (t : S32) : dep t = depL t.f2 + 1 := by cases t; rw [dep]
theorem siz_eq (t : S32) : siz t = t.f1.length + t.f2.length + sizL t.f2 := by cases t; rw [siz]
theorem chk_eq (t : S32) : chk t = if t.f0 < 1 ∨ t.f0 > ((t.f1.length + t.f2.length : Nat) : Int) then 4 else if (t.f1.any noNode) = true then 5 else if (ofS 0 t.f1).2 = 0 then chkL t.f2 else (ofS 0 t.f1).2 := by cases t; rw [chk]
theorem uses_eq (t : S32) : uses t = t.f1.foldl (fun a x => if noNode x = true then a else a ||| 2 ^ x.toNat) 0 ||| useL t.f2 := by cases t; rw [uses]
mutual
theorem dep_le : ∀ t : S32, dep t ≤ wt t
  | ⟨_, l, ts⟩ => by rw [dep, wt]; have := depL_le ts; omega
theorem depL_le : ∀ l : List S32, depL l ≤ wtL l
  | [] => Nat.le_refl _
  | t :: ts => by rw [depL, wtL]; have := dep_le t; have := depL_le ts; omega
end
mutual
theorem siz_le : ∀ t : S32, siz t ≤ 2 * wt t
  | ⟨_, l, ts⟩ => by rw [siz, wt]; have := sizL_le ts; omega
theorem sizL_le : ∀ l : List S32, l.length + sizL l ≤ 2 * wtL l
  | [] => Nat.le_refl _
  | t :: ts => by rw [sizL, wtL, List.length_cons]; have := siz_le t; have := sizL_le ts; have := wt_pos t; have : 1 + siz t ≤ 2 * wt t := by
                    cases t with | mk n l xs => rw [siz, wt]; have := sizL_le xs; omega
                  omega
end
theorem or_lt {a b n : Nat} (ha : a < 2 ^ n) (hb : b < 2 ^ n) : a ||| b < 2 ^ n := Nat.or_lt_two_pow ha hb
theorem or_lt10 {a b : Nat} (ha : a < 1024) (hb : b < 1024) : a ||| b < 1024 := or_lt (n := 10) ha hb
theorem two_lt10 {k : Nat} (h : k < 10) : 2 ^ k < 1024 := Nat.pow_lt_pow_right (a := 2) (by decide) h
theorem noNode_not {x : Int} (h : noNode x = false) : 0 ≤ x ∧ x < 10 := by simp [noNode] at h; omega
theorem foldUse_lt (l : List Int) : ∀ a, a < 1024 → l.foldl (fun a x => if noNode x = true then a else a ||| 2 ^ x.toNat) a < 1024 := by
  induction l with
  | nil => intro a h; exact h
  | cons x xs ih =>
    intro a h
    rw [List.foldl_cons]
    refine ih _ ?_
    cases hx : noNode x
    · have := noNode_not hx
      exact or_lt10 h (two_lt10 (by omega))
    · exact h
mutual
theorem uses_lt : ∀ t : S32, uses t < 1024
  | ⟨_, l, ts⟩ => by rw [uses]; exact or_lt10 (foldUse_lt l 0 (by decide)) (useL_lt ts)
theorem useL_lt : ∀ l : List S32, useL l < 1024
  | [] => by rw [useL]; decide
  | t :: ts => by rw [useL]; exact or_lt10 (uses_lt t) (useL_lt ts)
end
theorem mx_nat (a b : Nat) : mx (a : Int) (b : Int) = ((max a b : Nat) : Int) := by unfold mx; split <;> omega
theorem Depth_ev : ∀ (n : Nat) (t : S32), wt t < n → n < 1152921504606846976 → Ev (fun k => threshold_Depth.f k t.f0 t.f1 t.f2) (dep t : Int)
  | 0, t, h, _ => absurd h (by omega)
  | n + 1, t, h, hn => by
    rw [wt_eq] at h
    have hl := len_wtL t.f2
    have hd := depL_le t.f2
    rw [dep_eq]
    (refine Ev.shift ?_; simp only [threshold_Depth.f, Option.bind_some, ↓reduceIte, Bool.false_eq_true, reduceCtorEq, decide_eq_true_eq, Go.Proofs.YtkjlcbfjllpcnaaW.PrintWords.rd, rd_T32, rd_T34])
    refine Ev.fold (xs := t.f2) (L := fun (c : Nat) i k => threshold_Depth.l0 k (c : Int) t.f2 (t.f2.length : Int) i) (by omega) (fun pre ys c => max c (depL ys) = depL t.f2) ?_ ?_ 0 (by omega)
    · intro c i hI hi
      rw [depL] at hI
      (refine Ev.shift ?_; simp only [threshold_Depth.l0, hi, Option.bind_some, ↓reduceIte, Bool.false_eq_true, reduceCtorEq, decide_eq_true_eq, Go.Proofs.YtkjlcbfjllpcnaaW.PrintWords.rd, rd_T32, rd_T34])
      rw [show wrap64 ((c : Int) + 1) = ((depL t.f2 + 1 : Nat) : Int) by rw [w64 (by omega) (by omega)]; omega]
      exact Ev.now _
    · intro pre y ys c i e hI hi h0 hlt hw hrd
      rw [depL] at hI
      refine Or.inl ⟨max c (dep y), by omega, fun k => ?_⟩
      (refine Ev.shift ?_; simp only [threshold_Depth.l0, h0, hlt, hw, hrd, Option.bind_some, ↓reduceIte, Bool.false_eq_true, reduceCtorEq, decide_eq_true_eq, Go.Proofs.YtkjlcbfjllpcnaaW.PrintWords.rd, rd_T32, rd_T34])
      refine Ev.bind1 (Depth_ev n y (by have := wt_mem (show y ∈ t.f2 by rw [e]; simp); omega) (by omega)) ?_
      rw [mx_nat]
      exact k
theorem Size_ev : ∀ (n : Nat) (t : S32), wt t < n → n < 1152921504606846976 → Ev (fun k => threshold_Size.f k t.f0 t.f1 t.f2) (siz t : Int)
  | 0, t, h, _ => absurd h (by omega)
  | n + 1, t, h, hn => by
    have hs := siz_le t
    have hw := h
    rw [wt_eq] at h
    have hl := len_wtL t.f2
    rw [siz_eq] at hs ⊢
    (refine Ev.shift ?_; simp only [threshold_Size.f, Option.bind_some, ↓reduceIte, Bool.false_eq_true, reduceCtorEq, decide_eq_true_eq, Go.Proofs.YtkjlcbfjllpcnaaW.PrintWords.rd, rd_T32, rd_T34])
    rw [show wrap64 ((t.f1.length : Int) + (t.f2.length : Int)) = ((t.f1.length + t.f2.length : Nat) : Int) by rw [w64 (by omega) (by omega)]; omega]
    refine Ev.fold (L := fun (c : Nat) i k => threshold_Size.l0 k (c : Int) t.f2 (t.f2.length : Int) i) (by omega) (fun pre ys c => c + sizL ys = t.f1.length + t.f2.length + sizL t.f2) ?_ ?_ (t.f1.length + t.f2.length) rfl
    · intro c i hI hi
      rw [sizL] at hI
      (refine Ev.shift ?_; simp only [threshold_Size.l0, hi, Option.bind_some, ↓reduceIte, Bool.false_eq_true, reduceCtorEq, decide_eq_true_eq, Go.Proofs.YtkjlcbfjllpcnaaW.PrintWords.rd, rd_T32, rd_T34])
      rw [← hI]
      exact Ev.now _
    · intro pre y ys c i e hI hi h0 hlt hw hrd
      rw [sizL] at hI
      refine Or.inl ⟨c + siz y, by omega, fun k => ?_⟩
      (refine Ev.shift ?_; simp only [threshold_Size.l0, h0, hlt, hw, hrd, Option.bind_some, ↓reduceIte, Bool.false_eq_true, reduceCtorEq, decide_eq_true_eq, Go.Proofs.YtkjlcbfjllpcnaaW.PrintWords.rd, rd_T32, rd_T34])
      refine Ev.bind1 (Size_ev n y (by have := wt_mem (show y ∈ t.f2 by rw [e]; simp); omega) (by omega)) ?_
      rw [show wrap64 ((c : Int) + (siz y : Int)) = ((c + siz y : Nat) : Int) by rw [w64 (by omega) (by omega)]; omega]
      exact k
theorem Of_ev (l : List Int) (hl : l.length < 1152921504606846976) : Ev (fun k => nodeset_Of.f k l) (((ofS 0 l).1 : Int), (ofS 0 l).2) := by
  refine Ev.congr (f := fun k => nodeset_Of.l0 k ((0 : Nat) : Int) l (l.length : Int) 0) (fun k => rfl) ?_
  refine Ev.fold (L := fun (c : Nat) i k => nodeset_Of.l0 k (c : Int) l (l.length : Int) i) (by omega) (fun pre ys c => ofS c ys = ofS 0 l ∧ c < 1024) ?_ ?_ 0 ⟨rfl, by decide⟩
  · rintro c i ⟨hI, hc⟩ hi
    (refine Ev.shift ?_; simp only [nodeset_Of.l0, hi, Option.bind_some, ↓reduceIte, Bool.false_eq_true, reduceCtorEq, decide_eq_true_eq, Go.Proofs.YtkjlcbfjllpcnaaW.PrintWords.rd, rd_T32, rd_T34])
    rw [← hI]
    exact Ev.now _
  · rintro pre y ys c i e ⟨hI, hc⟩ hi h0 hlt hw hrd
    rw [ofS] at hI
    cases hn : noNode y
    · have hb := noNode_not hn
      simp only [hn, Bool.false_eq_true, if_false] at hI
      cases hs : inS c y
      · refine Or.inl ⟨c ||| 2 ^ y.toNat, ⟨by simpa [hs] using hI, or_lt10 hc (two_lt10 (by omega))⟩, fun k => ?_⟩
        have h2 := two_lt10 (show y.toNat < 10 by omega)
        have e2 : Go.bits .or .i64 (c : Int) (shl .i64 1 y) = ((c ||| 2 ^ y.toNat : Nat) : Int) := by
          rw [show y = (y.toNat : Int) by omega, shl_nat (by omega), Int.toNat_natCast, or_nat (by omega) (by omega)]
        have h1 : ¬ y < 0 := by omega
        have h3 : decide (y ≥ 10) = false := by simp; omega
        (refine Ev.shift ?_; simp only [nodeset_Of.l0, h0, hlt, hw, hrd, h1, h3, Option.bind_some, ↓reduceIte, Bool.false_eq_true, reduceCtorEq, decide_eq_true_eq, Go.Proofs.YtkjlcbfjllpcnaaW.PrintWords.rd, rd_T32, rd_T34])
        (refine Ev.shift ?_; simp only [nodeset_Of.j1, Has_eq hc, hs, hb.1, hw, Option.bind_some, ↓reduceIte, Bool.false_eq_true, reduceCtorEq, decide_eq_true_eq, Go.Proofs.YtkjlcbfjllpcnaaW.PrintWords.rd, rd_T32, rd_T34])
        rw [e2]
        exact k
      · refine Or.inr ?_
        simp only [hs, if_true] at hI
        have h1 : ¬ y < 0 := by omega
        have h3 : decide (y ≥ 10) = false := by simp; omega
        (refine Ev.shift ?_; simp only [nodeset_Of.l0, h0, hlt, hw, hrd, h1, h3, Option.bind_some, ↓reduceIte, Bool.false_eq_true, reduceCtorEq, decide_eq_true_eq, Go.Proofs.YtkjlcbfjllpcnaaW.PrintWords.rd, rd_T32, rd_T34])
        (refine Ev.shift ?_; simp only [nodeset_Of.j1, Has_eq hc, hs, Option.bind_some, ↓reduceIte, Bool.false_eq_true, reduceCtorEq, decide_eq_true_eq, Go.Proofs.YtkjlcbfjllpcnaaW.PrintWords.rd, rd_T32, rd_T34])
        rw [← hI]
        exact Ev.now _
    · refine Or.inr ?_
      simp only [hn, if_true] at hI
      rw [← hI]
      by_cases h1 : y < 0
      · (refine Ev.shift ?_; simp only [nodeset_Of.l0, h0, hlt, hw, hrd, h1, Option.bind_some, ↓reduceIte, Bool.false_eq_true, reduceCtorEq, decide_eq_true_eq, Go.Proofs.YtkjlcbfjllpcnaaW.PrintWords.rd, rd_T32, rd_T34])
        (refine Ev.shift ?_; simp only [nodeset_Of.j1, Option.bind_some, ↓reduceIte, Bool.false_eq_true, reduceCtorEq, decide_eq_true_eq, Go.Proofs.YtkjlcbfjllpcnaaW.PrintWords.rd, rd_T32, rd_T34])
        exact Ev.now _
      · have h3 : decide (y ≥ 10) = true := by simp [noNode] at hn ⊢; omega
        (refine Ev.shift ?_; simp only [nodeset_Of.l0, h0, hlt, hw, hrd, h1, h3, Option.bind_some, ↓reduceIte, Bool.false_eq_true, reduceCtorEq, decide_eq_true_eq, Go.Proofs.YtkjlcbfjllpcnaaW.PrintWords.rd, rd_T32, rd_T34])
        (refine Ev.shift ?_; simp only [nodeset_Of.j1, Option.bind_some, ↓reduceIte, Bool.false_eq_true, reduceCtorEq, decide_eq_true_eq, Go.Proofs.YtkjlcbfjllpcnaaW.PrintWords.rd, rd_T32, rd_T34])
        exact Ev.now _
theorem Uses_ev : ∀ (n : Nat) (t : S32), wt t < n → n < 1152921504606846976 → Ev (fun k => threshold_Uses.f k t.f0 t.f1 t.f2) (uses t : Int)
  | 0, t, h, _ => absurd h (by omega)
  | n + 1, t, h, hn => by
    rw [wt_eq] at h
    have hl := len_wtL t.f2
    have hU := uses_lt t
    rw [uses_eq] at hU ⊢
    generalize hT : (t.f1.foldl (fun a x => if noNode x = true then a else a ||| 2 ^ x.toNat) 0 ||| useL t.f2) = T at hU
    have l1 : ∀ c, c < 1024 → c ||| useL t.f2 = T → Ev (fun k => threshold_Uses.l1 k (c : Int) t.f2 (t.f2.length : Int) 0) (T : Int) := by
      intro c hc hcT
      refine Ev.fold (L := fun (c : Nat) i k => threshold_Uses.l1 k (c : Int) t.f2 (t.f2.length : Int) i) (by omega) (fun pre ys c => c ||| useL ys = T ∧ c < 1024) ?_ ?_ c ⟨hcT, hc⟩
      · rintro c i ⟨hI, hc⟩ hi
        rw [useL, Nat.or_zero] at hI
        (refine Ev.shift ?_; simp only [threshold_Uses.l1, hi, Option.bind_some, ↓reduceIte, Bool.false_eq_true, reduceCtorEq, decide_eq_true_eq, Go.Proofs.YtkjlcbfjllpcnaaW.PrintWords.rd, rd_T32, rd_T34])
        rw [← hI]
        exact Ev.now _
      · rintro pre y ys c i e ⟨hI, hc⟩ hi h0 hlt hw hrd
        rw [useL] at hI
        refine Or.inl ⟨c ||| uses y, ⟨by rw [Nat.or_assoc]; exact hI, or_lt10 hc (uses_lt y)⟩, fun k => ?_⟩
        (refine Ev.shift ?_; simp only [threshold_Uses.l1, h0, hlt, hw, hrd, Option.bind_some, ↓reduceIte, Bool.false_eq_true, reduceCtorEq, decide_eq_true_eq, Go.Proofs.YtkjlcbfjllpcnaaW.PrintWords.rd, rd_T32, rd_T34])
        refine Ev.bind1 (Uses_ev n y (by have := wt_mem (show y ∈ t.f2 by rw [e]; simp); omega) (by omega)) ?_
        have := uses_lt y
        rw [or_nat (by omega) (by omega)]
        exact k
    (refine Ev.shift ?_; simp only [threshold_Uses.f, Option.bind_some, ↓reduceIte, Bool.false_eq_true, reduceCtorEq, decide_eq_true_eq, Go.Proofs.YtkjlcbfjllpcnaaW.PrintWords.rd, rd_T32, rd_T34])
    refine Ev.fold (L := fun (c : Nat) i k => threshold_Uses.l0 k (c : Int) t.f1 (t.f1.length : Int) i t.f0 t.f1 t.f2) (by omega) (fun pre ys c => (ys.foldl (fun a x => if noNode x = true then a else a ||| 2 ^ x.toNat) c) ||| useL t.f2 = T ∧ c < 1024) ?_ ?_ 0 ⟨hT, by decide⟩
    · rintro c i ⟨hI, hc⟩ hi
      (refine Ev.shift ?_; simp only [threshold_Uses.l0, hi, Option.bind_some, ↓reduceIte, Bool.false_eq_true, reduceCtorEq, decide_eq_true_eq, Go.Proofs.YtkjlcbfjllpcnaaW.PrintWords.rd, rd_T32, rd_T34])
      exact l1 c hc hI
    · rintro pre y ys c i e ⟨hI, hc⟩ hi h0 hlt hw hrd
      rw [List.foldl_cons] at hI
      cases hn : noNode y
      · have hb := noNode_not hn
        have h2 := two_lt10 (show y.toNat < 10 by omega)
        refine Or.inl ⟨c ||| 2 ^ y.toNat, ⟨by simpa [hn] using hI, or_lt10 hc h2⟩, fun k => ?_⟩
        have e2 : Go.bits .or .i64 (c : Int) (shl .i64 1 y) = ((c ||| 2 ^ y.toNat : Nat) : Int) := by
          rw [show y = (y.toNat : Int) by omega, shl_nat (by omega), Int.toNat_natCast, or_nat (by omega) (by omega)]
        have h3 : y ≥ 0 := by omega
        have h4 : y < 10 := by omega
        (refine Ev.shift ?_; simp only [threshold_Uses.l0, threshold_node.f, h0, hlt, hw, hrd, h3, h4, decide_true, hb.1, Option.bind_some, ↓reduceIte, Bool.false_eq_true, reduceCtorEq, decide_eq_true_eq, Go.Proofs.YtkjlcbfjllpcnaaW.PrintWords.rd, rd_T32, rd_T34])
        rw [e2]
        exact k
      · refine Or.inl ⟨c, ⟨by simpa [hn] using hI, hc⟩, fun k => ?_⟩
        by_cases h3 : y ≥ 0
        · have h4 : ¬ y < 10 := by simp [noNode] at hn; omega
          (refine Ev.shift ?_; simp only [threshold_Uses.l0, threshold_node.f, h0, hlt, hw, hrd, h3, h4, decide_false, Option.bind_some, ↓reduceIte, Bool.false_eq_true, reduceCtorEq, decide_eq_true_eq, Go.Proofs.YtkjlcbfjllpcnaaW.PrintWords.rd, rd_T32, rd_T34])
          exact k
        · (refine Ev.shift ?_; simp only [threshold_Uses.l0, threshold_node.f, h0, hlt, hw, hrd, h3, Option.bind_some, ↓reduceIte, Bool.false_eq_true, reduceCtorEq, decide_eq_true_eq, Go.Proofs.YtkjlcbfjllpcnaaW.PrintWords.rd, rd_T32, rd_T34])
          exact k
theorem level_ev : ∀ (n : Nat) (t : S32), wt t < n → n < 1152921504606846976 → Ev (fun k => threshold_level.f k t.f0 t.f1 t.f2) (chk t)
  | 0, t, h, _ => absurd h (by omega)
  | n + 1, t, h, hn => by
    rw [wt_eq] at h
    have hl := len_wtL t.f2
    rw [chk_eq]
    have el : wrap64 ((t.f1.length : Int) + (t.f2.length : Int)) = ((t.f1.length + t.f2.length : Nat) : Int) := by rw [w64 (by omega) (by omega)]; omega
    by_cases h1 : t.f0 < 1
    · (refine Ev.shift ?_; simp only [threshold_level.f, h1, true_or, Option.bind_some, ↓reduceIte, Bool.false_eq_true, reduceCtorEq, decide_eq_true_eq, Go.Proofs.YtkjlcbfjllpcnaaW.PrintWords.rd, rd_T32, rd_T34])
      (refine Ev.shift ?_; simp only [threshold_level.j0, Option.bind_some, ↓reduceIte, Bool.false_eq_true, reduceCtorEq, decide_eq_true_eq, Go.Proofs.YtkjlcbfjllpcnaaW.PrintWords.rd, rd_T32, rd_T34])
      exact Ev.now _
    by_cases h2 : t.f0 > ((t.f1.length + t.f2.length : Nat) : Int)
    · (refine Ev.shift ?_; simp only [threshold_level.f, h1, h2, el, or_true, decide_true, Option.bind_some, ↓reduceIte, Bool.false_eq_true, reduceCtorEq, decide_eq_true_eq, Go.Proofs.YtkjlcbfjllpcnaaW.PrintWords.rd, rd_T32, rd_T34])
      (refine Ev.shift ?_; simp only [threshold_level.j0, Option.bind_some, ↓reduceIte, Bool.false_eq_true, reduceCtorEq, decide_eq_true_eq, Go.Proofs.YtkjlcbfjllpcnaaW.PrintWords.rd, rd_T32, rd_T34])
      exact Ev.now _
    (refine Ev.shift ?_; simp only [threshold_level.f, h1, h2, el, or_false, decide_false, Option.bind_some, ↓reduceIte, Bool.false_eq_true, reduceCtorEq, decide_eq_true_eq, Go.Proofs.YtkjlcbfjllpcnaaW.PrintWords.rd, rd_T32, rd_T34])
    (refine Ev.shift ?_; simp only [threshold_level.j0, containsFunc_level.f, Option.bind_some, ↓reduceIte, Bool.false_eq_true, reduceCtorEq, decide_eq_true_eq, Go.Proofs.YtkjlcbfjllpcnaaW.PrintWords.rd, rd_T32, rd_T34])
    cases hn : t.f1.any noNode
    · simp only [Bool.false_eq_true, if_false]
      refine Ev.bind1 (Of_ev t.f1 (by omega)) ?_
      by_cases h3 : (ofS 0 t.f1).2 = 0
      · simp only [h3, if_true]
        refine Ev.fold (L := fun (c : Unit) i k => threshold_level.l0 k t.f2 (t.f2.length : Int) i) (by omega) (fun pre ys c => chkL ys = chkL t.f2) ?_ ?_ () rfl
        · intro c i hI hi
          rw [chkL] at hI
          (refine Ev.shift ?_; simp only [threshold_level.l0, hi, Option.bind_some, ↓reduceIte, Bool.false_eq_true, reduceCtorEq, decide_eq_true_eq, Go.Proofs.YtkjlcbfjllpcnaaW.PrintWords.rd, rd_T32, rd_T34])
          rw [← hI]
          exact Ev.now _
        · intro pre y ys c i e hI hi h0 hlt hw hrd
          rw [chkL] at hI
          have hy := level_ev n y (by have := wt_mem (show y ∈ t.f2 by rw [e]; simp); omega) (by omega)
          by_cases h4 : chk y = 0
          · refine Or.inl ⟨(), by rw [← hI, if_pos h4], fun k => ?_⟩
            (refine Ev.shift ?_; simp only [threshold_level.l0, h0, hlt, hw, hrd, Option.bind_some, ↓reduceIte, Bool.false_eq_true, reduceCtorEq, decide_eq_true_eq, Go.Proofs.YtkjlcbfjllpcnaaW.PrintWords.rd, rd_T32, rd_T34])
            refine Ev.bind1 hy ?_
            simp only [h4, if_true]
            exact k
          · refine Or.inr ?_
            rw [← hI, if_neg h4]
            (refine Ev.shift ?_; simp only [threshold_level.l0, h0, hlt, hw, hrd, Option.bind_some, ↓reduceIte, Bool.false_eq_true, reduceCtorEq, decide_eq_true_eq, Go.Proofs.YtkjlcbfjllpcnaaW.PrintWords.rd, rd_T32, rd_T34])
            refine Ev.bind1 hy ?_
            simp only [h4, if_false]
            exact Ev.now _
      · simp only [h3, if_false]
        exact Ev.now _
    · simp only [if_true]
      exact Ev.now _
theorem Valid_ev (t : S32) (h : wt t < 1000000) : Ev (fun k => threshold_Valid.f k t.f0 t.f1 t.f2) (validT t) := by
  simp only [threshold_Valid.f, validT, Option.bind_some, ↓reduceIte, Bool.false_eq_true, reduceCtorEq, decide_eq_true_eq, Go.Proofs.YtkjlcbfjllpcnaaW.PrintWords.rd, rd_T32, rd_T34]
  refine Ev.bind1 (Depth_ev 1000000 t h (by decide)) ?_
  by_cases h1 : dep t > 4
  · have : (dep t : Int) > 4 := by omega
    simp only [h1, this, Option.bind_some, ↓reduceIte, Bool.false_eq_true, reduceCtorEq, decide_eq_true_eq, Go.Proofs.YtkjlcbfjllpcnaaW.PrintWords.rd, rd_T32, rd_T34]
    exact Ev.now _
  have h2 : ¬ (dep t : Int) > 4 := by omega
  simp only [h1, h2, Option.bind_some, ↓reduceIte, Bool.false_eq_true, reduceCtorEq, decide_eq_true_eq, Go.Proofs.YtkjlcbfjllpcnaaW.PrintWords.rd, rd_T32, rd_T34]
  refine Ev.bind1 (Size_ev 1000000 t h (by decide)) ?_
  by_cases h3 : siz t > 200
  · have : (siz t : Int) > 200 := by omega
    simp only [h3, this, Option.bind_some, ↓reduceIte, Bool.false_eq_true, reduceCtorEq, decide_eq_true_eq, Go.Proofs.YtkjlcbfjllpcnaaW.PrintWords.rd, rd_T32, rd_T34]
    exact Ev.now _
  have h4 : ¬ (siz t : Int) > 200 := by omega
  simp only [h3, h4, Option.bind_some, ↓reduceIte, Bool.false_eq_true, reduceCtorEq, decide_eq_true_eq, Go.Proofs.YtkjlcbfjllpcnaaW.PrintWords.rd, rd_T32, rd_T34]
  refine Ev.bind1 (level_ev 1000000 t h (by decide)) ?_
  exact Ev.now _
end Go.Proofs.Ytkjlcbfjllpcnaa.X
namespace Go.Proofs.Ytkjlcbfjllpcnaa.X
open Go.RowKit Go.Proofs.YtkjlcbfjllpcnaaW.PrintWords Go.Proofs.YtkjlcbfjllpcnaaW.PrintLast Go.Proofs.YtkjlcbfjllpcnaaW.PrintMore
attribute [local go_sem] max2_int min2_int max_two min_two max_three min_three max_four min_four
set_option linter.unusedVariables false
set_option linter.unusedSimpArgs false
end Go.Proofs.Ytkjlcbfjllpcnaa.X
namespace Go.Proofs.Ytkjlcbfjllpcnaa.X
open Go.RowKit Go.Proofs.YtkjlcbfjllpcnaaW.PrintWords Go.Proofs.YtkjlcbfjllpcnaaW.PrintLast Go.Proofs.YtkjlcbfjllpcnaaW.PrintMore
set_option linter.unusedVariables false
def EvP {α : Type} (g : Nat → Option α) (P : α → Prop) : Prop := ∃ r, P r ∧ Ev g r
theorem EvP.now {α : Type} {P : α → Prop} {r : α} (h : P r) : EvP (fun _ => some r) P := ⟨r, h, Ev.now r⟩
theorem EvP.shift {α : Type} {g : Nat → Option α} {P : α → Prop} (h : EvP (fun k => g (k + 1)) P) : EvP g P := by
  obtain ⟨r, h1, h2⟩ := h
  exact ⟨r, h1, Ev.shift h2⟩
theorem EvP.bind {α β : Type} {g : Nat → Option α} {f : Nat → α → Option β} {P : α → Prop} {Q : β → Prop} (h : EvP g P) (k : ∀ a, P a → EvP (fun n => f n a) Q) : EvP (fun n => (g n).bind (f n)) Q := by
  obtain ⟨a, h1, h2⟩ := h
  obtain ⟨r, k1, k2⟩ := k a h1
  exact ⟨r, k1, Ev.bind h2 k2⟩
theorem EvP.imp {α : Type} {g : Nat → Option α} {P Q : α → Prop} (h : EvP g P) (k : ∀ a, P a → Q a) : EvP g Q := by
  obtain ⟨r, h1, h2⟩ := h
  exact ⟨r, k r h1, h2⟩
theorem EvP.loop {σ ρ : Type} {L : σ → Nat → Option ρ} {Q : ρ → Prop} (I : σ → Prop) (m : σ → Nat)
    (hstep : ∀ c, I c → (∀ c', I c' → m c' < m c → EvP (L c') Q) → EvP (L c) Q) (c0 : σ) (h0 : I c0) : EvP (L c0) Q := by
  have key : ∀ n c, m c < n → I c → EvP (L c) Q := by
    intro n
    induction n with
    | zero => intro c h; exact absurd h (by omega)
    | succ n ih => intro c h hc; exact hstep c hc fun c' h' hm => ih c' (by omega) h'
  exact key (m c0 + 1) c0 (by omega) h0
def In (n b : Nat) (t : S32) : Prop := wt t ≤ b ∧ uses t < 2 ^ n
def Okt (n : Nat) (t : S32) : Prop := validT t = 0 ∧ In n 100 t
def Asc (n : Nat) (l : List Int) : Prop := l.length ≤ n ∧ (ofS 0 l).2 = 0 ∧ (ofS 0 l).1 < 2 ^ n ∧ ∀ x ∈ l, 0 ≤ x ∧ x < (n : Int)
theorem Asc.mono {n m : Nat} {l : List Int} (h : Asc n l) (hnm : n ≤ m) : Asc m l := by
  obtain ⟨h1, h2, h3, h4⟩ := h
  exact ⟨by omega, h2, Nat.lt_of_lt_of_le h3 (Nat.pow_le_pow_right (by decide) hnm), fun x hx => by have := h4 x hx; omega⟩
theorem Asc.any {n : Nat} {l : List Int} (h : Asc n l) (hn : n ≤ 10) : l.any noNode = false := by
  rw [List.any_eq_false]
  intro x hx
  have := h.2.2.2 x hx
  simp [noNode]; omega
theorem getD_mem' {α : Type} {l : List α} {i : Nat} (d : α) (h : i < l.length) : l.getD i d ∈ l := by
  rw [List.getD_eq_getElem?_getD, List.getElem?_eq_getElem h]; exact List.getElem_mem h
def OkM (n : Nat) (m : S34) : Prop := if m.f0 = true then Okt n m.f1 else m.f1 = ⟨0, [], []⟩
def OkC (c : List S34) : Prop := 1 ≤ c.length ∧ c.length ≤ 10 ∧ ∀ m ∈ c, OkM c.length m
def declF (i a : Nat) : List S34 → Nat
  | [] => a
  | m :: ms => declF (i + 1) (if m.f0 = true ∧ i < 10 then a ||| 2 ^ i else a) ms
def decl (c : List S34) : Nat := declF 0 0 c
theorem declF_bit : ∀ (ms : List S34) (i a j : Nat), (declF i a ms).testBit j = (a.testBit j || (decide (i ≤ j) && decide (j < 10) && (ms.getD (j - i) z34).f0)) := by
  intro ms
  induction ms with
  | nil => intro i a j; simp [declF, z34]
  | cons m ms ih =>
    intro i a j
    rw [declF, ih]
    by_cases h : j = i
    · subst h
      have e : decide (j + 1 ≤ j) = false := by simp
      have e2 : decide (j ≤ j) = true := by simp
      rw [e, e2, Nat.sub_self]
      by_cases h2 : j < 10 <;> cases hm : m.f0 <;> simp [h2, hm]
    · have e : (if m.f0 = true ∧ i < 10 then a ||| 2 ^ i else a).testBit j = a.testBit j := by
        split
        · rw [or_bit, two_bit]; simp; intro h2; omega
        · rfl
      rw [e]
      by_cases h2 : i ≤ j
      · obtain ⟨d, rfl⟩ : ∃ d, j = i + 1 + d := ⟨j - (i + 1), by omega⟩
        have h3 : i + 1 + d - i = d + 1 := by omega
        have h4 : i + 1 + d - (i + 1) = d := by omega
        rw [h3, h4, List.getD_cons_succ]
        simp [h2]
      · have h3 : ¬ i + 1 ≤ j := by omega
        simp [h2, h3]
theorem decl_bit (c : List S34) (j : Nat) : (decl c).testBit j = (decide (j < 10) && (c.getD j z34).f0) := by
  rw [decl, declF_bit]; simp
theorem decl_lt (c : List S34) : decl c < 1024 := lt_of_bits (n := 10) fun i hi => by rw [decl_bit]; simp; omega
theorem decl_len {c : List S34} {j : Nat} (h : (decl c).testBit j = true) : j < c.length := by
  rw [decl_bit] at h
  by_cases hj : j < c.length
  · exact hj
  · rw [List.getD_eq_getElem?_getD, List.getElem?_eq_none (by omega)] at h
    simp [z34] at h
def nodesL (s : Nat) : List Int := ((List.range 10).filter fun i => s.testBit i).map Int.ofNat
theorem nodesL_mem {s : Nat} {x : Int} : x ∈ nodesL s ↔ inS s x = true := by
  simp only [nodesL, List.mem_map, List.mem_filter, List.mem_range, inS, Bool.and_eq_true, decide_eq_true_eq]
  constructor
  · rintro ⟨i, ⟨h1, h2⟩, rfl⟩
    exact ⟨⟨by simp, by simp; omega⟩, by simpa using h2⟩
  · rintro ⟨⟨h1, h2⟩, h3⟩
    exact ⟨x.toNat, ⟨by omega, h3⟩, by simp; omega⟩
theorem nodesL_len (s : Nat) : (nodesL s).length ≤ 10 := by
  rw [nodesL, List.length_map]
  have := List.length_filter_le (fun i => s.testBit i) (List.range 10)
  simpa using this
def Light (c : List S34) : Prop := c.length < 1000000 ∧ ∀ m ∈ c, wt m.f1 < 1000000
theorem Light.at {c : List S34} (h : Light c) (j : Nat) : wt (c.getD j z34).f1 < 1000000 := by
  by_cases hj : j < c.length
  · exact h.2 _ (getD_mem' z34 hj)
  · rw [List.getD_eq_getElem?_getD, List.getElem?_eq_none (by omega)]; decide
def blk (c : List S34) (s : Nat) (j : Int) : Bool := inS (decl c) j && !(sat (dif 1023 s ||| 2 ^ j.toNat) (c.getD j.toNat z34).f1)
theorem inS_iff {s : Nat} {x : Int} : inS s x = true ↔ ∃ i : Nat, x = (i : Int) ∧ i < 10 ∧ s.testBit i = true := by
  simp only [inS, Bool.and_eq_true, decide_eq_true_eq]
  constructor
  · rintro ⟨⟨h1, h2⟩, h3⟩
    exact ⟨x.toNat, by omega, by omega, h3⟩
  · rintro ⟨i, rfl, h1, h2⟩
    exact ⟨⟨by omega, by omega⟩, by simpa using h2⟩
theorem and_nat' {a b : Nat} (ha : a < 1024) (hb : b < 1024) : Go.bits .and .i64 (a : Int) (b : Int) = ((a &&& b : Nat) : Int) := and_nat (by omega) (by omega)
theorem or_nat' {a b : Nat} (ha : a < 1024) (hb : b < 1024) : Go.bits .or .i64 (a : Int) (b : Int) = ((a ||| b : Nat) : Int) := or_nat (by omega) (by omega)
theorem shl_nat' {k : Nat} (h : k < 10) : shl .i64 1 (k : Int) = ((2 ^ k : Nat) : Int) := shl_nat (by omega)
theorem Declared_ev {c : List S34} (hc : c.length < 1000000) : Ev (fun k => configuration_Declared.f k c) (decl c : Int) := by
  simp only [configuration_Declared.f]
  refine Ev.fold (xs := c) (L := fun (a : Nat) i k => configuration_Declared.l0 k (a : Int) c (c.length : Int) i) (by omega) (fun pre ys a => declF pre.length a ys = decl c ∧ a < 1024) ?_ ?_ 0 ⟨rfl, by decide⟩
  · rintro a i ⟨hI, ha⟩ hi
    rw [declF] at hI
    (refine Ev.shift ?_; simp only [configuration_Declared.l0, hi, Option.bind_some, ↓reduceIte, Bool.false_eq_true, reduceCtorEq, decide_eq_true_eq, Go.Proofs.YtkjlcbfjllpcnaaW.PrintWords.rd, rd_T32, rd_T34])
    rw [hI]
    exact Ev.now _
  · rintro pre y ys a i e ⟨hI, ha⟩ hi h0 hlt hw hrd
    subst hi
    rw [declF] at hI
    by_cases h10 : pre.length < 10
    · have h10' : (pre.length : Int) < 10 := by omega
      have h2 := two_lt10 h10
      cases hy : y.f0
      · refine Or.inl ⟨a, ⟨by simpa [hy] using hI, ha⟩, fun k => ?_⟩
        (refine Ev.shift ?_; simp only [configuration_Declared.l0, h0, hlt, hw, hrd, hy, h10', Option.bind_some, ↓reduceIte, Bool.false_eq_true, reduceCtorEq, decide_eq_true_eq, Go.Proofs.YtkjlcbfjllpcnaaW.PrintWords.rd, rd_T32, rd_T34])
        exact k
      · refine Or.inl ⟨a ||| 2 ^ pre.length, ⟨by simpa [hy, h10] using hI, or_lt10 ha h2⟩, fun k => ?_⟩
        (refine Ev.shift ?_; simp only [configuration_Declared.l0, h0, hlt, hw, hrd, hy, h10', Option.bind_some, ↓reduceIte, Bool.false_eq_true, reduceCtorEq, decide_eq_true_eq, Go.Proofs.YtkjlcbfjllpcnaaW.PrintWords.rd, rd_T32, rd_T34])
        rw [shl_nat' h10, or_nat' ha h2]
        exact k
    · have h10' : ¬ (pre.length : Int) < 10 := by omega
      refine Or.inl ⟨a, ⟨by simpa [h10] using hI, ha⟩, fun k => ?_⟩
      cases hy : y.f0
      · (refine Ev.shift ?_; simp only [configuration_Declared.l0, h0, hlt, hw, hrd, hy, h10', Option.bind_some, ↓reduceIte, Bool.false_eq_true, reduceCtorEq, decide_eq_true_eq, Go.Proofs.YtkjlcbfjllpcnaaW.PrintWords.rd, rd_T32, rd_T34])
        exact k
      · (refine Ev.shift ?_; simp only [configuration_Declared.l0, h0, hlt, hw, hrd, hy, h10', Option.bind_some, ↓reduceIte, Bool.false_eq_true, reduceCtorEq, decide_eq_true_eq, Go.Proofs.YtkjlcbfjllpcnaaW.PrintWords.rd, rd_T32, rd_T34])
        exact k
theorem Nodes_ev {s : Nat} (hs : s < 1024) : Ev (fun k => nodeset_Nodes.f k (s : Int)) (nodesL s) := by
  simp only [nodeset_Nodes.f]
  refine Ev.count (L := fun (l : List Int) i k => nodeset_Nodes.l0 k (s : Int) l i) 10 (by decide) (fun i l => l = ((List.range i).filter fun i => s.testBit i).map Int.ofNat) ?_ ?_ [] rfl
  · rintro l rfl
    have h : ¬ ((10 : Nat) : Int) < 10 := by decide
    (refine Ev.shift ?_; simp only [nodeset_Nodes.l0, h, Option.bind_some, ↓reduceIte, Bool.false_eq_true, reduceCtorEq, decide_eq_true_eq, Go.Proofs.YtkjlcbfjllpcnaaW.PrintWords.rd, rd_T32, rd_T34])
    exact Ev.now _
  · rintro i l hi hl hw
    have h : (i : Int) < 10 := by omega
    have hlen : l.length < 17592186044416 := by
      rw [hl, List.length_map]
      have := List.length_filter_le (fun i => s.testBit i) (List.range i)
      simp at this ⊢; omega
    cases hb : s.testBit i
    · refine Or.inl ⟨l, ?_, fun k => ?_⟩
      · rw [hl, List.range_succ, List.filter_append]; simp [hb]
      · (refine Ev.shift ?_; simp only [nodeset_Nodes.l0, h, Has_eq hs, inS_nat s i (by omega), hb, hw, Option.bind_some, ↓reduceIte, Bool.false_eq_true, reduceCtorEq, decide_eq_true_eq, Go.Proofs.YtkjlcbfjllpcnaaW.PrintWords.rd, rd_T32, rd_T34])
        exact k
    · refine Or.inl ⟨l ++ [(i : Int)], ?_, fun k => ?_⟩
      · rw [hl, List.range_succ, List.filter_append]; simp [hb]
      · (refine Ev.shift ?_; simp only [nodeset_Nodes.l0, h, Has_eq hs, inS_nat s i (by omega), hb, hw, hlen, Option.bind_some, ↓reduceIte, Bool.false_eq_true, reduceCtorEq, decide_eq_true_eq, Go.Proofs.YtkjlcbfjllpcnaaW.PrintWords.rd, rd_T32, rd_T34])
        exact k
theorem Sub.or {a b c : Nat} (h : Sub a c) (k : Sub b c) : Sub (a ||| b) c := fun i hi => by
  rw [or_bit, Bool.or_eq_true] at hi
  exact hi.elim (h i) (k i)
theorem Sub.two {i s : Nat} (h : s.testBit i = true) : Sub (2 ^ i) s := fun j hj => by
  rw [two_bit, decide_eq_true_eq] at hj; subst hj; exact h
theorem pcn_lt {s i : Nat} (hi : i < 10) (h : s.testBit i = false) : pcn s < pcn (s ||| 2 ^ i) := by
  unfold pcn
  have key : ∀ n, (List.range n).countP (fun k => s.testBit k) + (if i < n then 1 else 0) ≤ (List.range n).countP fun k => (s ||| 2 ^ i).testBit k := by
    intro n
    induction n with
    | zero => simp
    | succ n ih =>
      rw [List.range_succ, List.countP_append, List.countP_append, List.countP_singleton, List.countP_singleton, or_bit, two_bit]
      generalize (List.range n).countP (fun k => (s ||| 2 ^ i).testBit k) = B at ih ⊢
      generalize (List.range n).countP (fun k => s.testBit k) = A at ih ⊢
      by_cases e : i = n
      · subst e
        rw [h, if_neg (Nat.lt_irrefl i)] at *
        simp
        omega
      · by_cases hin : i < n
        · rw [if_pos hin] at ih
          rw [if_pos (show i < n + 1 by omega)]
          cases hb : s.testBit n <;> simp [e] <;> omega
        · rw [if_neg hin] at ih
          rw [if_neg (show ¬ i < n + 1 by omega)]
          cases hb : s.testBit n <;> simp [e] <;> omega
  have := key 10
  rw [if_pos hi] at this
  omega
theorem pcn_le (s : Nat) : pcn s ≤ 10 := by
  have : (List.range 10).countP (fun k => s.testBit k) ≤ (List.range 10).length := List.countP_le_length
  simpa [pcn] using this
def quo (c : List S34) (x : Nat) : Bool := decide (x ≠ 0) && decide (x &&& decl c = x) && (nodesL x).all fun j => sat x (c.getD j.toNat z34).f1
theorem quo_iff {c : List S34} {x : Nat} (hx : x < 1024) : quo c x = true ↔ x ≠ 0 ∧ Sub x (decl c) ∧ ∀ i, x.testBit i = true → sat x (c.getD i z34).f1 = true := by
  unfold quo
  rw [Bool.and_eq_true, Bool.and_eq_true, decide_eq_true_eq, decide_eq_true_eq, List.all_eq_true, sub_and]
  constructor
  · rintro ⟨⟨h1, h2⟩, h3⟩
    refine ⟨h1, h2, fun i hi => ?_⟩
    have h10 : i < 10 := by
      rcases Nat.lt_or_ge i 10 with h | h
      · exact h
      · rw [bit_lt (n := 10) hx h] at hi; cases hi
    have := h3 (i : Int) (nodesL_mem.2 (inS_iff.2 ⟨i, rfl, h10, hi⟩))
    rwa [Int.toNat_natCast] at this
  · rintro ⟨h1, h2, h3⟩
    refine ⟨⟨h1, h2⟩, fun j hj => ?_⟩
    obtain ⟨i, rfl, h10, hi⟩ := inS_iff.1 (nodesL_mem.1 hj)
    rw [Int.toNat_natCast]
    exact h3 i hi
end Go.Proofs.Ytkjlcbfjllpcnaa.X
namespace Go.Proofs.Ytkjlcbfjllpcnaa.X
open Go.RowKit Go.Proofs.YtkjlcbfjllpcnaaW.PrintWords Go.Proofs.YtkjlcbfjllpcnaaW.PrintLast Go.Proofs.YtkjlcbfjllpcnaaW.PrintMore
attribute [local go_sem] max2_int min2_int max_two min_two max_three min_three max_four min_four
set_option linter.unusedVariables false
set_option linter.unusedSimpArgs false
end Go.Proofs.Ytkjlcbfjllpcnaa.X
namespace Go.Proofs.Ytkjlcbfjllpcnaa.X
open Go.RowKit Go.Lib Go.Sort Go.Proofs.YtkjlcbfjllpcnaaW.PrintWords Go.Proofs.YtkjlcbfjllpcnaaW.PrintLast Go.Proofs.YtkjlcbfjllpcnaaW.PrintMore
set_option linter.unusedVariables false
def leS (x y : Int) : Prop := ¬ ltS y x
instance (x y : Int) : Decidable (leS x y) := inferInstanceAs (Decidable (¬ (_ ∨ _)))
theorem leS_antisymm {x y : Int} (h : leS x y) (k : leS y x) : x = y := by unfold leS ltS at *; omega
theorem sortS_perm (l : List Int) : (sortS l).Perm l := List.mergeSort_perm _ _
theorem sortS_sorted (l : List Int) : (sortS l).Pairwise leS := by
  have := List.pairwise_mergeSort (le := fun x y => !(ltOf cmpS) y x) (by
    intro a b c h1 h2
    rw [Bool.not_eq_true', ltOf_not] at *
    unfold ltS at *; omega) (by
    intro a b
    rw [Bool.or_eq_true, Bool.not_eq_true', Bool.not_eq_true', ltOf_not, ltOf_not]
    unfold ltS; omega) l
  refine this.imp ?_
  intro a b h
  rw [Bool.not_eq_true', ltOf_not] at h
  exact h
theorem sortS_eq {l l' : List Int} (h : l.Perm l') (hs : l'.Pairwise leS) : sortS l = l' :=
  List.Perm.eq_of_pairwise (le := leS) (fun a b _ _ h k => leS_antisymm h k) (sortS_sorted l) hs ((sortS_perm l).trans h)
theorem sub_nat {a b : Nat} (ha : a < 1024) (hb : b < 1024) : sub (a : Int) (b : Int) = true ↔ Sub a b := by
  unfold sub
  rw [andNot_nat (by omega) (by omega), beq_iff_eq, ← sub_dif]
  omega
def memV (n : Nat) (m : S34) : Int := if m.f0 = true then (if validT m.f1 = 0 then (if uses m.f1 < 2 ^ n then 0 else 5) else validT m.f1) else (if m.f1.f0 = 0 ∧ m.f1.f1 = [] ∧ m.f1.f2 = [] then 0 else 1)
def valF (n : Nat) : List S34 → Int
  | [] => 0
  | m :: ms => if memV n m = 0 then valF n ms else memV n m
def valC (c : List S34) : Int := if c.length > 10 then 3 else valF c.length c
theorem member_ev {n : Nat} (hn : n ≤ 10) (m : S34) (hm : wt m.f1 < 1000000) : Ev (fun k => configuration_member.f k m.f0 m.f1.f0 m.f1.f1 m.f1.f2 (n : Int)) (memV n m) := by
  unfold memV
  cases h : m.f0
  · simp only [configuration_member.f, configuration_blank.f, Option.bind_some, ↓reduceIte, Bool.false_eq_true, reduceCtorEq, decide_eq_true_eq, Go.Proofs.YtkjlcbfjllpcnaaW.PrintWords.rd, rd_T32, rd_T34]
    by_cases h1 : m.f1.f0 = 0
    · by_cases h2 : m.f1.f1 = []
      · by_cases h3 : m.f1.f2 = []
        · simp only [h1, h2, h3, and_self, if_true, List.length_nil, Option.bind_some]
          simp only [Int.natCast_zero, beq_self_eq_true, if_true, Int.ofNat_zero, Option.bind_some]
          exact Ev.now _
        · have : ¬ (m.f1.f2.length : Int) = 0 := by
            intro h; exact h3 (List.eq_nil_of_length_eq_zero (by omega))
          have e2 : ((m.f1.f2.length : Int) == 0) = false := by simpa using this
          simp only [h1, h2, h3, and_false, if_true, if_false, List.length_nil, Int.natCast_zero, Int.ofNat_zero, e2, Option.bind_some, Bool.false_eq_true]
          exact Ev.now _
      · have : ¬ (m.f1.f1.length : Int) = 0 := by
          intro h; exact h2 (List.eq_nil_of_length_eq_zero (by omega))
        simp only [h1, h2, this, false_and, and_false, if_true, if_false, Option.bind_some, Bool.false_eq_true]
        exact Ev.now _
    · simp only [h1, false_and, if_false, Option.bind_some, Bool.false_eq_true]
      exact Ev.now _
  · simp only [configuration_member.f, Option.bind_some, ↓reduceIte, Bool.false_eq_true, reduceCtorEq, decide_eq_true_eq, Go.Proofs.YtkjlcbfjllpcnaaW.PrintWords.rd, rd_T32, rd_T34]
    refine Ev.bind1 (Valid_ev m.f1 hm) ?_
    by_cases h1 : validT m.f1 = 0
    · simp only [h1, if_true]
      refine Ev.bind1 (Uses_ev 1000000 m.f1 hm (by decide)) ?_
      have h0 : (0 : Int) ≤ (n : Int) := by omega
      rw [shl_nat (by omega), if_pos h0]
      by_cases h2 : uses m.f1 < 2 ^ n
      · rw [if_pos h2, if_neg (by omega)]; exact Ev.now _
      · rw [if_neg h2, if_pos (by omega)]; exact Ev.now _
    · simp only [h1, if_false]
      exact Ev.now _
theorem CValid_ev {c : List S34} (hc : Light c) : Ev (fun k => configuration_Valid.f k c) (valC c) := by
  have hl := hc.1
  unfold valC
  by_cases h : c.length > 10
  · have h2 : (c.length : Int) > 10 := by omega
    simp only [configuration_Valid.f, h, h2, Option.bind_some, ↓reduceIte, Bool.false_eq_true, reduceCtorEq, decide_eq_true_eq, Go.Proofs.YtkjlcbfjllpcnaaW.PrintWords.rd, rd_T32, rd_T34]
    exact Ev.now _
  · have h2 : ¬ (c.length : Int) > 10 := by omega
    simp only [configuration_Valid.f, h, h2, Option.bind_some, ↓reduceIte, Bool.false_eq_true, reduceCtorEq, decide_eq_true_eq, Go.Proofs.YtkjlcbfjllpcnaaW.PrintWords.rd, rd_T32, rd_T34]
    refine Ev.fold (xs := c) (L := fun (a : Unit) i k => configuration_Valid.l0 k c (c.length : Int) i c) (by omega) (fun pre ys a => valF c.length ys = valF c.length c) ?_ ?_ () rfl
    · intro a i hI hi
      rw [valF] at hI
      (refine Ev.shift ?_; simp only [configuration_Valid.l0, hi, Option.bind_some, ↓reduceIte, Bool.false_eq_true, reduceCtorEq, decide_eq_true_eq, Go.Proofs.YtkjlcbfjllpcnaaW.PrintWords.rd, rd_T32, rd_T34])
      rw [← hI]
      exact Ev.now _
    · intro pre y ys a i e hI hi h0 hlt hw hrd
      rw [valF] at hI
      have hm := member_ev (n := c.length) (by omega) y (hc.2 y (by rw [e]; simp))
      by_cases h4 : memV c.length y = 0
      · rw [if_pos h4] at hI
        refine Or.inl ⟨(), hI, fun k => ?_⟩
        (refine Ev.shift ?_; simp only [configuration_Valid.l0, h0, hlt, hw, hrd, Option.bind_some, ↓reduceIte, Bool.false_eq_true, reduceCtorEq, decide_eq_true_eq, Go.Proofs.YtkjlcbfjllpcnaaW.PrintWords.rd, rd_T32, rd_T34])
        refine Ev.bind1 hm ?_
        rw [h4]
        exact k
      · rw [if_neg h4] at hI
        refine Or.inr ?_
        rw [← hI]
        (refine Ev.shift ?_; simp only [configuration_Valid.l0, h0, hlt, hw, hrd, Option.bind_some, ↓reduceIte, Bool.false_eq_true, reduceCtorEq, decide_eq_true_eq, Go.Proofs.YtkjlcbfjllpcnaaW.PrintWords.rd, rd_T32, rd_T34])
        refine Ev.bind1 hm ?_
        simp only [h4, if_false]
        exact Ev.now _
theorem OkM.memV {n : Nat} {m : S34} (h : OkM n m) : memV n m = 0 := by
  unfold OkM at h
  unfold X.memV
  split at h
  · rename_i h1
    rw [if_pos h1, if_pos h.1, if_pos h.2.2]
  · rename_i h1
    rw [if_neg h1, h]
    simp
theorem valF_ok {n : Nat} : ∀ (l : List S34), (∀ m ∈ l, OkM n m) → valF n l = 0
  | [], _ => by rw [valF]
  | m :: ms, h => by rw [valF, if_pos (h m (by simp)).memV]; exact valF_ok ms fun x hx => h x (by simp [hx])
theorem OkC.valC {c : List S34} (h : OkC c) : valC c = 0 := by
  have := h.2.1
  rw [X.valC, if_neg (by omega)]
  exact valF_ok c h.2.2
theorem Ints_ev {xs ys : List Int} (hx : xs.length < 1000000) : Ev (fun k => trustquorummake_Ints.f k xs ys) (decide (xs = ys)) := by
  by_cases hl : xs.length = ys.length
  · have hl2 : (xs.length : Int) = (ys.length : Int) := by omega
    simp only [trustquorummake_Ints.f, Option.bind_some, ↓reduceIte, Bool.false_eq_true, reduceCtorEq, decide_eq_true_eq, Go.Proofs.YtkjlcbfjllpcnaaW.PrintWords.rd, rd_T32, rd_T34]
    simp only [if_pos hl2]
    refine Ev.fold (xs := xs) (L := fun (a : Unit) i k => trustquorummake_Ints.l0 k xs ys (xs.length : Int) i) (by omega) (fun pre zs a => xs.take pre.length = ys.take pre.length) ?_ ?_ () rfl
    · intro a i hI hi
      rw [List.take_of_length_le (Nat.le_refl _), List.take_of_length_le (by omega)] at hI
      (refine Ev.shift ?_; simp only [trustquorummake_Ints.l0, hi, Option.bind_some, ↓reduceIte, Bool.false_eq_true, reduceCtorEq, decide_eq_true_eq, Go.Proofs.YtkjlcbfjllpcnaaW.PrintWords.rd, rd_T32, rd_T34])
      rw [decide_eq_true hI]
      exact Ev.now _
    · intro pre y zs a i e hI hi h0 hlt hw hrd
      subst hi
      have hrd' := hrd
      simp only [Int.toNat_natCast] at hrd'
      have hlt2 : (pre.length : Int) < (ys.length : Int) := by omega
      have hp : pre.length < ys.length := by omega
      have hy : ys.getD pre.length 0 = ys[pre.length] := by rw [List.getD_eq_getElem?_getD, List.getElem?_eq_getElem hp]; rfl
      have hx' : xs.take (pre.length + 1) = xs.take pre.length ++ [y] := by
        have := hrd 0
        rw [Int.toNat_natCast, List.getD_eq_getElem?_getD, List.getElem?_eq_getElem (show pre.length < xs.length by omega)] at this
        rw [List.take_succ_eq_append_getElem (by omega)]
        congr 2
      by_cases h : y = ys.getD pre.length 0
      · refine Or.inl ⟨(), ?_, fun k => ?_⟩
        · rw [List.length_append, List.length_singleton, hx', hI, List.take_succ_eq_append_getElem hp, ← hy, h]
        · (refine Ev.shift ?_; simp only [trustquorummake_Ints.l0, h0, hlt, hw, hlt2, hrd', Int.toNat_natCast, Option.bind_some, ↓reduceIte, Bool.false_eq_true, reduceCtorEq, decide_eq_true_eq, Go.Proofs.YtkjlcbfjllpcnaaW.PrintWords.rd, rd_T32, rd_T34])
          simp only [if_pos h]
          exact k
      · refine Or.inr ?_
        have hne : xs ≠ ys := by
          intro hh
          subst hh
          have := hrd 0
          rw [Int.toNat_natCast] at this
          exact h this.symm
        rw [decide_eq_false hne]
        (refine Ev.shift ?_; simp only [trustquorummake_Ints.l0, h0, hlt, hw, hlt2, hrd', Int.toNat_natCast, Option.bind_some, ↓reduceIte, Bool.false_eq_true, reduceCtorEq, decide_eq_true_eq, Go.Proofs.YtkjlcbfjllpcnaaW.PrintWords.rd, rd_T32, rd_T34])
        simp only [if_neg h]
        exact Ev.now _
  · have hl2 : ¬ (xs.length : Int) = (ys.length : Int) := by omega
    simp only [trustquorummake_Ints.f, hl2, Option.bind_some, ↓reduceIte, Bool.false_eq_true, reduceCtorEq, decide_eq_true_eq, Go.Proofs.YtkjlcbfjllpcnaaW.PrintWords.rd, rd_T32, rd_T34]
    have hne : xs ≠ ys := fun hh => hl (by rw [hh])
    rw [decide_eq_false hne]
    exact Ev.now _
end Go.Proofs.Ytkjlcbfjllpcnaa.X
namespace Go.Proofs.Ytkjlcbfjllpcnaa.X
open Go.RowKit Go.Proofs.YtkjlcbfjllpcnaaW.PrintWords Go.Proofs.YtkjlcbfjllpcnaaW.PrintLast Go.Proofs.YtkjlcbfjllpcnaaW.PrintMore
set_option linter.unusedVariables false
instance (x y:Int):Decidable (ltS x y):=inferInstanceAs (Decidable (_ ∨ _))
theorem shr_one {s k:Nat} (hs:s < 1024) (hk:k < 10):(Go.bits .and .i64 (shr .i64 (s:Int) (k:Int)) 1)=if s.testBit k=true then 1 else 0:=by
 have hl:s / 2 ^ k≤s:=Nat.div_le_self _ _
 rw [shr_nat s k (by omega),show (1:Int)=((1:Nat):Int) from rfl,and_nat (by omega) (by decide),Nat.testBit_eq_decide_div_mod_eq,Nat.and_one_is_mod]
 by_cases h:s / 2 ^ k % 2=1
 ·simp [h]
 ·have:s / 2 ^ k % 2=0:=by omega
  simp [this]
theorem ref_SizeEv {s:Nat} (hs:s < 1024):Ev (fun k=>trustquorumref01_Size.f k (s:Int)) (pcn s:Int):=by
 simp only [trustquorumref01_Size.f]
 refine Ev.count (L:=fun (c:Nat) i k=>trustquorumref01_Size.l0 k (s:Int) (c:Int) i) 10 (by decide) (fun i c=>c=(List.range i).countP fun k=>s.testBit k) ?_ ?_ 0 rfl
 ·intro c hc
  have h:¬ ((10:Nat):Int) < 10:=by decide
  (refine Ev.shift ?_;simp only [trustquorumref01_Size.l0,h,Option.bind_some,↓reduceIte,Bool.false_eq_true,reduceCtorEq,decide_eq_true_eq,Go.Proofs.YtkjlcbfjllpcnaaW.PrintWords.rd,rd_T32,rd_T34])
  rw [hc]
  exact Ev.now _
 ·intro i c hi hc hw
  have h:(i:Int) < 10:=by omega
  have h0:(0:Int)≤i:=by omega
  have hle:c≤i:=by rw [hc];have:=List.countP_le_length (p:=fun k=>s.testBit k) (l:=List.range i);simpa using this
  refine Or.inl ⟨c+if s.testBit i=true then 1 else 0,by rw [hc,List.range_succ,List.countP_append,List.countP_singleton],fun k=>?_⟩
  (refine Ev.shift ?_;simp only [trustquorumref01_Size.l0,h,h0,ref01_Valid_eq,vld_nat hs,shr_one hs hi,hw,Option.bind_some,↓reduceIte,Bool.false_eq_true,reduceCtorEq,decide_eq_true_eq,Go.Proofs.YtkjlcbfjllpcnaaW.PrintWords.rd,rd_T32,rd_T34])
  cases hb:s.testBit i
  ·rw [hb] at k
   simp only [Bool.false_eq_true,if_false,Int.add_zero,Nat.add_zero] at k ⊢
   rw [w64 (by omega) (by omega)]
   exact k
  ·rw [hb] at k
   simp only [if_true] at k ⊢
   rw [show wrap64 ((c:Int)+1)=((c+1:Nat):Int) from w64 (by omega) (by omega)]
   exact k
end Go.Proofs.Ytkjlcbfjllpcnaa.X
namespace Go.Proofs.Ytkjlcbfjllpcnaa.X
open Go.RowKit Go.Lib Go.Sort Go.Proofs.YtkjlcbfjllpcnaaW.PrintWords Go.Proofs.YtkjlcbfjllpcnaaW.PrintLast Go.Proofs.YtkjlcbfjllpcnaaW.PrintMore
set_option linter.unusedVariables false
theorem ltS_irrefl (x : Int) : ¬ ltS x x := by unfold ltS; omega
theorem ltS_tri {x y : Int} (h : ¬ ltS x y) (k : x ≠ y) : ltS y x := by unfold ltS at *; omega
def Mini (l : List Int) (x : Int) : Prop := x ∈ l ∧ vld x = true ∧ ∀ y ∈ l, vld y = true → Sub y.toNat x.toNat → y = x
theorem vld_cast {x : Int} (h : vld x = true) : ∃ n : Nat, x = (n : Int) ∧ n < 1024 := by
  rw [vld_iff] at h
  exact ⟨x.toNat, by omega, by omega⟩
theorem sub_v {x y : Int} (hx : vld x = true) (hy : vld y = true) : sub x y = true ↔ Sub x.toNat y.toNat := by
  obtain ⟨a, rfl, ha⟩ := vld_cast hx
  obtain ⟨b, rfl, hb⟩ := vld_cast hy
  rw [sub_nat ha hb, Int.toNat_natCast, Int.toNat_natCast]
theorem pcn_sub {a b : Nat} (hb : b < 1024) (h : Sub a b) (hne : a ≠ b) : pcn a < pcn b := by
  have hex : ∃ i, i < 10 ∧ b.testBit i = true ∧ a.testBit i = false := by
    apply Classical.byContradiction
    intro hn
    refine hne (Sub.eq h fun i hi => ?_)
    cases ha : a.testBit i
    · refine absurd ⟨i, ?_, hi, ha⟩ hn
      rcases Nat.lt_or_ge i 10 with h | h
      · exact h
      · rw [bit_lt (n := 10) hb h] at hi; cases hi
    · rfl
  obtain ⟨i, h10, hbi, hai⟩ := hex
  refine Nat.lt_of_lt_of_le (pcn_lt h10 hai) ?_
  unfold pcn
  refine List.countP_mono_left fun k _ hk => ?_
  exact (Sub.or h (Sub.two hbi)) k hk
theorem ltS_of_sub {x y : Int} (hx : vld x = true) (hy : vld y = true) (h : Sub x.toNat y.toNat) (hne : x ≠ y) : ltS x y := by
  obtain ⟨a, rfl, ha⟩ := vld_cast hx
  obtain ⟨b, rfl, hb⟩ := vld_cast hy
  rw [Int.toNat_natCast, Int.toNat_natCast] at h
  have := pcn_sub hb h (by omega)
  left
  unfold rank size
  rw [vld_nat ha, vld_nat hb]
  simp only [if_true, Int.toNat_natCast]
  omega
theorem leastFold_spec (l : List Int) (hv : ∀ x ∈ l, vld x = true) (hs : l.Pairwise leS) : (leastFold l).Pairwise ltS ∧ ∀ x, x ∈ leastFold l ↔ Mini l x := by
  have key : ∀ (rest pre out : List Int), l = pre ++ rest → out.Pairwise ltS → (∀ x ∈ out, x ∈ pre ∧ Mini l x) → (∀ x ∈ pre, ∃ t ∈ out, Sub t.toNat x.toNat) →
      (rest.foldl leastStep out).Pairwise ltS ∧ ∀ x, x ∈ rest.foldl leastStep out ↔ Mini l x := by
    intro rest
    induction rest with
    | nil =>
      intro pre out e h1 h2 h3
      rw [List.append_nil] at e
      subst e
      refine ⟨h1, fun x => ⟨fun h => (h2 x h).2, fun h => ?_⟩⟩
      obtain ⟨t, ht, hts⟩ := h3 x h.1
      have := h.2.2 t (h2 t ht).1 (h2 t ht).2.2.1 hts
      rw [← this]; exact ht
    | cons y ys ih =>
      intro pre out e h1 h2 h3
      rw [List.foldl_cons]
      have hy : y ∈ l := by rw [e]; simp
      have hvy := hv y hy
      by_cases ha : (out.any fun t => sub t y) = true
      · rw [leastStep, if_pos ha]
        obtain ⟨t, ht, hts⟩ := List.any_eq_true.1 ha
        refine ih (pre ++ [y]) out (by rw [e]; simp) h1 (fun x hx => ⟨by simp [(h2 x hx).1], (h2 x hx).2⟩) fun x hx => ?_
        rcases List.mem_append.1 hx with h | h
        · exact h3 x h
        · rw [List.mem_singleton.1 h]
          exact ⟨t, ht, (sub_v (h2 t ht).2.2.1 hvy).1 hts⟩
      · rw [leastStep, if_neg ha]
        have hno : ∀ t ∈ out, ¬ Sub t.toNat y.toNat := fun t ht hh => ha (List.any_eq_true.2 ⟨t, ht, (sub_v (h2 t ht).2.2.1 hvy).2 hh⟩)
        have hpy : ∀ x ∈ pre, leS x y := by
          intro x hx
          rw [e, List.pairwise_append] at hs
          exact hs.2.2 x hx y (by simp)
        have hmin : Mini l y := by
          refine ⟨hy, hvy, fun z hz hvz hzy => ?_⟩
          apply Classical.byContradiction
          intro hne
          have hlt := ltS_of_sub hvz hvy hzy hne
          have hzp : z ∈ pre := by
            rw [e] at hz
            rcases List.mem_append.1 hz with h | h
            · exact h
            · rcases List.mem_cons.1 h with h | h
              · exact absurd h hne
              · rw [e, List.pairwise_append, List.pairwise_cons] at hs
                exact absurd hlt (hs.2.1.1 z h)
          obtain ⟨t, ht, hts⟩ := h3 z hzp
          exact hno t ht (hts.trans hzy)
        refine ih (pre ++ [y]) (out ++ [y]) (by rw [e]; simp) ?_ ?_ ?_
        · rw [List.pairwise_append]
          refine ⟨h1, by simp, fun a ha b hb => ?_⟩
          rw [List.mem_singleton.1 hb]
          refine ltS_tri (hpy a (h2 a ha).1) fun hh => ?_
          exact hno a ha (by rw [hh]; exact Sub.refl _)
        · intro x hx
          rcases List.mem_append.1 hx with h | h
          · exact ⟨by simp [(h2 x h).1], (h2 x h).2⟩
          · rw [List.mem_singleton.1 h]; exact ⟨by simp, hmin⟩
        · intro x hx
          rcases List.mem_append.1 hx with h | h
          · obtain ⟨t, ht, hts⟩ := h3 x h
            exact ⟨t, by simp [ht], hts⟩
          · rw [List.mem_singleton.1 h]; exact ⟨y, by simp, Sub.refl _⟩
  exact key l [] [] rfl List.Pairwise.nil (by simp) (by simp)
theorem leastS_spec (l : List Int) : (leastS l).Pairwise ltS ∧ ∀ x, x ∈ leastS l ↔ Mini l x := by
  have hm : ∀ x, x ∈ sortS (l.filter vld) ↔ x ∈ l ∧ vld x = true := fun x => by rw [(sortS_perm _).mem_iff, List.mem_filter]
  have := leastFold_spec (sortS (l.filter vld)) (fun x hx => ((hm x).1 hx).2) (sortS_sorted _)
  refine ⟨this.1, fun x => (this.2 x).trans ?_⟩
  unfold Mini
  rw [hm]
  constructor
  · rintro ⟨⟨h1, h2⟩, h3, h4⟩
    exact ⟨h1, h2, fun y hy hv => h4 y ((hm y).2 ⟨hy, hv⟩) hv⟩
  · rintro ⟨h1, h2, h3⟩
    exact ⟨⟨h1, h2⟩, h2, fun y hy hv => h3 y ((hm y).1 hy).1 hv⟩
end Go.Proofs.Ytkjlcbfjllpcnaa.X
namespace Go.Proofs.Ytkjlcbfjllpcnaa.X
open Go.RowKit Go.Proofs.YtkjlcbfjllpcnaaW.PrintWords Go.Proofs.YtkjlcbfjllpcnaaW.PrintLast Go.Proofs.YtkjlcbfjllpcnaaW.PrintMore
set_option linter.unusedVariables false
def unh (c : List S34) (x : Nat) : Option Int := (nodesL x).find? fun j => !(sat x (c.getD j.toNat z34).f1)
theorem bit10 {x i : Nat} (hx : x < 1024) (hi : x.testBit i = true) : i < 10 := by
  rcases Nat.lt_or_ge i 10 with h | h
  · exact h
  · rw [bit_lt (n := 10) hx h] at hi; cases hi
theorem unh_none {c : List S34} {x : Nat} (hx : x < 1024) : unh c x = none ↔ ∀ i, x.testBit i = true → sat x (c.getD i z34).f1 = true := by
  unfold unh
  rw [List.find?_eq_none]
  constructor
  · intro h i hi
    have := h (i : Int) (nodesL_mem.2 (inS_iff.2 ⟨i, rfl, bit10 hx hi, hi⟩))
    rw [Int.toNat_natCast] at this
    simpa using this
  · intro h j hj
    obtain ⟨i, rfl, h10, hi⟩ := inS_iff.1 (nodesL_mem.1 hj)
    rw [Int.toNat_natCast, h i hi]
    simp
theorem unh_some {c : List S34} {x : Nat} {j : Int} (h : unh c x = some j) : ∃ i : Nat, j = (i : Int) ∧ i < 10 ∧ x.testBit i = true ∧ sat x (c.getD i z34).f1 = false := by
  have h1 := List.find?_some h
  have h2 := List.mem_of_find?_eq_some h
  obtain ⟨i, rfl, h10, hi⟩ := inS_iff.1 (nodesL_mem.1 h2)
  rw [Int.toNat_natCast] at h1
  exact ⟨i, rfl, h10, hi, by simpa using h1⟩
theorem dif_sub' (a b : Nat) : Sub (dif a b) a := fun i hi => by rw [dif_bit, Bool.and_eq_true] at hi; exact hi.1
theorem Sub.lt {a b : Nat} (h : Sub a b) (hb : b < 1024) : a < 1024 := lt_of_bits (n := 10) fun i hi => by
  cases ha : a.testBit i
  · rfl
  · rw [← h i ha]; exact bit_lt hb hi
theorem Sub.le {a b : Nat} (h : Sub a b) : a ≤ b := by
  rw [← sub_and.2 h]; exact Nat.and_le_right
theorem quo_sat {c : List S34} {q i : Nat} (hq : q < 1024) (h : quo c q = true) (hi : q.testBit i = true) : sat q (c.getD i z34).f1 = true := ((quo_iff hq).1 h).2.2 i hi
theorem and_lt10 {a b : Nat} (hb : b < 1024) : a &&& b < 1024 := Nat.lt_of_le_of_lt Nat.and_le_right hb
theorem Sub.zero {a : Nat} (h : Sub a 0) : a = 0 := h.eq fun i hi => by rw [Nat.zero_testBit] at hi; cases hi
def allQ (c : List S34) : List Int := ((List.range (2 ^ c.length)).filter fun x => quo c x).map Int.ofNat
theorem quo_range {c : List S34} (hn : c.length ≤ 10) {q : Nat} (hq : q < 1024) (h : quo c q = true) : q < 2 ^ c.length := lt_of_bits fun i hi => by
  cases hb : q.testBit i
  · rfl
  · have := decl_len (((quo_iff hq).1 h).2.1 i hb); omega
theorem pow10 {n : Nat} (hn : n ≤ 10) : 2 ^ n ≤ 1024 := Nat.pow_le_pow_right (n := 2) (by decide) hn
theorem allQ_mem {c : List S34} (hn : c.length ≤ 10) {x : Int} : x ∈ allQ c ↔ ∃ q : Nat, x = (q : Int) ∧ q < 1024 ∧ quo c q = true := by
  have hp := pow10 hn
  unfold allQ
  rw [List.mem_map]
  constructor
  · rintro ⟨q, hq, rfl⟩
    rw [List.mem_filter, List.mem_range] at hq
    exact ⟨q, rfl, by omega, hq.2⟩
  · rintro ⟨q, rfl, h1, h2⟩
    exact ⟨q, by rw [List.mem_filter, List.mem_range]; exact ⟨quo_range hn h1 h2, h2⟩, rfl⟩
theorem allQ_len (c : List S34) (hn : c.length ≤ 10) : (allQ c).length ≤ 1024 := by
  have hp := pow10 hn
  unfold allQ
  rw [List.length_map]
  exact Nat.le_trans (List.length_filter_le _ _) (by simpa using hp)
def minQ (c : List S34) : List Int := leastS (allQ c)
def MinQ (c : List S34) (q : Nat) : Prop := q < 1024 ∧ quo c q = true ∧ ∀ p, p < 1024 → quo c p = true → Sub p q → p = q
theorem minQ_mem {c : List S34} (hn : c.length ≤ 10) {x : Int} : x ∈ minQ c ↔ ∃ q : Nat, x = (q : Int) ∧ MinQ c q := by
  unfold minQ MinQ
  rw [(leastS_spec _).2]
  unfold Mini
  rw [allQ_mem hn]
  constructor
  · rintro ⟨⟨q, rfl, h1, h2⟩, h3, h4⟩
    refine ⟨q, rfl, h1, h2, fun p hp hq hs => ?_⟩
    have := h4 (p : Int) ((allQ_mem hn).2 ⟨p, rfl, hp, hq⟩) (vld_nat hp) (by rw [Int.toNat_natCast, Int.toNat_natCast]; exact hs)
    omega
  · rintro ⟨q, rfl, h1, h2, h3⟩
    refine ⟨⟨q, rfl, h1, h2⟩, vld_nat h1, fun y hy hv hs => ?_⟩
    obtain ⟨p, rfl, hp, hq⟩ := (allQ_mem hn).1 hy
    rw [Int.toNat_natCast, Int.toNat_natCast] at hs
    rw [h3 p hp hq hs]
theorem minQ_len (c : List S34) (hn : c.length ≤ 10) : (minQ c).length ≤ 1024 := by
  have hne : ∀ {a b : Int}, ltS a b → a ≠ b := fun {a b} h e => ltS_irrefl a (by rw [← e] at h; exact h)
  have hnd : (minQ c).Nodup := List.Pairwise.imp hne (leastS_spec _).1
  exact Nat.le_trans (hnd.length_le_of_subset fun x hx => (((leastS_spec _).2 x).1 hx).1) (allQ_len c hn)
theorem content_ev {c : List S34} (hc : Light c) {x j : Nat} (hx : x < 1024) (hj : j < c.length) : Ev (fun k => closure_content.f k c (j : Int) (x : Int)) (sat x (c.getD j z34).f1) := by
  have hj0 : (0 : Int) ≤ j := by omega
  have hj1 : (j : Int) < (c.length : Int) := by omega
  have hsat := Sat_ev hx 1000000 _ (hc.at j) (by decide)
  simp only [closure_content.f, hj0, hj1, Int.toNat_natCast, Option.bind_some, ↓reduceIte, Bool.false_eq_true, reduceCtorEq, decide_eq_true_eq, Go.Proofs.YtkjlcbfjllpcnaaW.PrintWords.rd, rd_T32, rd_T34]
  refine Ev.bind1 hsat ?_
  exact Ev.now _
def optN : Option Int → Int × Bool
  | some j => (j, true)
  | none => (0, false)
theorem unhappy_ev {c : List S34} (hc : Light c) {x : Nat} (hx : x < 1024) (hd : Sub x (decl c)) : Ev (fun k => closure_unhappy.f k c (x : Int)) (optN (unh c x)) := by
  simp only [closure_unhappy.f]
  refine Ev.bind1 (Nodes_ev hx) ?_
  have hl := nodesL_len x
  refine Ev.fold (xs := nodesL x) (L := fun (a : Unit) i k => closure_unhappy.l0 k (x : Int) (nodesL x) ((nodesL x).length : Int) i c) (by omega) (fun pre ys a => (ys.find? fun j => !(sat x (c.getD j.toNat z34).f1)) = unh c x) ?_ ?_ () rfl
  · intro a i hI hi
    rw [List.find?_nil] at hI
    (refine Ev.shift ?_; simp only [closure_unhappy.l0, hi, Option.bind_some, ↓reduceIte, Bool.false_eq_true, reduceCtorEq, decide_eq_true_eq, Go.Proofs.YtkjlcbfjllpcnaaW.PrintWords.rd, rd_T32, rd_T34])
    rw [← hI]
    exact Ev.now _
  · intro pre y ys a i e hI hi h0 hlt hw hrd
    obtain ⟨j, rfl, h10, hj⟩ := inS_iff.1 (nodesL_mem.1 (show y ∈ nodesL x by rw [e]; simp))
    have hcon := content_ev hc hx (decl_len (hd j hj))
    rw [List.find?_cons, Int.toNat_natCast] at hI
    cases hs : sat x (c.getD j z34).f1
    · refine Or.inr ?_
      rw [hs] at hI
      simp only [Bool.not_false] at hI
      rw [← hI]
      (refine Ev.shift ?_; simp only [closure_unhappy.l0, h0, hlt, hw, hrd, Option.bind_some, ↓reduceIte, Bool.false_eq_true, reduceCtorEq, decide_eq_true_eq, Go.Proofs.YtkjlcbfjllpcnaaW.PrintWords.rd, rd_T32, rd_T34])
      refine Ev.bind1 hcon ?_
      rw [hs]
      exact Ev.now _
    · rw [hs] at hI
      simp only [Bool.not_true] at hI
      refine Or.inl ⟨(), hI, fun k => ?_⟩
      (refine Ev.shift ?_; simp only [closure_unhappy.l0, h0, hlt, hw, hrd, Option.bind_some, ↓reduceIte, Bool.false_eq_true, reduceCtorEq, decide_eq_true_eq, Go.Proofs.YtkjlcbfjllpcnaaW.PrintWords.rd, rd_T32, rd_T34])
      refine Ev.bind1 hcon ?_
      rw [hs]
      exact k
theorem quo_unh {c : List S34} {x : Nat} (hx : x < 1024) (h0 : x ≠ 0) (hd : Sub x (decl c)) : quo c x = !(optN (unh c x)).2 := by
  cases hu : unh c x with
  | none => exact (quo_iff hx).2 ⟨h0, hd, (unh_none hx).1 hu⟩
  | some j =>
    obtain ⟨i, rfl, h10, hi, hs⟩ := unh_some hu
    cases hq : quo c x
    · rfl
    · rw [quo_sat hx hq hi] at hs; cases hs
theorem Quorum_ev {c : List S34} (hc : Light c) {x : Nat} (hx : x < 1024) : Ev (fun k => closure_Quorum.f k c (x : Int)) (quo c x) := by
  simp only [closure_Quorum.f, Valid_eq, vld_nat hx, Option.bind_some, ↓reduceIte, Bool.false_eq_true, reduceCtorEq, decide_eq_true_eq, Go.Proofs.YtkjlcbfjllpcnaaW.PrintWords.rd, rd_T32, rd_T34]
  by_cases h0 : x = 0
  · have h1 : (x : Int) = 0 := by omega
    simp only [h1, Option.bind_some, ↓reduceIte, Bool.false_eq_true, reduceCtorEq, decide_eq_true_eq, Go.Proofs.YtkjlcbfjllpcnaaW.PrintWords.rd, rd_T32, rd_T34]
    have : quo c x = false := by unfold quo; simp [h0]
    rw [this]
    exact Ev.now _
  have h1 : ¬ (x : Int) = 0 := by omega
  simp only [h1, closure_inside.f, Option.bind_some, ↓reduceIte, Bool.false_eq_true, reduceCtorEq, decide_eq_true_eq, Go.Proofs.YtkjlcbfjllpcnaaW.PrintWords.rd, rd_T32, rd_T34]
  have hD := Declared_ev hc.1
  have hin : Ev (fun k => (configuration_Declared.f k c).bind fun t => some (Go.bits .andNot .i64 (x : Int) t == 0)) (dif x (decl c) == 0) := by
    refine Ev.bind1 hD ?_
    have hdl := decl_lt c
    rw [andNot_nat (by omega) (by omega)]
    have : (((dif x (decl c) : Nat) : Int) == 0) = (dif x (decl c) == 0) := by
      by_cases h : dif x (decl c) = 0
      · rw [h]; rfl
      · have h2 : ¬ ((dif x (decl c) : Nat) : Int) = 0 := by omega
        rw [beq_eq_false_iff_ne.2 h, beq_eq_false_iff_ne.2 h2]
    rw [this]
    exact Ev.now _
  refine Ev.bind1 hin ?_
  by_cases h : Sub x (decl c)
  · rw [sub_dif.2 h]
    simp only [beq_self_eq_true, if_true]
    refine Ev.bind1 (unhappy_ev hc hx h) ?_
    rw [quo_unh hx h0 h]
    exact Ev.now _
  · have h2 : (dif x (decl c) == 0) = false := beq_eq_false_iff_ne.2 fun e => h (sub_dif.1 e)
    rw [h2]
    simp only [Bool.false_eq_true, if_false]
    have : quo c x = false := by
      cases hq : quo c x
      · rfl
      · exact absurd ((quo_iff hx).1 hq).2.1 h
    rw [this]
    exact Ev.now _
theorem all_ev {c : List S34} (hc : Light c) (hn : c.length ≤ 10) : Ev (fun k => quorums_all.f k c) (allQ c) := by
  have hp := pow10 hn
  simp only [quorums_all.f, shl_nat (show c.length ≤ 61 by omega)]
  unfold allQ
  generalize 2 ^ c.length = m at hp
  refine Ev.count (L := fun (x3 : List Int) i k => quorums_all.l0 k x3 (m : Int) i c) m (by omega) (fun i x3 => x3 = ((List.range i).filter fun x => quo c x).map Int.ofNat) ?_ ?_ [] rfl
  · intro x3 h
    have hlt : ¬ (m : Int) < (m : Int) := by omega
    (refine Ev.shift ?_; simp only [quorums_all.l0, hlt, Option.bind_some, ↓reduceIte, Bool.false_eq_true, reduceCtorEq, decide_eq_true_eq, Go.Proofs.YtkjlcbfjllpcnaaW.PrintWords.rd, rd_T32, rd_T34])
    rw [h]
    exact Ev.now _
  · intro i x3 hi h hw
    have hlt : (i : Int) < (m : Int) := by omega
    have hx : i < 1024 := by omega
    have hlen : x3.length < 17592186044416 := by
      rw [h, List.length_map]
      have := List.length_filter_le (fun x => quo c x) (List.range i)
      rw [List.length_range] at this
      omega
    refine Or.inl ⟨x3 ++ if quo c i = true then [(i : Int)] else [], ?_, fun k => ?_⟩
    · rw [h, List.range_succ, List.filter_append, List.map_append]
      cases hq : quo c i <;> simp [hq]
    · (refine Ev.shift ?_; simp only [quorums_all.l0, hlt, hw, Option.bind_some, ↓reduceIte, Bool.false_eq_true, reduceCtorEq, decide_eq_true_eq, Go.Proofs.YtkjlcbfjllpcnaaW.PrintWords.rd, rd_T32, rd_T34])
      refine Ev.bind1 (Quorum_ev hc hx) ?_
      cases hq : quo c i
      · simp only [hq, Bool.false_eq_true, if_false, List.append_nil] at k ⊢
        exact k
      · simp only [hq, if_true, hlen] at k ⊢
        exact k
theorem Minimal_ev {c : List S34} (hc : Light c) (hn : c.length ≤ 10) (hv : valC c = 0) : Ev (fun k => quorums_Minimal.f k c) (minQ c, 0) := by
  simp only [quorums_Minimal.f]
  refine Ev.bind1 (CValid_ev hc) ?_
  rw [hv]
  simp only [if_true]
  refine Ev.bind1 (all_ev hc hn) ?_
  have hl := allQ_len c hn
  have h1 : (allQ c).length ≤ 1048576 := by omega
  simp only [nodeset_Least.f, if_pos h1, Option.bind_some]
  exact Ev.now _
theorem Count_ev {c : List S34} (hc : Light c) (hn : c.length ≤ 10) (hv : valC c = 0) : Ev (fun k => quorums_Count.f k c) (((allQ c).length : Int), 0) := by
  simp only [quorums_Count.f]
  refine Ev.bind1 (CValid_ev hc) ?_
  rw [hv]
  simp only [if_true]
  refine Ev.bind1 (all_ev hc hn) ?_
  exact Ev.now _
def fwd (c : List S34) (j : Int) : Nat := uses (c.getD j.toNat z34).f1 &&& decl c
def stp (c : List S34) (s : Nat) : Nat := (nodesL s).foldl (fun a j => a ||| fwd c j) s
def Clo (c : List S34) (s : Nat) : Prop := ∀ i : Nat, s.testBit i = true → Sub (fwd c (i : Int)) s
theorem fwd_lt (c : List S34) (j : Int) : fwd c j < 1024 := and_lt10 (decl_lt c)
theorem fold_or_bit {f : Int → Nat} (i : Nat) : ∀ (l : List Int) (a : Nat), (l.foldl (fun a j => a ||| f j) a).testBit i = true ↔ a.testBit i = true ∨ ∃ j ∈ l, (f j).testBit i = true
  | [], a => by simp
  | x :: xs, a => by
    rw [List.foldl_cons, fold_or_bit i xs, or_bit, Bool.or_eq_true]
    constructor
    · rintro ((h | h) | ⟨j, h, k⟩)
      · exact Or.inl h
      · exact Or.inr ⟨x, by simp, h⟩
      · exact Or.inr ⟨j, by simp [h], k⟩
    · rintro (h | ⟨j, h, k⟩)
      · exact Or.inl (Or.inl h)
      · rcases List.mem_cons.1 h with rfl | h
        · exact Or.inl (Or.inr k)
        · exact Or.inr ⟨j, h, k⟩
theorem stp_bit {c : List S34} {s i : Nat} : (stp c s).testBit i = true ↔ s.testBit i = true ∨ ∃ j ∈ nodesL s, (fwd c j).testBit i = true := fold_or_bit i _ _
theorem stp_sub (c : List S34) (s : Nat) : Sub s (stp c s) := fun i hi => stp_bit.2 (Or.inl hi)
theorem stp_lt {c : List S34} {s : Nat} (h : s < 1024) : stp c s < 1024 := lt_of_bits (n := 10) fun i hi => by
  cases hb : (stp c s).testBit i
  · rfl
  · rcases stp_bit.1 hb with h1 | ⟨j, _, h1⟩
    · rw [← h1]; exact bit_lt h hi
    · rw [← h1]; exact bit_lt (fwd_lt c j) hi
theorem stp_in {c : List S34} {s T : Nat} (hT : Clo c T) (h : Sub s T) : Sub (stp c s) T := fun i hi => by
  rcases stp_bit.1 hi with h1 | ⟨j, hj, h1⟩
  · exact h i h1
  · obtain ⟨k, rfl, h10, hk⟩ := inS_iff.1 (nodesL_mem.1 hj)
    exact hT k (h k hk) i h1
theorem stp_fix {c : List S34} {s : Nat} (hs : s < 1024) (h : stp c s = s) : Clo c s := fun i hi k hk => by
  rw [← h]
  exact stp_bit.2 (Or.inr ⟨(i : Int), nodesL_mem.2 (inS_iff.2 ⟨i, rfl, bit10 hs hi, hi⟩), hk⟩)
def rchF (c : List S34) : Nat → Nat → Nat
  | 0, s => s
  | n + 1, s => if stp c s = s then s else rchF c n (stp c s)
def rch (c : List S34) (k : Nat) : Nat := rchF c 11 (2 ^ k)
theorem rchF_spec {c : List S34} : ∀ n s, s < 1024 → 10 < n + pcn s → Clo c (rchF c n s) ∧ Sub s (rchF c n s) ∧ rchF c n s < 1024 ∧ ∀ T, Clo c T → Sub s T → Sub (rchF c n s) T
  | 0, s, _, h => absurd (pcn_le s) (by omega)
  | n + 1, s, hs, h => by
    rw [rchF]
    by_cases e : stp c s = s
    · rw [if_pos e]
      exact ⟨stp_fix hs e, Sub.refl _, hs, fun T _ h => h⟩
    · rw [if_neg e]
      have h1 := pcn_sub (stp_lt (c := c) hs) (stp_sub c s) (fun h => e h.symm)
      obtain ⟨h2, h3, h4, h5⟩ := rchF_spec (c := c) n (stp c s) (stp_lt hs) (by omega)
      exact ⟨h2, (stp_sub c s).trans h3, h4, fun T hT hsT => h5 T hT (stp_in hT hsT)⟩
theorem pcn_two {k : Nat} (hk : k < 10) : 1 ≤ pcn (2 ^ k) := by
  have := pcn_lt (s := 0) hk (Nat.zero_testBit k)
  rw [Nat.zero_or] at this
  omega
theorem rch_spec {c : List S34} {k : Nat} (hk : k < 10) : Clo c (rch c k) ∧ Sub (2 ^ k) (rch c k) ∧ rch c k < 1024 ∧ ∀ T, Clo c T → Sub (2 ^ k) T → Sub (rch c k) T :=
  rchF_spec 11 _ (two_lt10 hk) (by have := pcn_two hk; omega)
theorem rch_self {c : List S34} {k : Nat} (hk : k < 10) : (rch c k).testBit k = true := (rch_spec hk).2.1 k (by rw [two_bit]; simp)
theorem rch_trans {c : List S34} {k j : Nat} (hk : k < 10) (hj : (rch c k).testBit j = true) : Sub (rch c j) (rch c k) :=
  (rch_spec (bit10 (rch_spec hk).2.2.1 hj)).2.2.2 _ (rch_spec hk).1 (Sub.two hj)
theorem rch_decl {c : List S34} {k : Nat} (hk : (decl c).testBit k = true) : Sub (rch c k) (decl c) :=
  (rch_spec (bit10 (decl_lt c) hk)).2.2.2 _ (fun i _ j hj => by unfold fwd at hj; rw [and_bit, Bool.and_eq_true] at hj; exact hj.2) (Sub.two hk)
def prt (c : List S34) (k : Nat) : Nat := (nodesL (rch c k)).foldl (fun a n => a ||| if (rch c n.toNat).testBit k = true then 2 ^ n.toNat else 0) 0
theorem prt_bit {c : List S34} {k n : Nat} (hk : k < 10) : (prt c k).testBit n = true ↔ (rch c k).testBit n = true ∧ (rch c n).testBit k = true := by
  unfold prt
  rw [fold_or_bit n]
  constructor
  · rintro (h | ⟨j, hj, h⟩)
    · rw [Nat.zero_testBit] at h; cases h
    · obtain ⟨i, rfl, h10, hi⟩ := inS_iff.1 (nodesL_mem.1 hj)
      rw [Int.toNat_natCast] at h
      split at h
      · rename_i h1
        rw [two_bit, decide_eq_true_eq] at h
        subst h
        exact ⟨hi, h1⟩
      · rw [Nat.zero_testBit] at h; cases h
  · rintro ⟨h1, h2⟩
    refine Or.inr ⟨(n : Int), nodesL_mem.2 (inS_iff.2 ⟨n, rfl, bit10 (rch_spec hk).2.2.1 h1, h1⟩), ?_⟩
    rw [Int.toNat_natCast, if_pos h2, two_bit]
    simp
theorem prt_self {c : List S34} {k : Nat} (hk : k < 10) : (prt c k).testBit k = true := (prt_bit hk).2 ⟨rch_self hk, rch_self hk⟩
theorem prt_lt {c : List S34} {k : Nat} (hk : k < 10) : prt c k < 1024 := Sub.lt (b := rch c k) (fun i hi => ((prt_bit hk).1 hi).1) (rch_spec hk).2.2.1
theorem prt_eq {c : List S34} {k n : Nat} (hk : k < 10) (h : (prt c k).testBit n = true) : prt c n = prt c k := by
  obtain ⟨h1, h2⟩ := (prt_bit hk).1 h
  have hn := bit10 (rch_spec hk).2.2.1 h1
  refine Sub.eq (fun i hi => ?_) fun i hi => ?_
  · obtain ⟨h3, h4⟩ := (prt_bit hn).1 hi
    exact (prt_bit hk).2 ⟨rch_trans hk h1 i h3, rch_trans (bit10 (rch_spec hn).2.2.1 h3) h4 k h2⟩
  · obtain ⟨h3, h4⟩ := (prt_bit hk).1 hi
    exact (prt_bit hn).2 ⟨rch_trans hn h2 i h3, rch_trans (bit10 (rch_spec hk).2.2.1 h3) h4 n h1⟩
def partsStep (c : List S34) (o : List Int × Nat) (k : Nat) : List Int × Nat := if o.2.testBit k = true ∨ (decl c).testBit k = false then o else (o.1 ++ [(prt c k : Int)], o.2 ||| prt c k)
def partsF (c : List S34) (n : Nat) : List Int × Nat := (List.range n).foldl (partsStep c) ([], 0)
def partsS (c : List S34) : List Int := (partsF c c.length).1
theorem partsF_succ (c : List S34) (n : Nat) : partsF c (n + 1) = partsStep c (partsF c n) n := by unfold partsF; rw [List.range_succ, List.foldl_append]; rfl
structure PInv (c : List S34) (n : Nat) (o : List Int × Nat) : Prop where
  form : ∀ x ∈ o.1, ∃ k, (decl c).testBit k = true ∧ x = (prt c k : Int)
  done : ∀ i, o.2.testBit i = true ↔ ∃ x ∈ o.1, x.toNat.testBit i = true
  apart : o.1.Pairwise fun x y => x.toNat &&& y.toNat = 0
  all : ∀ j, j < n → (decl c).testBit j = true → o.2.testBit j = true
  lt : o.2 < 1024
  len : o.1.length ≤ n
theorem partsF_inv (c : List S34) : ∀ n, PInv c n (partsF c n)
  | 0 => ⟨by simp [partsF], by simp [partsF], by simp [partsF], fun j h => absurd h (by omega), by simp [partsF], by simp [partsF]⟩
  | n + 1 => by
    have ih := partsF_inv c n
    rw [partsF_succ]
    unfold partsStep
    split
    · rename_i h
      refine ⟨ih.form, ih.done, ih.apart, fun j hj hd => ?_, ih.lt, Nat.le_succ_of_le ih.len⟩
      rcases Nat.lt_or_ge j n with h1 | h1
      · exact ih.all j h1 hd
      · have : j = n := by omega
        subst this
        rcases h with h | h
        · exact h
        · rw [h] at hd; cases hd
    · rename_i h
      have hd : (decl c).testBit n = true := by
        cases hb : (decl c).testBit n
        · exact absurd (Or.inr hb) h
        · rfl
      have hn := bit10 (decl_lt c) hd
      have hno : ∀ i, (prt c n).testBit i = true → (partsF c n).2.testBit i = false := by
        intro i hi
        cases hb : (partsF c n).2.testBit i
        · rfl
        · obtain ⟨x, hx, hxi⟩ := (ih.done i).1 hb
          obtain ⟨k, hk, rfl⟩ := ih.form x hx
          have hk10 := bit10 (decl_lt c) hk
          rw [Int.toNat_natCast] at hxi
          have e1 := prt_eq hk10 hxi
          rw [prt_eq hn hi] at e1
          refine absurd (Or.inl ((ih.done n).2 ⟨_, hx, ?_⟩)) h
          rw [Int.toNat_natCast, ← e1]
          exact prt_self hn
      refine ⟨fun x hx => ?_, fun i => ?_, ?_, fun j hj hdj => ?_, or_lt10 ih.lt (prt_lt hn), by simp; exact ih.len⟩
      · rcases List.mem_append.1 hx with hx | hx
        · exact ih.form x hx
        · rw [List.mem_singleton] at hx; exact ⟨n, hd, hx⟩
      · simp only [or_bit, Bool.or_eq_true, List.mem_append, List.mem_singleton]
        rw [ih.done]
        constructor
        · rintro (⟨x, h1, h2⟩ | h1)
          · exact ⟨x, Or.inl h1, h2⟩
          · exact ⟨_, Or.inr rfl, by rw [Int.toNat_natCast]; exact h1⟩
        · rintro ⟨x, h1 | h1, h2⟩
          · exact Or.inl ⟨x, h1, h2⟩
          · subst h1; rw [Int.toNat_natCast] at h2; exact Or.inr h2
      · simp only [List.pairwise_append, List.mem_singleton]
        refine ⟨ih.apart, by simp, fun x hx y hy => ?_⟩
        subst hy
        rw [Int.toNat_natCast]
        refine eq_bits fun i => ?_
        rw [and_bit, Nat.zero_testBit]
        cases h1 : (prt c n).testBit i
        · simp
        · have h2 := hno i h1
          cases h3 : x.toNat.testBit i
          · rfl
          · rw [(ih.done i).2 ⟨x, hx, h3⟩] at h2; cases h2
      · rw [or_bit, Bool.or_eq_true]
        rcases Nat.lt_or_ge j n with h1 | h1
        · exact Or.inl (ih.all j h1 hdj)
        · have : j = n := by omega
          subst this
          exact Or.inr (prt_self hn)
theorem reached_ev {c : List S34} (hc : Light c) {j : Nat} (hj : (decl c).testBit j = true) : Ev (fun k => quorums_reached.f k c (j : Int)) (rch c j : Int) := by
  have hdl := decl_lt c
  have h10 := bit10 hdl hj
  have hj0 : (0 : Int) ≤ j := by omega
  simp only [quorums_reached.f]
  refine Ev.bind1 (Declared_ev hc.1) ?_
  simp only [hj0, if_true, shl_nat' h10]
  have hstep : ∀ (r : Int) (s : Nat), s < 1024 → Sub s (decl c) →
      Ev (fun k => if ((stp c s : Nat) : Int) = (s : Int) then some (s : Int) else quorums_reached.l0 k (decl c : Int) (stp c s : Int) c) r →
      Ev (fun k => quorums_reached.l0 k (decl c : Int) (s : Int) c) r := by
    intro r s hs hd hk
    (refine Ev.shift ?_; simp only [quorums_reached.l0, Option.bind_some, ↓reduceIte, Bool.false_eq_true, reduceCtorEq, decide_eq_true_eq, Go.Proofs.YtkjlcbfjllpcnaaW.PrintWords.rd, rd_T32, rd_T34])
    refine Ev.bind1 (Nodes_ev hs) ?_
    have hl := nodesL_len s
    refine Ev.fold (xs := nodesL s) (L := fun (a : Nat) i k => quorums_reached.l1 k (decl c : Int) (s : Int) (a : Int) (nodesL s) ((nodesL s).length : Int) i c) (by omega) (fun pre ys a => a < 1024 ∧ ys.foldl (fun a j => a ||| fwd c j) a = stp c s) ?_ ?_ s ⟨hs, rfl⟩
    · rintro a i ⟨ha, hI⟩ hi
      rw [List.foldl_nil] at hI
      subst hI
      (refine Ev.shift ?_; simp only [quorums_reached.l1, hi, Option.bind_some, ↓reduceIte, Bool.false_eq_true, reduceCtorEq, decide_eq_true_eq, Go.Proofs.YtkjlcbfjllpcnaaW.PrintWords.rd, rd_T32, rd_T34])
      exact hk
    · rintro pre y ys a i e ⟨ha, hI⟩ hi h0 hlt hw hrd
      obtain ⟨m, rfl, hm10, hm⟩ := inS_iff.1 (nodesL_mem.1 (show y ∈ nodesL s by rw [e]; simp))
      have hml := decl_len (hd m hm)
      have hm0 : (0 : Int) ≤ m := by omega
      have hm1 : (m : Int) < (c.length : Int) := by omega
      have hu := Uses_ev 1000000 _ (hc.at m) (by decide)
      have hul := uses_lt (c.getD m z34).f1
      have hf := fwd_lt c (m : Int)
      rw [List.foldl_cons] at hI
      refine Or.inl ⟨a ||| fwd c (m : Int), ⟨or_lt10 ha hf, hI⟩, fun k => ?_⟩
      (refine Ev.shift ?_; simp only [quorums_reached.l1, h0, hlt, hw, hrd, hm0, hm1, Int.toNat_natCast, Option.bind_some, ↓reduceIte, Bool.false_eq_true, reduceCtorEq, decide_eq_true_eq, Go.Proofs.YtkjlcbfjllpcnaaW.PrintWords.rd, rd_T32, rd_T34])
      refine Ev.bind1 hu ?_
      have e1 : Go.bits .or .i64 (a : Int) (Go.bits .and .i64 (uses (c.getD m z34).f1 : Int) (decl c : Int)) = ((a ||| fwd c (m : Int) : Nat) : Int) := by
        rw [and_nat' hul hdl, or_nat' ha (and_lt10 hdl)]
        rfl
      rw [e1]
      exact k
  have key : ∀ (n s : Nat), s < 1024 → Sub s (decl c) → 10 < n + pcn s → Ev (fun k => quorums_reached.l0 k (decl c : Int) (s : Int) c) (rchF c n s : Int) := by
    intro n
    induction n with
    | zero => intro s _ _ h; exact absurd (pcn_le s) (by omega)
    | succ n ih =>
      intro s hs hd hp
      have hst := stp_lt (c := c) hs
      refine hstep _ s hs hd ?_
      rw [rchF]
      by_cases he : stp c s = s
      · have he' : ((stp c s : Nat) : Int) = (s : Int) := by omega
        simp only [he', he, if_true]
        exact Ev.now _
      · have he' : ¬ ((stp c s : Nat) : Int) = (s : Int) := by omega
        simp only [he', he, if_false]
        refine ih _ hst (stp_in (fun i _ k hk => by unfold fwd at hk; rw [and_bit, Bool.and_eq_true] at hk; exact hk.2) hd) ?_
        have := pcn_sub hst (stp_sub c s) (fun h => he h.symm)
        omega
  exact key 11 _ (two_lt10 h10) (Sub.two hj) (by have := pcn_two h10; omega)
def rchL (c : List S34) : List Int := (List.range c.length).map fun k => if (decl c).testBit k = true then (rch c k : Int) else 0
theorem rchL_len (c : List S34) : (rchL c).length = c.length := by unfold rchL; simp
theorem rchL_get {c : List S34} {k : Nat} (hk : k < c.length) : (rchL c).getD k 0 = if (decl c).testBit k = true then (rch c k : Int) else 0 := by
  unfold rchL
  rw [List.getD_eq_getElem?_getD, List.getElem?_map, List.getElem?_range hk]
  rfl
def setR (c : List S34) (l : List Int) (y : Int) : List Int := l.set y.toNat (rch c y.toNat : Int)
theorem setR_fold (c : List S34) : ∀ (ys l : List Int), (ys.foldl (setR c) l).length = l.length
  | [], l => rfl
  | y :: ys, l => by rw [List.foldl_cons, setR_fold c ys, setR, List.length_set]
theorem setR_get (c : List S34) (k : Nat) : ∀ (ys l : List Int), k < l.length → (∀ y ∈ ys, 0 ≤ y) → (ys.foldl (setR c) l).getD k 0 = if (k : Int) ∈ ys then (rch c k : Int) else l.getD k 0
  | [], l, h, _ => by simp
  | y :: ys, l, h, hy => by
    rw [List.foldl_cons, setR_get c k ys _ (by rw [setR, List.length_set]; exact h) (fun z hz => hy z (by simp [hz]))]
    have h0 := hy y (by simp)
    by_cases hm : (k : Int) ∈ ys
    · rw [if_pos hm, if_pos (by simp [hm])]
    · rw [if_neg hm]
      unfold setR
      by_cases e : (k : Int) = y
      · subst e
        rw [if_pos (by simp), Int.toNat_natCast, List.getD_eq_getElem?_getD, List.getElem?_set_self h]
        rfl
      · have hne : y.toNat ≠ k := by omega
        rw [if_neg (by simp [e, hm]), List.getD_eq_getElem?_getD, List.getElem?_set_ne hne, List.getD_eq_getElem?_getD]
theorem setR_all (c : List S34) (hn : c.length ≤ 10) : (nodesL (decl c)).foldl (setR c) (List.replicate c.length 0) = rchL c := by
  refine List.ext_getElem (by rw [setR_fold, rchL_len, List.length_replicate]) fun k h1 h2 => ?_
  rw [setR_fold, List.length_replicate] at h1
  have hg := setR_get c k (nodesL (decl c)) (List.replicate c.length 0) (by simpa using h1) (fun y hy => by
    obtain ⟨i, rfl, _⟩ := inS_iff.1 (nodesL_mem.1 hy); omega)
  have hr := rchL_get (c := c) h1
  have hz : (List.replicate c.length (0 : Int)).getD k 0 = 0 := by simp [List.getD_eq_getElem?_getD, List.getElem?_replicate]; split <;> rfl
  have hmem : (k : Int) ∈ nodesL (decl c) ↔ (decl c).testBit k = true := by
    rw [nodesL_mem, inS_nat _ _ (by omega)]
  have e : ((nodesL (decl c)).foldl (setR c) (List.replicate c.length 0)).getD k 0 = (rchL c).getD k 0 := by
    rw [hg, hr, hz]
    by_cases hb : (decl c).testBit k = true
    · rw [if_pos hb, if_pos (hmem.2 hb)]
    · rw [if_neg hb, if_neg (fun h => hb (hmem.1 h))]
  rw [List.getD_eq_getElem?_getD, List.getD_eq_getElem?_getD, List.getElem?_eq_getElem (by rw [setR_fold, List.length_replicate]; exact h1), List.getElem?_eq_getElem h2] at e
  simpa using e
theorem Parts_ev {c : List S34} (hc : Light c) (hn : c.length ≤ 10) (hv : valC c = 0) : Ev (fun k => quorums_Parts.f k c) (partsS c, 0) := by
  have hdl := decl_lt c
  have hc0 : (0 : Int) ≤ (c.length : Int) := by omega
  have hcl : c.length ≤ 35184372088832 := by omega
  simp only [quorums_Parts.f]
  refine Ev.bind1 (CValid_ev hc) ?_
  rw [hv]
  simp only [if_true, hc0, Int.toNat_natCast, hcl]
  refine Ev.bind1 (Declared_ev hc.1) ?_
  refine Ev.bind1 (Nodes_ev hdl) ?_
  have hl := nodesL_len (decl c)
  refine Ev.fold (xs := nodesL (decl c)) (L := fun (l : List Int) i k => quorums_Parts.l0 k l (nodesL (decl c)) ((nodesL (decl c)).length : Int) i c) (by omega) (fun pre ys l => ys.foldl (setR c) l = rchL c ∧ l.length = c.length) ?_ ?_ _ ⟨setR_all c hn, by simp⟩
  · rintro l i ⟨hI, hll⟩ hi
    rw [List.foldl_nil] at hI
    subst hI
    (refine Ev.shift ?_; simp only [quorums_Parts.l0, hi, Option.bind_some, ↓reduceIte, Bool.false_eq_true, reduceCtorEq, decide_eq_true_eq, Go.Proofs.YtkjlcbfjllpcnaaW.PrintWords.rd, rd_T32, rd_T34])
    have hlen := rchL_len c
    rw [hlen]
    refine Ev.count (L := fun (o : List Int × Nat) i k => quorums_Parts.l1 k (rchL c) o.1 (o.2 : Int) (rchL c) (c.length : Int) i) c.length (by omega) (fun i o => o = partsF c i) ?_ ?_ ([], 0) rfl
    · intro o h
      have hlt : ¬ (c.length : Int) < (c.length : Int) := by omega
      (refine Ev.shift ?_; simp only [quorums_Parts.l1, hlt, Option.bind_some, ↓reduceIte, Bool.false_eq_true, reduceCtorEq, decide_eq_true_eq, Go.Proofs.YtkjlcbfjllpcnaaW.PrintWords.rd, rd_T32, rd_T34])
      rw [h]
      exact Ev.now _
    · intro i o hi h hw
      have ih := partsF_inv c i
      rw [← h] at ih
      have hi0 : (0 : Int) ≤ i := by omega
      have hi1 : (i : Int) < (c.length : Int) := by omega
      have hi2 : (i : Int) < ((rchL c).length : Int) := by omega
      have h10 : i < 10 := by omega
      have hget := rchL_get (c := c) hi
      have hand : (Go.bits .and .i64 (o.2 : Int) (shl .i64 1 (i : Int)) = 0) ↔ o.2.testBit i = false := by
        rw [shl_nat' h10, and_nat' ih.lt (two_lt10 h10), ← and_two]
        omega
      have skip : o.2.testBit i = true ∨ (decl c).testBit i = false → o = partsF c (i + 1) := by
        intro hh
        rw [partsF_succ, ← h, partsStep, if_pos hh]
      cases hdone : o.2.testBit i
      · cases hdec : (decl c).testBit i
        · refine Or.inl ⟨o, skip (Or.inr hdec), fun k => ?_⟩
          rw [hdec] at hget
          simp only [Bool.false_eq_true, if_false] at hget
          (refine Ev.shift ?_; simp only [quorums_Parts.l1, hi0, hi1, hi2, hand, hdone, Int.toNat_natCast, hget, Option.bind_some, ↓reduceIte, Bool.false_eq_true, reduceCtorEq, decide_eq_true_eq, Go.Proofs.YtkjlcbfjllpcnaaW.PrintWords.rd, rd_T32, rd_T34])
          simp only [beq_self_eq_true]
          (refine Ev.shift ?_; simp only [quorums_Parts.j2, hw, Option.bind_some, ↓reduceIte, Bool.false_eq_true, reduceCtorEq, decide_eq_true_eq, Go.Proofs.YtkjlcbfjllpcnaaW.PrintWords.rd, rd_T32, rd_T34])
          exact k
        · have hr := rch_spec (c := c) h10
          have hrd := rch_decl hdec
          rw [hdec] at hget
          simp only [if_true] at hget
          have hne : ((rch c i : Int) == 0) = false := by
            have : rch c i ≠ 0 := fun e => by have := rch_self (c := c) h10; rw [e, Nat.zero_testBit] at this; cases this
            simp; omega
          refine Or.inl ⟨(o.1 ++ [(prt c i : Int)], o.2 ||| prt c i), ?_, fun k => ?_⟩
          · rw [partsF_succ, ← h, partsStep, if_neg (by rw [hdone, hdec]; simp)]
          · (refine Ev.shift ?_; simp only [quorums_Parts.l1, hi0, hi1, hi2, hand, hdone, Int.toNat_natCast, hget, hne, Option.bind_some, ↓reduceIte, Bool.false_eq_true, reduceCtorEq, decide_eq_true_eq, Go.Proofs.YtkjlcbfjllpcnaaW.PrintWords.rd, rd_T32, rd_T34])
            (refine Ev.shift ?_; simp only [quorums_Parts.j2, Option.bind_some, ↓reduceIte, Bool.false_eq_true, reduceCtorEq, decide_eq_true_eq, Go.Proofs.YtkjlcbfjllpcnaaW.PrintWords.rd, rd_T32, rd_T34])
            refine Ev.bind1 (Nodes_ev hr.2.2.1) ?_
            have hl2 := nodesL_len (rch c i)
            have hpl := prt_lt (c := c) h10
            refine Ev.fold (xs := nodesL (rch c i)) (L := fun (a : Nat) q k => quorums_Parts.l2 k (rchL c) o.1 (o.2 : Int) (i : Int) (a : Int) (rchL c) (c.length : Int) (i : Int) (nodesL (rch c i)) ((nodesL (rch c i)).length : Int) q) (by omega) (fun pre ys a => a < 1024 ∧ ys.foldl (fun a n => a ||| if (rch c n.toNat).testBit i = true then 2 ^ n.toNat else 0) a = prt c i) ?_ ?_ 0 ⟨by decide, rfl⟩
            · rintro a q ⟨ha, hI⟩ hq
              rw [List.foldl_nil] at hI
              subst hI
              have holen : o.1.length < 17592186044416 := by have := ih.len; omega
              (refine Ev.shift ?_; simp only [quorums_Parts.l2, hq, holen, or_nat' ih.lt hpl, hw, Option.bind_some, ↓reduceIte, Bool.false_eq_true, reduceCtorEq, decide_eq_true_eq, Go.Proofs.YtkjlcbfjllpcnaaW.PrintWords.rd, rd_T32, rd_T34])
              exact k
            · rintro pre y ys a q e ⟨ha, hI⟩ hq h0 hlt hwq hrdq
              obtain ⟨m, rfl, hm10, hm⟩ := inS_iff.1 (nodesL_mem.1 (show y ∈ nodesL (rch c i) by rw [e]; simp))
              have hmd := hrd m hm
              have hml := decl_len hmd
              have hm0 : (0 : Int) ≤ m := by omega
              have hm1 : (m : Int) < (c.length : Int) := by omega
              have hm2 : (m : Int) < ((rchL c).length : Int) := by omega
              have hgm := rchL_get (c := c) hml
              rw [hmd] at hgm
              simp only [if_true] at hgm
              have hrm := (rch_spec (c := c) hm10).2.2.1
              have hhas := Has_eq hrm (i : Int)
              rw [inS_nat _ _ h10] at hhas
              rw [List.foldl_cons, Int.toNat_natCast] at hI
              refine Or.inl ⟨_, ⟨?_, hI⟩, fun k => ?_⟩
              · split
                · exact or_lt10 ha (two_lt10 hm10)
                · rw [Nat.or_zero]; exact ha
              · (refine Ev.shift ?_; simp only [quorums_Parts.l2, h0, hlt, hwq, hrdq, hm0, hm1, hm2, Int.toNat_natCast, hgm, hhas, Option.bind_some, ↓reduceIte, Bool.false_eq_true, reduceCtorEq, decide_eq_true_eq, Go.Proofs.YtkjlcbfjllpcnaaW.PrintWords.rd, rd_T32, rd_T34])
                cases hb : (rch c m).testBit i
                · simp only [hb, Bool.false_eq_true, if_false, Nat.or_zero] at k ⊢
                  exact k
                · simp only [hb, if_true] at k ⊢
                  rw [shl_nat' hm10, or_nat' ha (two_lt10 hm10)]
                  exact k
      · refine Or.inl ⟨o, skip (Or.inl hdone), fun k => ?_⟩
        (refine Ev.shift ?_; simp only [quorums_Parts.l1, hi0, hi1, hi2, hand, hdone, Int.toNat_natCast, Option.bind_some, ↓reduceIte, Bool.false_eq_true, reduceCtorEq, decide_eq_true_eq, Go.Proofs.YtkjlcbfjllpcnaaW.PrintWords.rd, rd_T32, rd_T34])
        (refine Ev.shift ?_; simp only [quorums_Parts.j2, hw, Option.bind_some, ↓reduceIte, Bool.false_eq_true, reduceCtorEq, decide_eq_true_eq, Go.Proofs.YtkjlcbfjllpcnaaW.PrintWords.rd, rd_T32, rd_T34])
        exact k
  · rintro pre y ys l i e ⟨hI, hll⟩ hi h0 hlt hw hrd
    obtain ⟨m, rfl, hm10, hm⟩ := inS_iff.1 (nodesL_mem.1 (show y ∈ nodesL (decl c) by rw [e]; simp))
    have hml := decl_len hm
    have hm0 : (0 : Int) ≤ m := by omega
    have hm1 : (m : Int) < (l.length : Int) := by omega
    rw [List.foldl_cons] at hI
    refine Or.inl ⟨setR c l (m : Int), ⟨hI, by rw [setR, List.length_set]; exact hll⟩, fun k => ?_⟩
    (refine Ev.shift ?_; simp only [quorums_Parts.l0, h0, hlt, hw, hrd, Option.bind_some, ↓reduceIte, Bool.false_eq_true, reduceCtorEq, decide_eq_true_eq, Go.Proofs.YtkjlcbfjllpcnaaW.PrintWords.rd, rd_T32, rd_T34])
    refine Ev.bind1 (reached_ev hc hm) ?_
    simp only [hm0, hm1, if_true]
    exact k
def memS (n : Nat) (t : Int) : S34 := ⟨true, ⟨t, (List.range n).map Int.ofNat, []⟩⟩
def sameC (n : Nat) (t : Int) : List S34 := List.replicate n (memS n t)
theorem sameA_ev {n : Nat} (hn : n ≤ 1000) (t : Int) : Ev (fun k => trustquorumlaw10_same.f k (n : Int) t) (sameC n t) := by
  have hlt : ¬ (n : Int) < (n : Int) := by omega
  simp only [trustquorumlaw10_same.f]
  refine Ev.count (L := fun (l : List Int) i k => trustquorumlaw10_same.l0 k (n : Int) i t l) n (by omega) (fun i l => l = (List.range i).map Int.ofNat) ?_ ?_ [] rfl
  · intro l hl
    (refine Ev.shift ?_; simp only [trustquorumlaw10_same.l0, hlt, Option.bind_some, ↓reduceIte, Bool.false_eq_true, reduceCtorEq, decide_eq_true_eq, Go.Proofs.YtkjlcbfjllpcnaaW.PrintWords.rd, rd_T32, rd_T34])
    subst hl
    refine Ev.count (L := fun (c : List S34) i k => trustquorumlaw10_same.l1 k (n : Int) i t ((List.range n).map Int.ofNat) c) n (by omega) (fun i c => c = List.replicate i (memS n t)) ?_ ?_ [] rfl
    · intro c h
      (refine Ev.shift ?_; simp only [trustquorumlaw10_same.l1, hlt, Option.bind_some, ↓reduceIte, Bool.false_eq_true, reduceCtorEq, decide_eq_true_eq, Go.Proofs.YtkjlcbfjllpcnaaW.PrintWords.rd, rd_T32, rd_T34])
      rw [h]
      exact Ev.now _
    · intro i c hi h hw
      have h1 : (i : Int) < (n : Int) := by omega
      have h2 : c.length < 2199023255552 := by rw [h, List.length_replicate]; omega
      refine Or.inl ⟨c ++ [memS n t], by rw [h, List.replicate_succ'], fun k => ?_⟩
      (refine Ev.shift ?_; simp only [trustquorumlaw10_same.l1, h1, h2, hw, Option.bind_some, ↓reduceIte, Bool.false_eq_true, reduceCtorEq, decide_eq_true_eq, Go.Proofs.YtkjlcbfjllpcnaaW.PrintWords.rd, rd_T32, rd_T34])
      exact k
  · intro i l hi h hw
    have h1 : (i : Int) < (n : Int) := by omega
    have h2 : l.length < 17592186044416 := by rw [h, List.length_map, List.length_range]; omega
    refine Or.inl ⟨l ++ [(i : Int)], by rw [h, List.range_succ, List.map_append]; rfl, fun k => ?_⟩
    (refine Ev.shift ?_; simp only [trustquorumlaw10_same.l0, h1, h2, hw, Option.bind_some, ↓reduceIte, Bool.false_eq_true, reduceCtorEq, decide_eq_true_eq, Go.Proofs.YtkjlcbfjllpcnaaW.PrintWords.rd, rd_T32, rd_T34])
    exact k
theorem s3_light : Light (sameC 3 2) := ⟨by decide, by decide⟩
theorem s3_min : minQ (sameC 3 2) = [3, 5, 6] := by
  have e : allQ (sameC 3 2) = [3, 5, 6, 7] := by decide +kernel
  have e2 : sortS [3, 5, 6, 7] = [3, 5, 6, 7] := sortS_eq (List.Perm.refl _) (by decide)
  have e3 : ([3, 5, 6, 7] : List Int).filter vld = [3, 5, 6, 7] := by decide
  rw [minQ, e, leastS, e3, e2]
  decide
theorem awake10_ev : Ev (fun k => trustquorumlaw10_awake.f k) true := by
  have hs : Ev (fun k => trustquorumlaw10_same.f k 3 2) (sameC 3 2) := sameA_ev (n := 3) (by decide) 2
  have h10 : (sameC 3 2).length ≤ 10 := by decide
  have hv : valC (sameC 3 2) = 0 := by decide
  have hm := Minimal_ev s3_light h10 hv
  rw [s3_min] at hm
  have hn := Count_ev s3_light h10 hv
  have e4 : ((allQ (sameC 3 2)).length : Int) = 4 := by decide +kernel
  rw [e4] at hn
  have hp := Parts_ev s3_light h10 hv
  have e5 : partsS (sameC 3 2) = [7] := by decide +kernel
  rw [e5] at hp
  simp only [trustquorumlaw10_awake.f]
  refine Ev.bind1 hs ?_
  refine Ev.bind1 hm ?_
  refine Ev.bind1 hs ?_
  refine Ev.bind1 hn ?_
  refine Ev.bind1 hs ?_
  refine Ev.bind1 hp ?_
  simp only [if_true]
  refine Ev.bind1 (Ints_ev (by decide)) ?_
  simp only [decide_true, if_true]
  refine Ev.bind1 (Ints_ev (by decide)) ?_
  simp only [decide_true, if_true]
  exact Ev.now _
theorem Symm_ev {c : List S34} (hc : Light c) (hn : c.length ≤ 10) (hv : valC c = 0)
    (h : ∀ s i j : Nat, (decl c).testBit i = true → (decl c).testBit j = true → sat s (c.getD i z34).f1 = sat s (c.getD j z34).f1) : Ev (fun k => quorums_Symmetric.f k c) (true, 0) := by
  have hp := pow10 hn
  have hdl := decl_lt c
  simp only [quorums_Symmetric.f]
  refine Ev.bind1 (CValid_ev hc) ?_
  rw [hv]
  simp only [if_true]
  refine Ev.bind1 (Declared_ev hc.1) ?_
  refine Ev.bind1 (Nodes_ev hdl) ?_
  have hl := nodesL_len (decl c)
  have hsh : shl .i64 1 (c.length : Int) = ((2 ^ c.length : Nat) : Int) := shl_nat (by omega)
  rw [hsh]
  have hmem : ∀ y ∈ nodesL (decl c), ∃ i : Nat, y = (i : Int) ∧ (decl c).testBit i = true ∧ i < c.length := fun y hy => by
    obtain ⟨i, rfl, _, hi⟩ := inS_iff.1 (nodesL_mem.1 hy)
    exact ⟨i, rfl, hi, decl_len hi⟩
  generalize nodesL (decl c) = N at hl hmem
  generalize 2 ^ c.length = m at hp
  refine Ev.count (L := fun (u : Unit) i k => quorums_Symmetric.l0 k N (m : Int) i c) m (by omega) (fun _ _ => True) ?_ ?_ () trivial
  · intro u _
    have hlt : ¬ (m : Int) < (m : Int) := by omega
    (refine Ev.shift ?_; simp only [quorums_Symmetric.l0, hlt, Option.bind_some, ↓reduceIte, Bool.false_eq_true, reduceCtorEq, decide_eq_true_eq, Go.Proofs.YtkjlcbfjllpcnaaW.PrintWords.rd, rd_T32, rd_T34])
    exact Ev.now _
  · intro s u hs _ hw
    have hlt : (s : Int) < (m : Int) := by omega
    have hs10 : s < 1024 := by omega
    refine Or.inl ⟨(), trivial, fun k => ?_⟩
    (refine Ev.shift ?_; simp only [quorums_Symmetric.l0, hlt, Option.bind_some, ↓reduceIte, Bool.false_eq_true, reduceCtorEq, decide_eq_true_eq, Go.Proofs.YtkjlcbfjllpcnaaW.PrintWords.rd, rd_T32, rd_T34])
    refine Ev.fold (xs := N) (L := fun (u : Unit) i k => quorums_Symmetric.l1 k N (s : Int) (m : Int) (s : Int) N (N.length : Int) i c) (by omega) (fun _ _ _ => True) ?_ ?_ () trivial
    · intro u i _ hi
      (refine Ev.shift ?_; simp only [quorums_Symmetric.l1, hi, hw, Option.bind_some, ↓reduceIte, Bool.false_eq_true, reduceCtorEq, decide_eq_true_eq, Go.Proofs.YtkjlcbfjllpcnaaW.PrintWords.rd, rd_T32, rd_T34])
      exact k
    · intro pre y ys u i e _ hi h0 hlt hw2 hrd
      refine Or.inl ⟨(), trivial, fun k' => ?_⟩
      obtain ⟨a, rfl, ha, hal⟩ := hmem y (by rw [e]; simp)
      have hN : 0 < N.length := by rw [e]; simp; omega
      obtain ⟨b, hb, hbd, hbl⟩ := hmem (N.getD 0 0) (getD_mem' 0 hN)
      have hN' : (0 : Int) < (N.length : Int) := by omega
      have ha0 : (0 : Int) ≤ a := by omega
      have ha1 : (a : Int) < (c.length : Int) := by omega
      have hb0 : (0 : Int) ≤ b := by omega
      have hb1 : (b : Int) < (c.length : Int) := by omega
      have s1 := Sat_ev hs10 1000000 _ (hc.at a) (by decide)
      have s2 := Sat_ev hs10 1000000 _ (hc.at b) (by decide)
      have hg : N.getD (0 : Int).toNat 0 = (b : Int) := hb
      (refine Ev.shift ?_; simp only [quorums_Symmetric.l1, h0, hlt, hw2, hrd, ha0, ha1, Int.toNat_natCast, Option.bind_some, ↓reduceIte, Bool.false_eq_true, reduceCtorEq, decide_eq_true_eq, Go.Proofs.YtkjlcbfjllpcnaaW.PrintWords.rd, rd_T32, rd_T34])
      refine Ev.bind1 s1 ?_
      simp only [hN', hg, hb0, hb1, if_true, Int.toNat_natCast]
      refine Ev.bind1 s2 ?_
      rw [h s a b ha hbd]
      simp only [bne_self_eq_false, Bool.false_eq_true, if_false]
      exact k'
def repC (n : Nat) (x : S32) : List S34 := List.replicate n ⟨true, x⟩
theorem repC_get {n : Nat} {x : S32} {i : Nat} (hi : i < n) : (repC n x).getD i z34 = ⟨true, x⟩ := by
  unfold repC
  rw [List.getD_eq_getElem?_getD, List.getElem?_replicate, if_pos hi]
  rfl
theorem repC_decl {n : Nat} {x : S32} (hn : n ≤ 10) : decl (repC n x) = 2 ^ n - 1 := eq_bits fun i => by
  rw [decl_bit, full_bit]
  by_cases hi : i < n
  · rw [repC_get hi]
    have : i < 10 := by omega
    simp [hi, this]
  · have : (repC n x).getD i z34 = z34 := by
      unfold repC
      rw [List.getD_eq_getElem?_getD, List.getElem?_replicate, if_neg hi]
      rfl
    rw [this]
    simp [hi]
    intro _; rfl
mutual
theorem sat_zero : ∀ (t : S32), chk t = 0 → sat 0 t = false
  | ⟨n, l, ts⟩ => by
    intro h
    rw [chk] at h
    rw [sat, decide_eq_false_iff_not]
    split at h
    · cases h
    rename_i h1
    split at h
    · cases h
    split at h
    · have h2 := satC_zero ts h
      have h3 : l.countP (fun x => inS 0 x) = 0 := by
        rw [List.countP_eq_zero]
        intro x _ hx
        unfold inS at hx
        simp at hx
      rw [h2, h3]
      omega
    · rename_i h4; exact absurd h h4
theorem satC_zero : ∀ (l : List S32), chkL l = 0 → satC 0 l = 0
  | [], _ => by rw [satC]
  | t :: ts, h => by
    rw [chkL] at h
    rw [satC]
    split at h
    · rename_i h1
      rw [sat_zero t h1, satC_zero ts h]
      simp
    · rename_i h1; exact absurd h h1
end
theorem quo_rep {n : Nat} {x : S32} (hn : n ≤ 10) (hx : chk x = 0) {z : Nat} (hz : z < 2 ^ n) : quo (repC n x) z = sat z x := by
  have hp := pow10 hn
  have hz10 : z < 1024 := by omega
  have hget : ∀ i, z.testBit i = true → (repC n x).getD i z34 = ⟨true, x⟩ := fun i hi => repC_get (by
    rcases Nat.lt_or_ge i n with h | h
    · exact h
    · rw [bit_lt hz h] at hi; cases hi)
  have hsub : Sub z (decl (repC n x)) := fun i hi => by
    rw [repC_decl hn, full_bit]
    rcases Nat.lt_or_ge i n with h | h
    · simpa using h
    · rw [bit_lt hz h] at hi; cases hi
  cases hs : sat z x
  · cases hq : quo (repC n x) z
    · rfl
    · have hh := (quo_iff hz10).1 hq
      obtain ⟨i, hi⟩ : ∃ i, z.testBit i = true := by
        apply Classical.byContradiction
        intro hno
        refine hh.1 (eq_bits fun i => ?_)
        rw [Nat.zero_testBit]
        cases hb : z.testBit i
        · rfl
        · exact absurd ⟨i, hb⟩ hno
      have := hh.2.2 i hi
      rw [hget i hi, hs] at this
      cases this
  · refine (quo_iff hz10).2 ⟨fun e => ?_, hsub, fun i hi => by rw [hget i hi]; exact hs⟩
    rw [e, sat_zero x hx] at hs
    cases hs
theorem rep_all {n : Nat} {x : S32} (hn : n ≤ 10) (hx : chk x = 0) : (allQ (repC n x)).length = (List.range (2 ^ n)).countP fun z => sat z x := by
  unfold allQ
  have hl : (repC n x).length = n := by simp [repC]
  rw [List.length_map, ← List.countP_eq_length_filter, hl]
  refine List.countP_congr fun z hz => ?_
  rw [quo_rep hn hx (List.mem_range.1 hz)]
theorem rep_same {n : Nat} {x : S32} (hn : n ≤ 10) (s i j : Nat) (hi : (decl (repC n x)).testBit i = true) (hj : (decl (repC n x)).testBit j = true) : sat s ((repC n x).getD i z34).f1 = sat s ((repC n x).getD j z34).f1 := by
  rw [repC_decl hn, full_bit] at hi hj
  rw [repC_get (by simpa using hi), repC_get (by simpa using hj)]
end Go.Proofs.Ytkjlcbfjllpcnaa.X
namespace Go.Proofs.Ytkjlcbfjllpcnaa.Pure
open Go.RowKit Go.Proofs.Ytkjlcbfjllpcnaa.X Go.Proofs.YtkjlcbfjllpcnaaW.PrintWords Go.Proofs.YtkjlcbfjllpcnaaW.PrintLast
set_option linter.unusedVariables false
theorem sameC_rep (n : Nat) (t : Int) : sameC n t = repC n (memS n t).f1 := rfl
theorem count_all : ∀ n, n < 9 → ∀ z, z < 2 ^ n → ((List.range n).map Int.ofNat).countP (fun x => inS z x) = pcn z := by decide +kernel
theorem sat_same {n z : Nat} (hn : n < 9) (hz : z < 2 ^ n) (t : Int) : sat z (memS n t).f1 = decide (t ≤ (pcn z : Int)) := by
  show sat z ⟨t, (List.range n).map Int.ofNat, []⟩ = _
  rw [sat, satC, count_all n hn z hz]
  rfl
theorem same_all : ∀ n, n < 9 → ∀ t, t < 9 → (n = 0 ∨ t = 0 ∨ n < t ∨ (valC (sameC n (t : Int)) = 0 ∧ chk (memS n (t : Int)).f1 = 0 ∧ partsS (sameC n (t : Int)) = [((2 ^ n - 1 : Nat) : Int)])) := by decide +kernel
theorem same_ok (n : Nat) (h : n < 9) (t : Nat) (h2 : t < 9) (h3 : 1 ≤ n) (h4 : 1 ≤ t) (h5 : t ≤ n) : valC (sameC n (t : Int)) = 0 ∧ chk (memS n (t : Int)).f1 = 0 ∧ partsS (sameC n (t : Int)) = [((2 ^ n - 1 : Nat) : Int)] := by
  rcases same_all n h t h2 with h | h | h | h
  · omega
  · omega
  · omega
  · exact h
theorem same_light {n : Nat} (hn : n < 9) (t : Int) : Light (sameC n t) := by
  constructor
  · show (List.replicate n (memS n t)).length < 1000000
    rw [List.length_replicate]; omega
  · intro m hm
    rw [List.eq_of_mem_replicate hm]
    show wt ⟨t, (List.range n).map Int.ofNat, []⟩ < 1000000
    rw [wt, wtL]
    simp
    omega
theorem pcn_one : ∀ z, z < 1024 → ∀ i, i < 10 → z.testBit i = true → pcn z = pcn (dif z (2 ^ i)) + 1 := by decide +kernel
theorem minQ_same {n t : Nat} (hn : n < 9) (h1 : 1 ≤ t) (h2 : t ≤ n) (hok : chk (memS n (t : Int)).f1 = 0) {x : Int} : x ∈ minQ (sameC n (t : Int)) ↔ ∃ q : Nat, x = (q : Int) ∧ q < 2 ^ n ∧ pcn q = t := by
  have hn10 : n ≤ 10 := by omega
  have hlen : (sameC n (t : Int)).length = n := by simp [sameC]
  have hp := pow10 hn10
  rw [minQ_mem (by rw [hlen]; exact hn10)]
  have hq : ∀ z, z < 2 ^ n → (quo (sameC n (t : Int)) z = true ↔ t ≤ pcn z) := fun z hz => by
    rw [sameC_rep, quo_rep hn10 hok hz, sat_same hn hz, decide_eq_true_eq]
    omega
  have hr : ∀ z, z < 1024 → quo (sameC n (t : Int)) z = true → z < 2 ^ n := fun z hz h => by
    have := quo_range (by rw [hlen]; exact hn10) hz h
    rwa [hlen] at this
  constructor
  · rintro ⟨q, rfl, hq1, hq2, hq3⟩
    have hqn := hr q hq1 hq2
    refine ⟨q, rfl, hqn, ?_⟩
    have hle := (hq q hqn).1 hq2
    apply Classical.byContradiction
    intro hne
    obtain ⟨i, hi⟩ : ∃ i, q.testBit i = true := by
      apply Classical.byContradiction
      intro hno
      have : q = 0 := eq_bits fun i => by
        rw [Nat.zero_testBit]
        cases hb : q.testBit i
        · rfl
        · exact absurd ⟨i, hb⟩ hno
      exact ((quo_iff hq1).1 hq2).1 this
    have h10 := bit10 hq1 hi
    have e := pcn_one q hq1 i h10 hi
    have hs := dif_sub' q (2 ^ i)
    have hd : dif q (2 ^ i) < 2 ^ n := Nat.lt_of_le_of_lt hs.le hqn
    have := hq3 _ (hs.lt hq1) ((hq _ hd).2 (by omega)) hs
    rw [this] at e
    omega
  · rintro ⟨q, rfl, hqn, hpq⟩
    have hq1 : q < 1024 := by omega
    refine ⟨q, rfl, hq1, (hq q hqn).2 (by omega), fun p hp1 hp2 hps => ?_⟩
    apply Classical.byContradiction
    intro hne
    have := pcn_sub hq1 hps hne
    have := (hq p (hr p hp1 hp2)).1 hp2
    omega
theorem minQ_same_len {n t : Nat} (hn : n < 9) (h1 : 1 ≤ t) (h2 : t ≤ n) (hok : chk (memS n (t : Int)).f1 = 0) : (minQ (sameC n (t : Int))).length = (List.range (2 ^ n)).countP fun z => decide (pcn z = t) := by
  have hne : ∀ {a b : Int}, ltS a b → a ≠ b := fun {a b} h e => ltS_irrefl a (by rw [← e] at h; exact h)
  have hnd : (minQ (sameC n (t : Int))).Nodup := List.Pairwise.imp hne (leastS_spec _).1
  have hnd2 : (((List.range (2 ^ n)).filter fun z => decide (pcn z = t)).map Int.ofNat).Nodup := by
    refine List.Pairwise.map Int.ofNat (fun a b h e => h (Int.ofNat.inj e)) (List.Pairwise.filter _ List.nodup_range)
  have hperm := (List.perm_ext_iff_of_nodup hnd hnd2).2 fun x => by
    rw [minQ_same hn h1 h2 hok, List.mem_map]
    constructor
    · rintro ⟨q, rfl, h3, h4⟩
      exact ⟨q, by rw [List.mem_filter, List.mem_range]; exact ⟨h3, by simpa using h4⟩, rfl⟩
    · rintro ⟨q, h3, rfl⟩
      rw [List.mem_filter, List.mem_range] at h3
      exact ⟨q, rfl, h3.1, by simpa using h3.2⟩
  rw [hperm.length_eq, List.length_map, ← List.countP_eq_length_filter]
theorem allQ_same {n t : Nat} (hn : n < 9) (hok : chk (memS n (t : Int)).f1 = 0) : (allQ (sameC n (t : Int))).length = (List.range (2 ^ n)).countP fun z => decide (t ≤ pcn z) := by
  rw [sameC_rep, rep_all (by omega) hok]
  refine List.countP_congr fun z hz => ?_
  rw [sat_same hn (List.mem_range.1 hz), decide_eq_true_eq, decide_eq_true_eq]
  omega
theorem QuorumsUniform : trustquorumlaw10_QuorumsUniform.Pure := by
  intro a0 a1 h1 h2
  have e1 : IntKind.u8.min = 0 := by decide
  have e2 : IntKind.u8.max = 255 := by decide
  have h1' : 0 ≤ a0 ∧ a0 < 256 := by have h := h1; simp [Lit.wf] at h; omega
  have h2' : 0 ≤ a1 ∧ a1 < 256 := by have h := h2; simp [Lit.wf] at h; omega
  clear e1 e2
  suffices h : Ev (fun k => trustquorumlaw10_QuorumsUniform.f k a0 a1) true from h.rounds
  clear h1 h2
  obtain ⟨n, hn, hn1, hn8⟩ : ∃ n : Nat, wrap64 (1 + Int.tmod (wrap64 a0) 8) = (n : Int) ∧ 1 ≤ n ∧ n < 9 := by
    have e1 : wrap64 a0 = a0 := w64 (by omega) (by omega)
    have e2 : Int.tmod a0 8 = a0 % 8 := Int.tmod_eq_emod_of_nonneg (by omega)
    rw [e1, e2, w64 (by omega) (by omega)]
    exact ⟨(1 + a0 % 8).toNat, by omega, by omega, by omega⟩
  obtain ⟨t, ht, ht1, htn⟩ : ∃ t : Nat, wrap64 (1 + Int.tmod (wrap64 a1) (n : Int)) = (t : Int) ∧ 1 ≤ t ∧ t ≤ n := by
    have e1 : wrap64 a1 = a1 := w64 (by omega) (by omega)
    have e2 : Int.tmod a1 (n : Int) = a1 % (n : Int) := Int.tmod_eq_emod_of_nonneg (by omega)
    have e3 := Int.emod_nonneg a1 (show (n : Int) ≠ 0 by omega)
    have e4 := Int.emod_lt_of_pos a1 (show 0 < (n : Int) by omega)
    rw [e1, e2, w64 (by omega) (by omega)]
    exact ⟨(1 + a1 % (n : Int)).toNat, by omega, by omega, by omega⟩
  have hn0 : ¬ (n : Int) = 0 := by omega
  obtain ⟨hv, hck, hparts⟩ := same_ok n hn8 t (by omega) hn1 ht1 htn
  have hlt := same_light hn8 (t : Int)
  have hlen : (sameC n (t : Int)).length = n := by simp [sameC]
  have h10 : (sameC n (t : Int)).length ≤ 10 := by omega
  have hs := sameA_ev (n := n) (by omega) (t : Int)
  have hmem : ∀ x ∈ minQ (sameC n (t : Int)), ∃ q : Nat, x = (q : Int) ∧ q < 2 ^ n ∧ pcn q = t := fun x hx => (minQ_same hn8 ht1 htn hck).1 hx
  have hmin := Minimal_ev hlt h10 hv
  have hml := minQ_len (sameC n (t : Int)) h10
  have hml2 := minQ_same_len hn8 ht1 htn hck
  have hcnt := Count_ev hlt h10 hv
  rw [allQ_same hn8 hck] at hcnt
  have hpt := Parts_ev hlt h10 hv
  rw [hparts] at hpt
  have hsy : Ev (fun k => quorums_Symmetric.f k (sameC n (t : Int))) (true, 0) := Symm_ev hlt h10 hv fun s i j hi hj => by
    rw [sameC_rep] at hi hj ⊢
    exact rep_same (by omega) s i j hi hj
  simp only [trustquorumlaw10_QuorumsUniform.f, hn, ht, hn0, if_false]
  refine Ev.bind1 hs ?_
  refine Ev.bind1 hmin ?_
  refine Ev.bind1 hs ?_
  refine Ev.bind1 hcnt ?_
  refine Ev.bind1 hs ?_
  refine Ev.bind1 hpt ?_
  refine Ev.bind1 hs ?_
  refine Ev.bind1 hsy ?_
  simp only
  clear hs hmin hcnt hpt hsy hparts hv hck hlt h10 hlen hn ht h1' h2'
  generalize minQ (sameC n (t : Int)) = M at hmem hml hml2
  have hnn : (0 : Int) ≤ n := by omega
  have hp := pow10 (show n ≤ 10 by omega)
  have hp0 := Nat.two_pow_pos n
  have hfull : wrap64 (((2 ^ n : Nat) : Int) - 1) = ((2 ^ n - 1 : Nat) : Int) := by rw [w64 (by omega) (by omega)]; omega
  have hsh : shl .i64 1 (n : Int) = ((2 ^ n : Nat) : Int) := shl_nat (by omega)
  generalize hN : 2 ^ n = N at hmem hml2 hp hsh hfull hp0
  refine Ev.count (L := fun (c : Nat × Nat) i k => trustquorumlaw10_QuorumsUniform.l0 k (n : Int) (t : Int) M 0 (((List.range N).countP fun z => decide (t ≤ pcn z) : Nat) : Int) 0 [((N - 1 : Nat) : Int)] 0 true 0 (c.1 : Int) (c.2 : Int) i) N (by clear hsh hfull; omega) (fun i c => c.1 = ((List.range i).countP fun z => decide (pcn z = t)) ∧ c.2 = (List.range i).countP fun z => decide (t ≤ pcn z)) ?_ ?_ (0, 0) ⟨rfl, rfl⟩
  · rintro ⟨a, b⟩ ⟨ha, hb⟩
    simp only at ha hb
    have hlt : ¬ (N : Int) < (N : Int) := Int.lt_irrefl _
    refine Ev.shift ?_
    simp only [trustquorumlaw10_QuorumsUniform.l0, hnn, hsh, hlt, if_true, if_false]
    refine Ev.fold (xs := M) (L := fun (u : Unit) i k => trustquorumlaw10_QuorumsUniform.l1 k (n : Int) (t : Int) M 0 (((List.range N).countP fun z => decide (t ≤ pcn z) : Nat) : Int) 0 [((N - 1 : Nat) : Int)] 0 true 0 (a : Int) (b : Int) M (M.length : Int) i) (by clear hsh hfull; omega) (fun _ _ _ => True) ?_ ?_ () trivial
    · intro u i _ hi
      have e1 : (M.length : Int) = (a : Int) := by rw [hml2, ha]
      refine Ev.shift ?_
      simp only [trustquorumlaw10_QuorumsUniform.l1, hi, if_false]
      simp only [if_true, ← hb, e1, hnn, hsh, hfull]
      refine Ev.bind1 (Ints_ev (by show (1 : Nat) < 1000000; decide)) ?_
      simp only [decide_true, if_true]
      refine Ev.bind1 awake10_ev ?_
      exact Ev.now _
    · intro pre y ys u i e _ hi h0 hlti hw hrd
      refine Or.inl ⟨(), trivial, fun k => ?_⟩
      obtain ⟨q, rfl, hqn, hqt⟩ := hmem y (by rw [e]; simp)
      have hq10 : q < 1024 := Nat.lt_of_lt_of_le hqn hp
      have hnot : ¬ (q : Int) ≥ (N : Int) := by clear hsh hfull hw; omega
      refine Ev.shift ?_
      simp only [trustquorumlaw10_QuorumsUniform.l1, h0, hlti, hw, if_true, Go.Proofs.YtkjlcbfjllpcnaaW.PrintWords.rd, hrd]
      refine Ev.bind1 (ref_SizeEv hq10) ?_
      rw [hqt]
      simp only [hnn, hsh, hnot, if_true, if_false]
      exact k
  · rintro i ⟨a, b⟩ hi ⟨ha, hb⟩ hw
    simp only at ha hb
    have hlt : (i : Int) < (N : Int) := Int.ofNat_lt.2 hi
    have hi10 : i < 1024 := Nat.lt_of_lt_of_le hi hp
    have hle : a ≤ i := by rw [ha]; have := List.countP_le_length (p := fun z => decide (pcn z = t)) (l := List.range i); simpa using this
    have hle2 : b ≤ i := by rw [hb]; have := List.countP_le_length (p := fun z => decide (t ≤ pcn z)) (l := List.range i); simpa using this
    have hw1 : wrap64 ((a : Int) + 1) = ((a + 1 : Nat) : Int) := by clear hsh hw hfull; exact w64 (by omega) (by omega)
    have hw2 : wrap64 ((b : Int) + 1) = ((b + 1 : Nat) : Int) := by clear hsh hw hfull hw1; exact w64 (by omega) (by omega)
    refine Or.inl ⟨(a + if decide (pcn i = t) = true then 1 else 0, b + if decide (t ≤ pcn i) = true then 1 else 0), ⟨by rw [ha, List.range_succ, List.countP_append, List.countP_singleton], by rw [hb, List.range_succ, List.countP_append, List.countP_singleton]⟩, fun k => ?_⟩
    refine Ev.shift ?_
    have hsz := ref_SizeEv hi10
    simp only [trustquorumlaw10_QuorumsUniform.l0, hnn, hsh, hlt, if_true]
    refine Ev.bind1 hsz ?_
    have hge : ((pcn i : Int) ≥ (t : Int)) ↔ t ≤ pcn i := by clear hsh hw hfull hw1 hw2; omega
    have heq : ((pcn i : Int) = (t : Int)) ↔ pcn i = t := by clear hsh hw hfull hw1 hw2 hge; omega
    by_cases h1 : pcn i = t
    · have h2 : t ≤ pcn i := by rw [h1]; exact Nat.le_refl _
      simp only [heq, h1, if_true]
      refine Ev.bind1 hsz ?_
      have h3 : (pcn i : Int) ≥ (t : Int) := hge.2 h2
      simp only [h3, if_true, hw, hw1, hw2]
      simp only [h1, decide_true, if_true, Nat.le_refl] at k
      exact k
    · simp only [heq, h1, if_false]
      refine Ev.bind1 hsz ?_
      by_cases h2 : t ≤ pcn i
      · have h3 : (pcn i : Int) ≥ (t : Int) := hge.2 h2
        simp only [h3, if_true, hw, hw2]
        simp only [h1, h2, decide_true, decide_false, if_true, Bool.false_eq_true, if_false, Nat.add_zero] at k
        exact k
      · have h3 : ¬ (pcn i : Int) ≥ (t : Int) := fun h => h2 (hge.1 h)
        simp only [h3, if_false, hw]
        simp only [h1, h2, decide_false, Bool.false_eq_true, if_false, Nat.add_zero] at k
        exact k
end Go.Proofs.Ytkjlcbfjllpcnaa.Pure
