/- Proof of the statement DangerLeast: part 6 of 8, what it computes and why that answers true. -/
import Derived.Test.YtkjlcbfjllpcnaaKDL5
import Derived.Sort.OwnSortedInts
set_option linter.unusedVariables false
set_option linter.unusedSimpArgs false
namespace Go.Proofs.Ytkjlcbfjllpcnaa.X
open Go.RowKit Go.Proofs.YtkjlcbfjllpcnaaW.PrintWords Go.Proofs.YtkjlcbfjllpcnaaW.PrintLast Go.Proofs.YtkjlcbfjllpcnaaW.PrintMore
attribute [local go_sem] max2_int min2_int max_two min_two max_three min_three max_four min_four
set_option linter.unusedVariables false
set_option linter.unusedSimpArgs false
def configuration_member.f (k:Nat) (a0_0:Bool) (a0_1:Int) (l0_2:List Int) (l0_3:List (S32)) (a1:Int):Option (Int):=if a0_0=true then ((threshold_Valid.f k a0_1 l0_2 l0_3).bind fun t279=>(if t279=0 then ((threshold_Uses.f k a0_1 l0_2 l0_3).bind fun t280=>(if 0≤a1 then (if t280 ≥ (shl .i64 1 a1) then (some 5) else (some 0)) else (none))) else (some t279))) else ((configuration_blank.f a0_1 l0_2 l0_3).bind fun t278=>(if t278=true then (some 0) else (some 1)))
set_option maxHeartbeats 8000000 in
set_option maxRecDepth 100000 in
theorem configuration_member.calls (k:Nat) (a0_0:Bool) (a0_1:Int) (A0_2:Option Addr) (c0_2:Nat) (l0_2:List Int) (A0_3:Option Addr) (c0_3:Nat) (l0_3:List (S32)) (a1:Int) (r:Int) (w:World) (hr0_2:Kd.C (Kd.int .i64) w A0_2 l0_2.length l0_2) (hc0_2:l0_2.length≤c0_2) (hr0_3:Kd.C k32 w A0_3 l0_3.length l0_3) (hc0_3:l0_3.length≤c0_3) (h:configuration_member.f k a0_0 a0_1 l0_2 l0_3 a1=some r) :
  Calls Try.prog 92 #[.agg #[.bool a0_0,.int .i64 a0_1,.slice A0_2 l0_2.length c0_2,.slice A0_3 l0_3.length c0_3],.int .i64 a1] w fun e w'=>e=.returned (.int .i64 r)∧Below w.heap.size w w':=by
 have hu34:=Try.underlying34
 have hu32:=Try.underlying32
 have HR0_2:=Z hr0_2
 have HC0_2:=Z hc0_2
 clear hr0_2 hc0_2
 have HR0_3:=Z hr0_3
 have HC0_3:=Z hc0_3
 clear hr0_3 hc0_3
 have HB:=Z (Below.refl w.heap.size w)
 have H:(if a0_0=true then ((threshold_Valid.f k a0_1 l0_2 l0_3).bind fun t279=>(if t279=0 then ((threshold_Uses.f k a0_1 l0_2 l0_3).bind fun t280=>(if 0≤a1 then (if t280 ≥ (shl .i64 1 a1) then (some 5) else (some 0)) else (none))) else (some t279))) else ((configuration_blank.f a0_1 l0_2 l0_3).bind fun t278=>(if t278=true then (some 0) else (some 1))))=some r:=h
 clear h
 by_cases c3:a0_0=true
 ·subst c3
  rw [if_pos rfl] at H
  replace H:=Option.bind_eq_some_iff.mp H
  obtain ⟨t279,A40,H⟩:=H
  try dsimp only at H
  have A4:=Z A40
  clear A40
  by_cases c5:t279=0
  ·rw [if_pos c5] at H
   have c5b0:(t279 == 0)=true:=beq_iff_eq.mpr c5
   have c5b1:(t279 != 0)=false:=bne_eq_false_iff_eq.mpr c5
   clear c5
   replace H:=Option.bind_eq_some_iff.mp H
   obtain ⟨t280,A60,H⟩:=H
   try dsimp only at H
   have A6:=Z A60
   clear A60
   by_cases c7:0≤a1
   ·rw [if_pos c7] at H
    have c7b0:=eq_true c7
    have c7b1:decide (0≤a1)=true:=decide_eq_true c7
    clear c7
    obtain ⟨ji8,hji8⟩:∃ j_:Int,(shl .i64 1 a1)=j_:=⟨_,rfl⟩
    replace H:(if t280 ≥ (ji8) then (some 5) else (some 0))=some r:=by first|(rw [hji8] at H;exact H)|(simp only [hji8] at H ⊢;exact H)
    (try rw [hji8] at A4)
    (try rw [hji8] at A6)
    have hji8_:(IntKind.i64.wrap (1 * 2 ^ min a1.toNat 64))=ji8:=hji8
    have hji8z:a1≤64→(IntKind.i64.wrap (1 * 2 ^ a1.toNat))=ji8:=shl_small hji8
    have hji8u:(IntKind.i64.wrap (2 ^ min a1.toNat 64))=ji8:=by have h_:=hji8_;rw [Int.one_mul] at h_;exact h_
    have hji8v:a1≤64→(IntKind.i64.wrap (2 ^ a1.toNat))=ji8:=fun hle_=>by have h_:=hji8z hle_;rw [Int.one_mul] at h_;exact h_
    have hji8y:(wrap64 (1 * 2 ^ min a1.toNat 64))=ji8:=(i64_w _).symm.trans hji8_
    have hji8x:a1≤64→(wrap64 (1 * 2 ^ a1.toNat))=ji8:=fun h_=>(i64_w _).symm.trans (hji8z h_)
    by_cases c9:t280 ≥ (ji8)
    ·rw [if_pos c9] at H
     have c9b0:decide ((ji8)≤t280)=true:=decide_eq_true c9
     clear c9
     obtain rfl:=Option.some.inj H
     go_enter Try.func92,Try.ntmps92
     try go_wp2_with (first|((with_reducible refine gate_dst (N:=2) rfl ?_);refine box_event ?hg (N:=2) ?hd (cs:=#[.bool true,.int .i64 a0_1,.slice A0_2 l0_2.length c0_2,.slice A0_3 l0_3.length c0_3]) (t:=34) ?hr ?_;(case hd=>rfl);(case hg=>rfl);(case hr=>first|(go_simp;done)|(go_simp;rfl));intro gb277 hg w10 hbox hb;have n0_:=Z (below_step pB hb);have n1_:=Z (hbox);have n2_:=Z ((pT hg:w.heap.size≤gb277));have n3_:=Z ((pT hg:w.heap.size≤gb277));clear HB;have HB:=n0_;have BK277:=n1_;have GW277:=n2_;have GE277:=n3_;clear n0_ n1_ n2_ n3_;clear hb hbox hg;have hcz11_0:w10.cell? ⟨gb277,0,none⟩=some (.bool true):=(kC BK277.out 0).trans rfl;have hcz11_1:w10.cell? ⟨gb277,1,none⟩=some (.int .i64 a0_1):=(kC BK277.out 1).trans rfl;have hcz11_2:w10.cell? ⟨gb277,2,none⟩=some (.slice A0_2 l0_2.length c0_2):=(kC BK277.out 2).trans rfl;have hcz11_3:w10.cell? ⟨gb277,3,none⟩=some (.slice A0_3 l0_3.length c0_3):=(kC BK277.out 3).trans rfl;have hfz11_0:=kF BK277.out 0;have hfz11_1:=kF BK277.out 1;have hfz11_2:=kF BK277.out 2;have hfz11_3:=kF BK277.out 3)|((with_reducible refine gate_callee (f:=111) rfl ?_);refine goesL_ (some 15) rfl rfl Try.func111 (by kernel_rfl) rfl #[.agg #[.int .i64 a0_1,.slice A0_2 l0_2.length c0_2,.slice A0_3 l0_3.length c0_3]] rfl pG ?_;(with_reducible refine (threshold_Valid.calls k a0_1 _ _ l0_2 _ _ l0_3 t279 _ ?side1 ?side2 ?side3 ?side4 A4.out).mono ?_);(case side1=>repeat (first|exact (Kd.C_below HR0_2.out HB.out)|(with_reducible refine Kd.C_alloc ?_ _)|(with_reducible refine Kd.C_drewN ?_ _)|(with_reducible refine Kd.C_drew ?_)));(case side2=>exact HC0_2.out);(case side3=>repeat (first|exact (Kd.C_below HR0_3.out HB.out)|(with_reducible refine Kd.C_alloc ?_ _)|(with_reducible refine Kd.C_drewN ?_ _)|(with_reducible refine Kd.C_drew ?_)));(case side4=>exact HC0_3.out);rintro e w12 ⟨rfl,hb⟩;refine ⟨_,rfl,?_⟩;have n0_:=Z (blk_below (g:=gb277) (o:=.cells #[.bool true,.int .i64 a0_1,.slice A0_2 l0_2.length c0_2,.slice A0_3 l0_3.length c0_3] 34 (0,0)) (pK BK277) hb);have n1_:=Z (below_step pB hb);clear BK277;clear HB;have BK277:=n0_;have HB:=n1_;clear n0_ n1_;(try clear hb);(try clear hb2);(try clear hk);(try clear hi)))
     have n0_:=Z (kD BK277.out)
     have n1_:=Z (wD HB.out)
     clear BK277
     clear HB
     have BK277:=n0_
     have HB:=n1_
     clear n0_ n1_
     refine start_ (n:=6) (S:=fun w'=>w'.cell? ⟨gb277,0,none⟩=some (.bool true)∧w'.cell? ⟨gb277,1,none⟩=some (.int .i64 a0_1)∧w'.cell? ⟨gb277,2,none⟩=some (.slice A0_2 l0_2.length c0_2)∧w'.cell? ⟨gb277,3,none⟩=some (.slice A0_3 l0_3.length c0_3)) (ds:=[]) #[false,false,false,false,false,false] (by kernel_rfl) rfl rfl ⟨(kC BK277.out 0).trans rfl,(kC BK277.out 1).trans rfl,(kC BK277.out 2).trans rfl,(kC BK277.out 3).trans rfl⟩ (fun hHeld=>?_)
     generalize w12.drew=w13 at BK277 HB hHeld ⊢
     refine pure_ (i:=0) (N:=some 19) (v:=?_) (a':=?_) #[true,false,false,false,false,false] rfl rfl (by kernel_rfl) (fun _ _ _ h=>h) (Or.inl ⟨by rfl,?_⟩) ?_ ?_
     rotate_left
     ·intro w'
      go_simp
      with_reducible rfl
     rotate_left
     ·simp only [Act.put,List.setIfInBounds_toArray,List.set_cons_zero,List.set_cons_succ,i64_w,i32_w]
      rfl
     refine pure_ (i:=3) (N:=some 22) (v:=?_) (a':=?_) #[true,false,false,true,false,false] rfl rfl (by kernel_rfl) (fun _ _ _ h=>h) (Or.inl ⟨by rfl,?_⟩) ?_ ?_
     rotate_left
     ·intro w'
      go_simp
      with_reducible rfl
     rotate_left
     ·simp only [Act.put,List.setIfInBounds_toArray,List.set_cons_zero,List.set_cons_succ,i64_w,i32_w]
      rfl
     refine pure_ (i:=4) (N:=some 23) (v:=?_) (a':=?_) #[true,false,false,true,true,false] rfl rfl (by kernel_rfl) (fun _ _ _ h=>h) (Or.inl ⟨by rfl,?_⟩) ?_ ?_
     rotate_left
     ·intro w'
      go_simp
      with_reducible rfl
     rotate_left
     ·simp only [Act.put,List.setIfInBounds_toArray,List.set_cons_zero,List.set_cons_succ,i64_w,i32_w]
      rfl
     refine take_ (i:=1) (N:=some 20) (v:=?_) (a':=?_) #[true,true,false,true,true,false] rfl rfl (by kernel_rfl) (fun _ _ _ h=>h) (Or.inl ⟨by rfl,?_⟩) hHeld ?_ ?_
     rotate_left
     ·rintro w' ⟨s0,s1,s2,s3⟩
      go_simp
      with_reducible rfl
     rotate_left
     ·simp only [Act.put,List.setIfInBounds_toArray,List.set_cons_zero,List.set_cons_succ,i64_w,i32_w]
      rfl
     refine one_ (i:=2) (N:=some 21) #[true,true,true,true,true,false] rfl rfl (by kernel_rfl) (by decide) (fun K hK=>?_)
     refine goes_ Try.func65 (by kernel_rfl) rfl #[.agg #[.int .i64 a0_1,.slice A0_2 l0_2.length c0_2,.slice A0_3 l0_3.length c0_3]] (by rfl) rfl rfl pG ?_
     with_reducible refine (threshold_Uses.calls k a0_1 _ _ l0_2 _ _ l0_3 t280 _ ?side1 ?side2 ?side3 ?side4 A6.out).mono ?_
     (case side1=>repeat (first|exact (Kd.C_below HR0_2.out HB.out)|(with_reducible refine Kd.C_alloc ?_ _)|(with_reducible refine Kd.C_drewN ?_ _)|(with_reducible refine Kd.C_drew ?_)))
     (case side2=>exact HC0_2.out)
     (case side3=>repeat (first|exact (Kd.C_below HR0_3.out HB.out)|(with_reducible refine Kd.C_alloc ?_ _)|(with_reducible refine Kd.C_drewN ?_ _)|(with_reducible refine Kd.C_drew ?_)))
     (case side4=>exact HC0_3.out)
     rintro e w14 ⟨rfl,hb⟩
     refine ⟨_,rfl,?_⟩
     have n0_:=Z (blk_below (g:=gb277) (o:=.cells #[.bool true,.int .i64 a0_1,.slice A0_2 l0_2.length c0_2,.slice A0_3 l0_3.length c0_3] 34 (0,0)) (pK BK277) hb)
     have n1_:=Z (below_step pB hb)
     clear BK277
     clear HB
     have BK277:=n0_
     have HB:=n1_
     clear n0_ n1_
     (try clear hb)
     (try clear hb2)
     (try clear hk)
     (try clear hi)
     refine hK.out _ _ ⟨(kC BK277.out 0).trans rfl,(kC BK277.out 1).trans rfl,(kC BK277.out 2).trans rfl,(kC BK277.out 3).trans rfl⟩ (fun hHeld=>?_)
     clear hK K
     refine norm_ (a':=?_) ?_ ?_
     rotate_left
     ·show Act.put _ (some 21) _=_
      simp only [Act.put,List.setIfInBounds_toArray,List.set_cons_zero,List.set_cons_succ,i64_w,i32_w]
      rfl
     refine pure_ (i:=5) (N:=some 24) (v:=?_) (a':=?_) #[true,true,true,true,true,true] rfl rfl (by kernel_rfl) (fun _ _ _ h=>h) (Or.inl ⟨by rfl,?_⟩) ?_ ?_
     rotate_left
     ·intro w'
      go_simp
      with_reducible rfl
     rotate_left
     ·simp only [Act.put,List.setIfInBounds_toArray,List.set_cons_zero,List.set_cons_succ,i64_w,i32_w]
      rfl
     refine done_ (by kernel_rfl) ?_
     try go_wp2
     go_ret
     exact ⟨by first|rfl|(simp [errW_none,errW_some] <;> rfl)|(simp only [← hji8];first|rfl|(simp [errW_none,errW_some] <;> rfl))|(simp [*,errW_none,errW_some] <;> rfl),pB⟩
    ·rw [if_neg c9] at H
     have c9b0:decide ((ji8)≤t280)=false:=decide_eq_false c9
     clear c9
     obtain rfl:=Option.some.inj H
     go_enter Try.func92,Try.ntmps92
     try go_wp2_with (first|((with_reducible refine gate_dst (N:=2) rfl ?_);refine box_event ?hg (N:=2) ?hd (cs:=#[.bool true,.int .i64 a0_1,.slice A0_2 l0_2.length c0_2,.slice A0_3 l0_3.length c0_3]) (t:=34) ?hr ?_;(case hd=>rfl);(case hg=>rfl);(case hr=>first|(go_simp;done)|(go_simp;rfl));intro gb277 hg w15 hbox hb;have n0_:=Z (below_step pB hb);have n1_:=Z (hbox);have n2_:=Z ((pT hg:w.heap.size≤gb277));have n3_:=Z ((pT hg:w.heap.size≤gb277));clear HB;have HB:=n0_;have BK277:=n1_;have GW277:=n2_;have GE277:=n3_;clear n0_ n1_ n2_ n3_;clear hb hbox hg;have hcz16_0:w15.cell? ⟨gb277,0,none⟩=some (.bool true):=(kC BK277.out 0).trans rfl;have hcz16_1:w15.cell? ⟨gb277,1,none⟩=some (.int .i64 a0_1):=(kC BK277.out 1).trans rfl;have hcz16_2:w15.cell? ⟨gb277,2,none⟩=some (.slice A0_2 l0_2.length c0_2):=(kC BK277.out 2).trans rfl;have hcz16_3:w15.cell? ⟨gb277,3,none⟩=some (.slice A0_3 l0_3.length c0_3):=(kC BK277.out 3).trans rfl;have hfz16_0:=kF BK277.out 0;have hfz16_1:=kF BK277.out 1;have hfz16_2:=kF BK277.out 2;have hfz16_3:=kF BK277.out 3)|((with_reducible refine gate_callee (f:=111) rfl ?_);refine goesL_ (some 15) rfl rfl Try.func111 (by kernel_rfl) rfl #[.agg #[.int .i64 a0_1,.slice A0_2 l0_2.length c0_2,.slice A0_3 l0_3.length c0_3]] rfl pG ?_;(with_reducible refine (threshold_Valid.calls k a0_1 _ _ l0_2 _ _ l0_3 t279 _ ?side1 ?side2 ?side3 ?side4 A4.out).mono ?_);(case side1=>repeat (first|exact (Kd.C_below HR0_2.out HB.out)|(with_reducible refine Kd.C_alloc ?_ _)|(with_reducible refine Kd.C_drewN ?_ _)|(with_reducible refine Kd.C_drew ?_)));(case side2=>exact HC0_2.out);(case side3=>repeat (first|exact (Kd.C_below HR0_3.out HB.out)|(with_reducible refine Kd.C_alloc ?_ _)|(with_reducible refine Kd.C_drewN ?_ _)|(with_reducible refine Kd.C_drew ?_)));(case side4=>exact HC0_3.out);rintro e w17 ⟨rfl,hb⟩;refine ⟨_,rfl,?_⟩;have n0_:=Z (blk_below (g:=gb277) (o:=.cells #[.bool true,.int .i64 a0_1,.slice A0_2 l0_2.length c0_2,.slice A0_3 l0_3.length c0_3] 34 (0,0)) (pK BK277) hb);have n1_:=Z (below_step pB hb);clear BK277;clear HB;have BK277:=n0_;have HB:=n1_;clear n0_ n1_;(try clear hb);(try clear hb2);(try clear hk);(try clear hi)))
     have n0_:=Z (kD BK277.out)
     have n1_:=Z (wD HB.out)
     clear BK277
     clear HB
     have BK277:=n0_
     have HB:=n1_
     clear n0_ n1_
     refine start_ (n:=6) (S:=fun w'=>w'.cell? ⟨gb277,0,none⟩=some (.bool true)∧w'.cell? ⟨gb277,1,none⟩=some (.int .i64 a0_1)∧w'.cell? ⟨gb277,2,none⟩=some (.slice A0_2 l0_2.length c0_2)∧w'.cell? ⟨gb277,3,none⟩=some (.slice A0_3 l0_3.length c0_3)) (ds:=[]) #[false,false,false,false,false,false] (by kernel_rfl) rfl rfl ⟨(kC BK277.out 0).trans rfl,(kC BK277.out 1).trans rfl,(kC BK277.out 2).trans rfl,(kC BK277.out 3).trans rfl⟩ (fun hHeld=>?_)
     generalize w17.drew=w18 at BK277 HB hHeld ⊢
     refine pure_ (i:=0) (N:=some 19) (v:=?_) (a':=?_) #[true,false,false,false,false,false] rfl rfl (by kernel_rfl) (fun _ _ _ h=>h) (Or.inl ⟨by rfl,?_⟩) ?_ ?_
     rotate_left
     ·intro w'
      go_simp
      with_reducible rfl
     rotate_left
     ·simp only [Act.put,List.setIfInBounds_toArray,List.set_cons_zero,List.set_cons_succ,i64_w,i32_w]
      rfl
     refine pure_ (i:=3) (N:=some 22) (v:=?_) (a':=?_) #[true,false,false,true,false,false] rfl rfl (by kernel_rfl) (fun _ _ _ h=>h) (Or.inl ⟨by rfl,?_⟩) ?_ ?_
     rotate_left
     ·intro w'
      go_simp
      with_reducible rfl
     rotate_left
     ·simp only [Act.put,List.setIfInBounds_toArray,List.set_cons_zero,List.set_cons_succ,i64_w,i32_w]
      rfl
     refine pure_ (i:=4) (N:=some 23) (v:=?_) (a':=?_) #[true,false,false,true,true,false] rfl rfl (by kernel_rfl) (fun _ _ _ h=>h) (Or.inl ⟨by rfl,?_⟩) ?_ ?_
     rotate_left
     ·intro w'
      go_simp
      with_reducible rfl
     rotate_left
     ·simp only [Act.put,List.setIfInBounds_toArray,List.set_cons_zero,List.set_cons_succ,i64_w,i32_w]
      rfl
     refine take_ (i:=1) (N:=some 20) (v:=?_) (a':=?_) #[true,true,false,true,true,false] rfl rfl (by kernel_rfl) (fun _ _ _ h=>h) (Or.inl ⟨by rfl,?_⟩) hHeld ?_ ?_
     rotate_left
     ·rintro w' ⟨s0,s1,s2,s3⟩
      go_simp
      with_reducible rfl
     rotate_left
     ·simp only [Act.put,List.setIfInBounds_toArray,List.set_cons_zero,List.set_cons_succ,i64_w,i32_w]
      rfl
     refine one_ (i:=2) (N:=some 21) #[true,true,true,true,true,false] rfl rfl (by kernel_rfl) (by decide) (fun K hK=>?_)
     refine goes_ Try.func65 (by kernel_rfl) rfl #[.agg #[.int .i64 a0_1,.slice A0_2 l0_2.length c0_2,.slice A0_3 l0_3.length c0_3]] (by rfl) rfl rfl pG ?_
     with_reducible refine (threshold_Uses.calls k a0_1 _ _ l0_2 _ _ l0_3 t280 _ ?side1 ?side2 ?side3 ?side4 A6.out).mono ?_
     (case side1=>repeat (first|exact (Kd.C_below HR0_2.out HB.out)|(with_reducible refine Kd.C_alloc ?_ _)|(with_reducible refine Kd.C_drewN ?_ _)|(with_reducible refine Kd.C_drew ?_)))
     (case side2=>exact HC0_2.out)
     (case side3=>repeat (first|exact (Kd.C_below HR0_3.out HB.out)|(with_reducible refine Kd.C_alloc ?_ _)|(with_reducible refine Kd.C_drewN ?_ _)|(with_reducible refine Kd.C_drew ?_)))
     (case side4=>exact HC0_3.out)
     rintro e w19 ⟨rfl,hb⟩
     refine ⟨_,rfl,?_⟩
     have n0_:=Z (blk_below (g:=gb277) (o:=.cells #[.bool true,.int .i64 a0_1,.slice A0_2 l0_2.length c0_2,.slice A0_3 l0_3.length c0_3] 34 (0,0)) (pK BK277) hb)
     have n1_:=Z (below_step pB hb)
     clear BK277
     clear HB
     have BK277:=n0_
     have HB:=n1_
     clear n0_ n1_
     (try clear hb)
     (try clear hb2)
     (try clear hk)
     (try clear hi)
     refine hK.out _ _ ⟨(kC BK277.out 0).trans rfl,(kC BK277.out 1).trans rfl,(kC BK277.out 2).trans rfl,(kC BK277.out 3).trans rfl⟩ (fun hHeld=>?_)
     clear hK K
     refine norm_ (a':=?_) ?_ ?_
     rotate_left
     ·show Act.put _ (some 21) _=_
      simp only [Act.put,List.setIfInBounds_toArray,List.set_cons_zero,List.set_cons_succ,i64_w,i32_w]
      rfl
     refine pure_ (i:=5) (N:=some 24) (v:=?_) (a':=?_) #[true,true,true,true,true,true] rfl rfl (by kernel_rfl) (fun _ _ _ h=>h) (Or.inl ⟨by rfl,?_⟩) ?_ ?_
     rotate_left
     ·intro w'
      go_simp
      with_reducible rfl
     rotate_left
     ·simp only [Act.put,List.setIfInBounds_toArray,List.set_cons_zero,List.set_cons_succ,i64_w,i32_w]
      rfl
     refine done_ (by kernel_rfl) ?_
     try go_wp2
     go_ret
     exact ⟨by first|rfl|(simp [errW_none,errW_some] <;> rfl)|(simp only [← hji8];first|rfl|(simp [errW_none,errW_some] <;> rfl))|(simp [*,errW_none,errW_some] <;> rfl),pB⟩
   ·rw [if_neg c7] at H
    exact absurd H (by simp)
  ·rw [if_neg c5] at H
   have c5b0:(t279 == 0)=false:=beq_eq_false_iff_ne.mpr c5
   have c5b1:(t279 != 0)=true:=bne_iff_ne.mpr c5
   obtain rfl:=Option.some.inj H
   go_enter Try.func92,Try.ntmps92
   go_wp2_with (first|((with_reducible refine gate_dst (N:=2) rfl ?_);refine box_event ?hg (N:=2) ?hd (cs:=#[.bool true,.int .i64 a0_1,.slice A0_2 l0_2.length c0_2,.slice A0_3 l0_3.length c0_3]) (t:=34) ?hr ?_;(case hd=>rfl);(case hg=>rfl);(case hr=>first|(go_simp;done)|(go_simp;rfl));intro gb277 hg w20 hbox hb;have n0_:=Z (below_step pB hb);have n1_:=Z (hbox);have n2_:=Z ((pT hg:w.heap.size≤gb277));have n3_:=Z ((pT hg:w.heap.size≤gb277));clear HB;have HB:=n0_;have BK277:=n1_;have GW277:=n2_;have GE277:=n3_;clear n0_ n1_ n2_ n3_;clear hb hbox hg;have hcz21_0:w20.cell? ⟨gb277,0,none⟩=some (.bool true):=(kC BK277.out 0).trans rfl;have hcz21_1:w20.cell? ⟨gb277,1,none⟩=some (.int .i64 a0_1):=(kC BK277.out 1).trans rfl;have hcz21_2:w20.cell? ⟨gb277,2,none⟩=some (.slice A0_2 l0_2.length c0_2):=(kC BK277.out 2).trans rfl;have hcz21_3:w20.cell? ⟨gb277,3,none⟩=some (.slice A0_3 l0_3.length c0_3):=(kC BK277.out 3).trans rfl;have hfz21_0:=kF BK277.out 0;have hfz21_1:=kF BK277.out 1;have hfz21_2:=kF BK277.out 2;have hfz21_3:=kF BK277.out 3)|((with_reducible refine gate_callee (f:=111) rfl ?_);refine goesL_ (some 15) rfl rfl Try.func111 (by kernel_rfl) rfl #[.agg #[.int .i64 a0_1,.slice A0_2 l0_2.length c0_2,.slice A0_3 l0_3.length c0_3]] rfl pG ?_;(with_reducible refine (threshold_Valid.calls k a0_1 _ _ l0_2 _ _ l0_3 t279 _ ?side1 ?side2 ?side3 ?side4 A4.out).mono ?_);(case side1=>repeat (first|exact (Kd.C_below HR0_2.out HB.out)|(with_reducible refine Kd.C_alloc ?_ _)|(with_reducible refine Kd.C_drewN ?_ _)|(with_reducible refine Kd.C_drew ?_)));(case side2=>exact HC0_2.out);(case side3=>repeat (first|exact (Kd.C_below HR0_3.out HB.out)|(with_reducible refine Kd.C_alloc ?_ _)|(with_reducible refine Kd.C_drewN ?_ _)|(with_reducible refine Kd.C_drew ?_)));(case side4=>exact HC0_3.out);rintro e w22 ⟨rfl,hb⟩;refine ⟨_,rfl,?_⟩;have n0_:=Z (blk_below (g:=gb277) (o:=.cells #[.bool true,.int .i64 a0_1,.slice A0_2 l0_2.length c0_2,.slice A0_3 l0_3.length c0_3] 34 (0,0)) (pK BK277) hb);have n1_:=Z (below_step pB hb);clear BK277;clear HB;have BK277:=n0_;have HB:=n1_;clear n0_ n1_;(try clear hb);(try clear hb2);(try clear hk);(try clear hi)))
   go_ret
   exact ⟨pF,pB⟩
 ·replace c3:=Bool.eq_false_iff.mpr c3
  subst c3
  rw [if_neg (show ¬ (false=true) by decide)] at H
  replace H:=Option.bind_eq_some_iff.mp H
  obtain ⟨t278,A230,H⟩:=H
  try dsimp only at H
  have A23:=Z A230
  clear A230
  by_cases c24:t278=true
  ·subst c24
   rw [if_pos rfl] at H
   obtain rfl:=Option.some.inj H
   go_enter Try.func92,Try.ntmps92
   go_wp2_with (first|((with_reducible refine gate_dst (N:=2) rfl ?_);refine box_event ?hg (N:=2) ?hd (cs:=#[.bool false,.int .i64 a0_1,.slice A0_2 l0_2.length c0_2,.slice A0_3 l0_3.length c0_3]) (t:=34) ?hr ?_;(case hd=>rfl);(case hg=>rfl);(case hr=>first|(go_simp;done)|(go_simp;rfl));intro gb277 hg w25 hbox hb;have n0_:=Z (below_step pB hb);have n1_:=Z (hbox);have n2_:=Z ((pT hg:w.heap.size≤gb277));have n3_:=Z ((pT hg:w.heap.size≤gb277));clear HB;have HB:=n0_;have BK277:=n1_;have GW277:=n2_;have GE277:=n3_;clear n0_ n1_ n2_ n3_;clear hb hbox hg;have hcz26_0:w25.cell? ⟨gb277,0,none⟩=some (.bool false):=(kC BK277.out 0).trans rfl;have hcz26_1:w25.cell? ⟨gb277,1,none⟩=some (.int .i64 a0_1):=(kC BK277.out 1).trans rfl;have hcz26_2:w25.cell? ⟨gb277,2,none⟩=some (.slice A0_2 l0_2.length c0_2):=(kC BK277.out 2).trans rfl;have hcz26_3:w25.cell? ⟨gb277,3,none⟩=some (.slice A0_3 l0_3.length c0_3):=(kC BK277.out 3).trans rfl;have hfz26_0:=kF BK277.out 0;have hfz26_1:=kF BK277.out 1;have hfz26_2:=kF BK277.out 2;have hfz26_3:=kF BK277.out 3)|((with_reducible refine gate_callee (f:=110) rfl ?_);refine goesL_ (some 11) rfl rfl Try.func110 (by kernel_rfl) rfl #[.agg #[.int .i64 a0_1,.slice A0_2 l0_2.length c0_2,.slice A0_3 l0_3.length c0_3]] rfl pG ?_;(with_reducible refine (configuration_blank.calls a0_1 _ _ l0_2 _ _ l0_3 true _ ?side1 ?side2 ?side3 ?side4 A23.out).mono ?_);(case side1=>repeat (first|exact (Kd.C_below HR0_2.out HB.out)|(with_reducible refine Kd.C_alloc ?_ _)|(with_reducible refine Kd.C_drewN ?_ _)|(with_reducible refine Kd.C_drew ?_)));(case side2=>exact HC0_2.out);(case side3=>repeat (first|exact (Kd.C_below HR0_3.out HB.out)|(with_reducible refine Kd.C_alloc ?_ _)|(with_reducible refine Kd.C_drewN ?_ _)|(with_reducible refine Kd.C_drew ?_)));(case side4=>exact HC0_3.out);rintro e w27 ⟨rfl,hb⟩;refine ⟨_,rfl,?_⟩;have n0_:=Z (blk_below (g:=gb277) (o:=.cells #[.bool false,.int .i64 a0_1,.slice A0_2 l0_2.length c0_2,.slice A0_3 l0_3.length c0_3] 34 (0,0)) (pK BK277) hb);have n1_:=Z (below_step pB hb);clear BK277;clear HB;have BK277:=n0_;have HB:=n1_;clear n0_ n1_;(try clear hb);(try clear hb2);(try clear hk);(try clear hi)))
   go_ret
   exact ⟨pF,pB⟩
  ·replace c24:=Bool.eq_false_iff.mpr c24
   subst c24
   rw [if_neg (show ¬ (false=true) by decide)] at H
   obtain rfl:=Option.some.inj H
   go_enter Try.func92,Try.ntmps92
   go_wp2_with (first|((with_reducible refine gate_dst (N:=2) rfl ?_);refine box_event ?hg (N:=2) ?hd (cs:=#[.bool false,.int .i64 a0_1,.slice A0_2 l0_2.length c0_2,.slice A0_3 l0_3.length c0_3]) (t:=34) ?hr ?_;(case hd=>rfl);(case hg=>rfl);(case hr=>first|(go_simp;done)|(go_simp;rfl));intro gb277 hg w28 hbox hb;have n0_:=Z (below_step pB hb);have n1_:=Z (hbox);have n2_:=Z ((pT hg:w.heap.size≤gb277));have n3_:=Z ((pT hg:w.heap.size≤gb277));clear HB;have HB:=n0_;have BK277:=n1_;have GW277:=n2_;have GE277:=n3_;clear n0_ n1_ n2_ n3_;clear hb hbox hg;have hcz29_0:w28.cell? ⟨gb277,0,none⟩=some (.bool false):=(kC BK277.out 0).trans rfl;have hcz29_1:w28.cell? ⟨gb277,1,none⟩=some (.int .i64 a0_1):=(kC BK277.out 1).trans rfl;have hcz29_2:w28.cell? ⟨gb277,2,none⟩=some (.slice A0_2 l0_2.length c0_2):=(kC BK277.out 2).trans rfl;have hcz29_3:w28.cell? ⟨gb277,3,none⟩=some (.slice A0_3 l0_3.length c0_3):=(kC BK277.out 3).trans rfl;have hfz29_0:=kF BK277.out 0;have hfz29_1:=kF BK277.out 1;have hfz29_2:=kF BK277.out 2;have hfz29_3:=kF BK277.out 3)|((with_reducible refine gate_callee (f:=110) rfl ?_);refine goesL_ (some 11) rfl rfl Try.func110 (by kernel_rfl) rfl #[.agg #[.int .i64 a0_1,.slice A0_2 l0_2.length c0_2,.slice A0_3 l0_3.length c0_3]] rfl pG ?_;(with_reducible refine (configuration_blank.calls a0_1 _ _ l0_2 _ _ l0_3 false _ ?side1 ?side2 ?side3 ?side4 A23.out).mono ?_);(case side1=>repeat (first|exact (Kd.C_below HR0_2.out HB.out)|(with_reducible refine Kd.C_alloc ?_ _)|(with_reducible refine Kd.C_drewN ?_ _)|(with_reducible refine Kd.C_drew ?_)));(case side2=>exact HC0_2.out);(case side3=>repeat (first|exact (Kd.C_below HR0_3.out HB.out)|(with_reducible refine Kd.C_alloc ?_ _)|(with_reducible refine Kd.C_drewN ?_ _)|(with_reducible refine Kd.C_drew ?_)));(case side4=>exact HC0_3.out);rintro e w30 ⟨rfl,hb⟩;refine ⟨_,rfl,?_⟩;have n0_:=Z (blk_below (g:=gb277) (o:=.cells #[.bool false,.int .i64 a0_1,.slice A0_2 l0_2.length c0_2,.slice A0_3 l0_3.length c0_3] 34 (0,0)) (pK BK277) hb);have n1_:=Z (below_step pB hb);clear BK277;clear HB;have BK277:=n0_;have HB:=n1_;clear n0_ n1_;(try clear hb);(try clear hb2);(try clear hk);(try clear hi)))
   go_ret
   exact ⟨pF,pB⟩
def configuration_Valid.l0:Nat→List (S34)→Int→Int→List (S34)→Option (Int)
 | 0,_,_,_,_=>none
 | k+1,x11,x12,x13,x282000=>if x13 < x12 then (if 0≤x13 then (if x13 < (x11.length:Int) then ((configuration_member.f k ((rd_T34 x11 x13).f0) ((rd_T34 x11 x13).f1.f0) ((rd_T34 x11 x13).f1.f1) ((rd_T34 x11 x13).f1.f2) (x282000.length:Int)).bind fun t284=>(if t284=0 then (configuration_Valid.l0 k x11 x12 (wrap64 (x13+1)) x282000) else (some t284))) else (none)) else (none)) else (some 0)
def configuration_Valid.f (k:Nat) (l0_0:List (S34)):Option (Int):=if (l0_0.length:Int) > 10 then (some 3) else (configuration_Valid.l0 k l0_0 (l0_0.length:Int) 0 l0_0)
set_option maxHeartbeats 8000000 in
set_option maxRecDepth 100000 in
theorem configuration_Valid.calls (k:Nat) (A0_0:Option Addr) (c0_0:Nat) (l0_0:List (S34)) (r:Int) (w:World) (hr0_0:Kd.C k34 w A0_0 l0_0.length l0_0) (hc0_0:l0_0.length≤c0_0) (h:configuration_Valid.f k l0_0=some r) :
  Calls Try.prog 63 #[.agg #[.slice A0_0 l0_0.length c0_0]] w fun e w'=>e=.returned (.int .i64 r)∧Below w.heap.size w w':=by
 have hu27:=Try.underlying27
 have hu34:=Try.underlying34
 have HR0_0:=Z hr0_0
 have HC0_0:=Z hc0_0
 clear hr0_0 hc0_0
 have HB:=Z (Below.refl w.heap.size w)
 have H:(if (l0_0.length:Int) > 10 then (some 3) else (configuration_Valid.l0 k l0_0 (l0_0.length:Int) 0 l0_0))=some r:=h
 clear h
 by_cases c2:(l0_0.length:Int) > 10
 ·rw [if_pos c2] at H
  have c2b0:decide (10 < (l0_0.length:Int))=true:=decide_eq_true c2
  have c2b1:decide (10 < l0_0.length)=true:=decide_eq_true (by omega)
  clear c2
  obtain rfl:=Option.some.inj H
  go_enter Try.func63,Try.ntmps63
  go_wp2_with (first|((with_reducible refine gate_dst (N:=1) rfl ?_);refine box_event ?hg (N:=1) ?hd (cs:=#[.slice A0_0 l0_0.length c0_0]) (t:=27) ?hr ?_;(case hd=>rfl);(case hg=>rfl);(case hr=>first|(go_simp;done)|(go_simp;rfl));intro gb281 hg w3 hbox hb;have n0_:=Z (below_step pB hb);have n1_:=Z (hbox);have n2_:=Z ((pT hg:w.heap.size≤gb281));have n3_:=Z ((pT hg:w.heap.size≤gb281));clear HB;have HB:=n0_;have BK281:=n1_;have GW281:=n2_;have GE281:=n3_;clear n0_ n1_ n2_ n3_;clear hb hbox hg;have hcz4_0:w3.cell? ⟨gb281,0,none⟩=some (.slice A0_0 l0_0.length c0_0):=(kC BK281.out 0).trans rfl;have hfz4_0:=kF BK281.out 0))
  go_ret
  exact ⟨pF,pB⟩
 ·rw [if_neg c2] at H
  have c2b0:decide (10 < (l0_0.length:Int))=false:=decide_eq_false c2
  have c2b1:decide (10 < l0_0.length)=false:=decide_eq_false (by omega)
  clear c2
  have H':=Z H
  clear H
  go_enter Try.func63,Try.ntmps63
  go_wp2_with (first|((with_reducible refine gate_dst (N:=1) rfl ?_);refine box_event ?hg (N:=1) ?hd (cs:=#[.slice A0_0 l0_0.length c0_0]) (t:=27) ?hr ?_;(case hd=>rfl);(case hg=>rfl);(case hr=>first|(go_simp;done)|(go_simp;rfl));intro gb281 hg w5 hbox hb;have n0_:=Z (below_step pB hb);have n1_:=Z (hbox);have n2_:=Z ((pT hg:w.heap.size≤gb281));have n3_:=Z ((pT hg:w.heap.size≤gb281));clear HB;have HB:=n0_;have BK281:=n1_;have GW281:=n2_;have GE281:=n3_;clear n0_ n1_ n2_ n3_;clear hb hbox hg;have hcz6_0:w5.cell? ⟨gb281,0,none⟩=some (.slice A0_0 l0_0.length c0_0):=(kC BK281.out 0).trans rfl;have hfz6_0:=kF BK281.out 0))
  go_loopg [13] k (fun kq v13 w'=>∃ (x13_1:Int),v13=.int .i64 x13_1∧Aside0 (configuration_Valid.l0 kq l0_0 (l0_0.length:Int) x13_1 l0_0=some r)∧Aside0 (kq≤k)∧Aside0 (w'.heap[gb281]?=some (.cells #[(.slice A0_0 l0_0.length c0_0)] 27 (0,0)))∧Aside0 (Below w.heap.size w w'))
  case atStart=>exact ⟨(0),pE,H',⟨Nat.le_refl _⟩,⟨pK BK281⟩,⟨pB⟩⟩
  case round =>
   clear H'
   try clear c2
   try clear c2b0
   try clear c2b1
   try clear p2
   try clear c6
   try clear hcz4_0
   try clear hcz6_0
   try clear hfz4_0
   try clear hfz6_0
   obtain ⟨x13_1,rfl,HA,HK1,BK281,HB⟩:=hrel
   cases gk with
   | zero=>exact absurd HA.out (by simp [configuration_Valid.l0])
   | succ k1 =>
    have H:=HA.out
    clear HA
    simp only [configuration_Valid.l0] at H
    by_cases c7:x13_1 < (l0_0.length:Int)
    ·rw [if_pos c7] at H
     have c7b0:decide (x13_1 < (l0_0.length:Int))=true:=decide_eq_true c7
     clear c7
     by_cases c8:0≤x13_1
     ·rw [if_pos c8] at H
      have c8b0:decide (0≤x13_1)=true:=decide_eq_true c8
      clear c8
      by_cases c9:x13_1 < (l0_0.length:Int)
      ·rw [if_pos c9] at H
       have c9b0:decide (x13_1 < (l0_0.length:Int))=true:=decide_eq_true c9
       clear c9
       replace H:=Option.bind_eq_some_iff.mp H
       obtain ⟨t284,A100,H⟩:=H
       try dsimp only at H
       have A10:=Z A100
       clear A100
       by_cases c11:t284=0
       ·rw [if_pos c11] at H
        have c11b0:(t284 == 0)=true:=beq_iff_eq.mpr c11
        have c11b1:(t284 != 0)=false:=bne_eq_false_iff_eq.mpr c11
        clear c11
        have H':=Z H
        clear H
        have p282:0≤(x13_1:Int):=of_decide_eq_true (by first|(with_reducible assumption)|assumption)
        have q282:x13_1 < (l0_0.length:Int):=of_decide_eq_true (by first|(with_reducible assumption)|assumption)
        obtain ⟨ad282,A282_2,c282_2,A282_3,c282_3,e282,hx282_0,hx282_1,hx282_2,hx282_3,hl282_2,hi282_2,hl282_3,hi282_3⟩:=at_T34 HR0_0.out x13_1 p282 q282
        cases e282
        replace hx282_0:=(HB.out.cell (World.block_lt_of_cell? w _ hx282_0)).trans hx282_0
        replace hx282_1:=(HB.out.cell (World.block_lt_of_cell? w _ hx282_1)).trans hx282_1
        replace hx282_2:=(HB.out.cell (World.block_lt_of_cell? w _ hx282_2)).trans hx282_2
        replace hx282_3:=(HB.out.cell (World.block_lt_of_cell? w _ hx282_3)).trans hx282_3
        have HR282_2:=Z hi282_2
        have HC282_2:=Z hl282_2
        clear hi282_2 hl282_2
        have HR282_3:=Z hi282_3
        have HC282_3:=Z hl282_3
        clear hi282_3 hl282_3
        replace p282:=eq_true p282
        replace q282:=eq_true q282
        go_wp2_with (first|((with_reducible refine gate_dst (N:=4) rfl ?_);refine box_event ?hg (N:=4) ?hd (cs:=#[.bool false,.int .i64 0,.slice none 0 0,.slice none 0 0]) (t:=34) ?hr ?_;(case hd=>rfl);(case hg=>rfl);(case hr=>first|(go_simp;done)|(go_simp;rfl));intro gb283 hg w12 hbox hb;have n0_:=Z (blk_below (g:=gb281) (o:=.cells #[.slice (some ad282) l0_0.length c0_0] 27 (0,0)) (pK BK281) hb);have n1_:=Z (below_step pB hb);have n2_:=Z (hbox);have n3_:=Z ((pT hg:w.heap.size≤gb283));have n4_:=Z ((pT hg:w.heap.size≤gb283));have n5_:=Z ((pL hg (pK BK281):gb281 ≠ gb283));have n6_:=Z ((pM hg (pK BK281):gb283 ≠ gb281));clear BK281;clear HB;have BK281:=n0_;have HB:=n1_;have BK283:=n2_;have GW283:=n3_;have GE283:=n4_;have NB281_283:=n5_;have NB283_281:=n6_;clear n0_ n1_ n2_ n3_ n4_ n5_ n6_;clear hb hbox hg;have hnb13:=NB283_281.out;have hnc13:=NB281_283.out;have hcz14_0:w12.cell? ⟨gb283,0,none⟩=some (.bool false):=(kC BK283.out 0).trans rfl;have hcz14_1:w12.cell? ⟨gb283,1,none⟩=some (.int .i64 0):=(kC BK283.out 1).trans rfl;have hcz14_2:w12.cell? ⟨gb283,2,none⟩=some (.slice none 0 0):=(kC BK283.out 2).trans rfl;have hcz14_3:w12.cell? ⟨gb283,3,none⟩=some (.slice none 0 0):=(kC BK283.out 3).trans rfl;have hfz14_0:=kF BK283.out 0;have hfz14_1:=kF BK283.out 1;have hfz14_2:=kF BK283.out 2;have hfz14_3:=kF BK283.out 3;have hcz15_0:w12.cell? ⟨gb281,0,none⟩=some (.slice (some ad282) l0_0.length c0_0):=(kC BK281.out 0).trans rfl;have hfz15_0:=kF BK281.out 0)|((with_reducible refine gate_callee (f:=92) rfl ?_);refine goesL_ (some 21) rfl rfl Try.func92 (by kernel_rfl) rfl #[.agg #[.bool ((rd_T34 l0_0 x13_1).f0),.int .i64 ((rd_T34 l0_0 x13_1).f1.f0),.slice A282_2 ((rd_T34 l0_0 x13_1).f1.f1).length c282_2,.slice A282_3 ((rd_T34 l0_0 x13_1).f1.f2).length c282_3],.int .i64 (l0_0.length:Int)] rfl pG ?_;(with_reducible refine (configuration_member.calls k1 ((rd_T34 l0_0 x13_1).f0) ((rd_T34 l0_0 x13_1).f1.f0) _ _ ((rd_T34 l0_0 x13_1).f1.f1) _ _ ((rd_T34 l0_0 x13_1).f1.f2) (l0_0.length:Int) t284 _ ?side1 ?side2 ?side3 ?side4 A10.out).mono ?_);(case side1=>exact Kd.C_below HR282_2.out pB);(case side2=>exact HC282_2.out);(case side3=>exact Kd.C_below HR282_3.out pB);(case side4=>exact HC282_3.out);rintro e w16 ⟨rfl,hb⟩;refine ⟨_,rfl,?_⟩;have n0_:=Z (blk_below (g:=gb281) (o:=.cells #[.slice (some ad282) l0_0.length c0_0] 27 (0,0)) (by (with_reducible repeat (first|refine kN ?_ _|refine kD ?_|refine kA ?_ _));refine blk_far ?_ NB281_283.out _;(with_reducible repeat (first|refine kN ?_ _|refine kD ?_|refine kA ?_ _));refine blk_far ?_ NB281_283.out _;(with_reducible repeat (first|refine kN ?_ _|refine kD ?_|refine kA ?_ _));refine blk_far ?_ NB281_283.out _;(with_reducible repeat (first|refine kN ?_ _|refine kD ?_|refine kA ?_ _));refine blk_far ?_ NB281_283.out _;(with_reducible repeat (first|refine kN ?_ _|refine kD ?_|refine kA ?_ _));exact BK281.out) hb);have n1_:=Z (blk_below (g:=gb283) (o:=.cells #[.bool ((rd_T34 l0_0 x13_1).f0),.int .i64 ((rd_T34 l0_0 x13_1).f1.f0),.slice A282_2 ((rd_T34 l0_0 x13_1).f1.f1).length c282_2,.slice A282_3 ((rd_T34 l0_0 x13_1).f1.f2).length c282_3] 34 (0,0)) (by (with_reducible repeat (first|refine kN ?_ _|refine kD ?_|refine kA ?_ _));refine blk_put (cs:=#[.bool ((rd_T34 l0_0 x13_1).f0),.int .i64 ((rd_T34 l0_0 x13_1).f1.f0),.slice A282_2 ((rd_T34 l0_0 x13_1).f1.f1).length c282_2,.slice none 0 0]) ?_ 3 _ rfl;(with_reducible repeat (first|refine kN ?_ _|refine kD ?_|refine kA ?_ _));refine blk_put (cs:=#[.bool ((rd_T34 l0_0 x13_1).f0),.int .i64 ((rd_T34 l0_0 x13_1).f1.f0),.slice none 0 0,.slice none 0 0]) ?_ 2 _ rfl;(with_reducible repeat (first|refine kN ?_ _|refine kD ?_|refine kA ?_ _));refine blk_put (cs:=#[.bool ((rd_T34 l0_0 x13_1).f0),.int .i64 0,.slice none 0 0,.slice none 0 0]) ?_ 1 _ rfl;(with_reducible repeat (first|refine kN ?_ _|refine kD ?_|refine kA ?_ _));refine blk_put (cs:=#[.bool false,.int .i64 0,.slice none 0 0,.slice none 0 0]) ?_ 0 _ rfl;(with_reducible repeat (first|refine kN ?_ _|refine kD ?_|refine kA ?_ _));exact BK283.out) hb);have n2_:=Z (below_step pB hb);clear BK281;clear BK283;clear HB;have BK281:=n0_;have BK283:=n1_;have HB:=n2_;clear n0_ n1_ n2_;(try clear hb);(try clear hb2);(try clear hk);(try clear hi)))
        go_roundg k1
        case measure=>have:=HK1.out;omega
        case rel=>exact ⟨(wrap64 (x13_1+1)),pE,H',⟨by have:=HK1.out;omega⟩,⟨pK BK281⟩,⟨pB⟩⟩
       ·rw [if_neg c11] at H
        have c11b0:(t284 == 0)=false:=beq_eq_false_iff_ne.mpr c11
        have c11b1:(t284 != 0)=true:=bne_iff_ne.mpr c11
        obtain rfl:=Option.some.inj H
        have p282:0≤(x13_1:Int):=of_decide_eq_true (by first|(with_reducible assumption)|assumption)
        have q282:x13_1 < (l0_0.length:Int):=of_decide_eq_true (by first|(with_reducible assumption)|assumption)
        obtain ⟨ad282,A282_2,c282_2,A282_3,c282_3,e282,hx282_0,hx282_1,hx282_2,hx282_3,hl282_2,hi282_2,hl282_3,hi282_3⟩:=at_T34 HR0_0.out x13_1 p282 q282
        cases e282
        replace hx282_0:=(HB.out.cell (World.block_lt_of_cell? w _ hx282_0)).trans hx282_0
        replace hx282_1:=(HB.out.cell (World.block_lt_of_cell? w _ hx282_1)).trans hx282_1
        replace hx282_2:=(HB.out.cell (World.block_lt_of_cell? w _ hx282_2)).trans hx282_2
        replace hx282_3:=(HB.out.cell (World.block_lt_of_cell? w _ hx282_3)).trans hx282_3
        have HR282_2:=Z hi282_2
        have HC282_2:=Z hl282_2
        clear hi282_2 hl282_2
        have HR282_3:=Z hi282_3
        have HC282_3:=Z hl282_3
        clear hi282_3 hl282_3
        replace p282:=eq_true p282
        replace q282:=eq_true q282
        go_wp2_with (first|((with_reducible refine gate_dst (N:=4) rfl ?_);refine box_event ?hg (N:=4) ?hd (cs:=#[.bool false,.int .i64 0,.slice none 0 0,.slice none 0 0]) (t:=34) ?hr ?_;(case hd=>rfl);(case hg=>rfl);(case hr=>first|(go_simp;done)|(go_simp;rfl));intro gb283 hg w17 hbox hb;have n0_:=Z (blk_below (g:=gb281) (o:=.cells #[.slice (some ad282) l0_0.length c0_0] 27 (0,0)) (pK BK281) hb);have n1_:=Z (below_step pB hb);have n2_:=Z (hbox);have n3_:=Z ((pT hg:w.heap.size≤gb283));have n4_:=Z ((pT hg:w.heap.size≤gb283));have n5_:=Z ((pL hg (pK BK281):gb281 ≠ gb283));have n6_:=Z ((pM hg (pK BK281):gb283 ≠ gb281));clear BK281;clear HB;have BK281:=n0_;have HB:=n1_;have BK283:=n2_;have GW283:=n3_;have GE283:=n4_;have NB281_283:=n5_;have NB283_281:=n6_;clear n0_ n1_ n2_ n3_ n4_ n5_ n6_;clear hb hbox hg;have hnb18:=NB283_281.out;have hnc18:=NB281_283.out;have hcz19_0:w17.cell? ⟨gb283,0,none⟩=some (.bool false):=(kC BK283.out 0).trans rfl;have hcz19_1:w17.cell? ⟨gb283,1,none⟩=some (.int .i64 0):=(kC BK283.out 1).trans rfl;have hcz19_2:w17.cell? ⟨gb283,2,none⟩=some (.slice none 0 0):=(kC BK283.out 2).trans rfl;have hcz19_3:w17.cell? ⟨gb283,3,none⟩=some (.slice none 0 0):=(kC BK283.out 3).trans rfl;have hfz19_0:=kF BK283.out 0;have hfz19_1:=kF BK283.out 1;have hfz19_2:=kF BK283.out 2;have hfz19_3:=kF BK283.out 3;have hcz20_0:w17.cell? ⟨gb281,0,none⟩=some (.slice (some ad282) l0_0.length c0_0):=(kC BK281.out 0).trans rfl;have hfz20_0:=kF BK281.out 0)|((with_reducible refine gate_callee (f:=92) rfl ?_);refine goesL_ (some 21) rfl rfl Try.func92 (by kernel_rfl) rfl #[.agg #[.bool ((rd_T34 l0_0 x13_1).f0),.int .i64 ((rd_T34 l0_0 x13_1).f1.f0),.slice A282_2 ((rd_T34 l0_0 x13_1).f1.f1).length c282_2,.slice A282_3 ((rd_T34 l0_0 x13_1).f1.f2).length c282_3],.int .i64 (l0_0.length:Int)] rfl pG ?_;(with_reducible refine (configuration_member.calls k1 ((rd_T34 l0_0 x13_1).f0) ((rd_T34 l0_0 x13_1).f1.f0) _ _ ((rd_T34 l0_0 x13_1).f1.f1) _ _ ((rd_T34 l0_0 x13_1).f1.f2) (l0_0.length:Int) t284 _ ?side1 ?side2 ?side3 ?side4 A10.out).mono ?_);(case side1=>exact Kd.C_below HR282_2.out pB);(case side2=>exact HC282_2.out);(case side3=>exact Kd.C_below HR282_3.out pB);(case side4=>exact HC282_3.out);rintro e w21 ⟨rfl,hb⟩;refine ⟨_,rfl,?_⟩;have n0_:=Z (blk_below (g:=gb281) (o:=.cells #[.slice (some ad282) l0_0.length c0_0] 27 (0,0)) (by (with_reducible repeat (first|refine kN ?_ _|refine kD ?_|refine kA ?_ _));refine blk_far ?_ NB281_283.out _;(with_reducible repeat (first|refine kN ?_ _|refine kD ?_|refine kA ?_ _));refine blk_far ?_ NB281_283.out _;(with_reducible repeat (first|refine kN ?_ _|refine kD ?_|refine kA ?_ _));refine blk_far ?_ NB281_283.out _;(with_reducible repeat (first|refine kN ?_ _|refine kD ?_|refine kA ?_ _));refine blk_far ?_ NB281_283.out _;(with_reducible repeat (first|refine kN ?_ _|refine kD ?_|refine kA ?_ _));exact BK281.out) hb);have n1_:=Z (blk_below (g:=gb283) (o:=.cells #[.bool ((rd_T34 l0_0 x13_1).f0),.int .i64 ((rd_T34 l0_0 x13_1).f1.f0),.slice A282_2 ((rd_T34 l0_0 x13_1).f1.f1).length c282_2,.slice A282_3 ((rd_T34 l0_0 x13_1).f1.f2).length c282_3] 34 (0,0)) (by (with_reducible repeat (first|refine kN ?_ _|refine kD ?_|refine kA ?_ _));refine blk_put (cs:=#[.bool ((rd_T34 l0_0 x13_1).f0),.int .i64 ((rd_T34 l0_0 x13_1).f1.f0),.slice A282_2 ((rd_T34 l0_0 x13_1).f1.f1).length c282_2,.slice none 0 0]) ?_ 3 _ rfl;(with_reducible repeat (first|refine kN ?_ _|refine kD ?_|refine kA ?_ _));refine blk_put (cs:=#[.bool ((rd_T34 l0_0 x13_1).f0),.int .i64 ((rd_T34 l0_0 x13_1).f1.f0),.slice none 0 0,.slice none 0 0]) ?_ 2 _ rfl;(with_reducible repeat (first|refine kN ?_ _|refine kD ?_|refine kA ?_ _));refine blk_put (cs:=#[.bool ((rd_T34 l0_0 x13_1).f0),.int .i64 0,.slice none 0 0,.slice none 0 0]) ?_ 1 _ rfl;(with_reducible repeat (first|refine kN ?_ _|refine kD ?_|refine kA ?_ _));refine blk_put (cs:=#[.bool false,.int .i64 0,.slice none 0 0,.slice none 0 0]) ?_ 0 _ rfl;(with_reducible repeat (first|refine kN ?_ _|refine kD ?_|refine kA ?_ _));exact BK283.out) hb);have n2_:=Z (below_step pB hb);clear BK281;clear BK283;clear HB;have BK281:=n0_;have BK283:=n1_;have HB:=n2_;clear n0_ n1_ n2_;(try clear hb);(try clear hb2);(try clear hk);(try clear hi)))
        go_ret
        exact ⟨pF,pB⟩
      ·rw [if_neg c9] at H
       exact absurd H (by simp)
     ·rw [if_neg c8] at H
      exact absurd H (by simp)
    ·rw [if_neg c7] at H
     have c7b0:decide (x13_1 < (l0_0.length:Int))=false:=decide_eq_false c7
     clear c7
     obtain rfl:=Option.some.inj H
     go_wp2
     go_ret
     exact ⟨pF,pB⟩
def danger_small.f (k:Nat) (l0_0:List (S34)):Option (Int):=(configuration_Valid.f k l0_0).bind fun t849=>(if t849=0 then (if (l0_0.length:Int) > 7 then (some 3) else (some 0)) else (some t849))
set_option maxHeartbeats 8000000 in
set_option maxRecDepth 100000 in
theorem danger_small.calls (k:Nat) (A0_0:Option Addr) (c0_0:Nat) (l0_0:List (S34)) (r:Int) (w:World) (hr0_0:Kd.C k34 w A0_0 l0_0.length l0_0) (hc0_0:l0_0.length≤c0_0) (h:danger_small.f k l0_0=some r) :
  Calls Try.prog 80 #[.agg #[.slice A0_0 l0_0.length c0_0]] w fun e w'=>e=.returned (.int .i64 r)∧Below w.heap.size w w':=by
 have hu27:=Try.underlying27
 have HR0_0:=Z hr0_0
 have HC0_0:=Z hc0_0
 clear hr0_0 hc0_0
 have HB:=Z (Below.refl w.heap.size w)
 have H:((configuration_Valid.f k l0_0).bind fun t849=>(if t849=0 then (if (l0_0.length:Int) > 7 then (some 3) else (some 0)) else (some t849)))=some r:=h
 clear h
 replace H:=Option.bind_eq_some_iff.mp H
 obtain ⟨t849,A20,H⟩:=H
 try dsimp only at H
 have A2:=Z A20
 clear A20
 by_cases c3:t849=0
 ·rw [if_pos c3] at H
  have c3b0:(t849 == 0)=true:=beq_iff_eq.mpr c3
  have c3b1:(t849 != 0)=false:=bne_eq_false_iff_eq.mpr c3
  clear c3
  by_cases c4:(l0_0.length:Int) > 7
  ·rw [if_pos c4] at H
   have c4b0:decide (7 < (l0_0.length:Int))=true:=decide_eq_true c4
   have c4b1:decide (7 < l0_0.length)=true:=decide_eq_true (by omega)
   clear c4
   obtain rfl:=Option.some.inj H
   go_enter Try.func80,Try.ntmps80
   go_wp2_with (first|((with_reducible refine gate_dst (N:=1) rfl ?_);refine box_event ?hg (N:=1) ?hd (cs:=#[.slice A0_0 l0_0.length c0_0]) (t:=27) ?hr ?_;(case hd=>rfl);(case hg=>rfl);(case hr=>first|(go_simp;done)|(go_simp;rfl));intro gb848 hg w5 hbox hb;have n0_:=Z (below_step pB hb);have n1_:=Z (hbox);have n2_:=Z ((pT hg:w.heap.size≤gb848));have n3_:=Z ((pT hg:w.heap.size≤gb848));clear HB;have HB:=n0_;have BK848:=n1_;have GW848:=n2_;have GE848:=n3_;clear n0_ n1_ n2_ n3_;clear hb hbox hg;have hcz6_0:w5.cell? ⟨gb848,0,none⟩=some (.slice A0_0 l0_0.length c0_0):=(kC BK848.out 0).trans rfl;have hfz6_0:=kF BK848.out 0)|((with_reducible refine gate_callee (f:=63) rfl ?_);refine goesL_ (some 5) rfl rfl Try.func63 (by kernel_rfl) rfl #[.agg #[.slice A0_0 l0_0.length c0_0]] rfl pG ?_;(with_reducible refine (configuration_Valid.calls k _ _ l0_0 t849 _ ?side1 ?side2 A2.out).mono ?_);(case side1=>repeat (first|exact (Kd.C_below HR0_0.out HB.out)|(with_reducible refine Kd.C_alloc ?_ _)|(with_reducible refine Kd.C_drewN ?_ _)|(with_reducible refine Kd.C_drew ?_)));(case side2=>exact HC0_0.out);rintro e w7 ⟨rfl,hb⟩;refine ⟨_,rfl,?_⟩;have n0_:=Z (blk_below (g:=gb848) (o:=.cells #[.slice A0_0 l0_0.length c0_0] 27 (0,0)) (pK BK848) hb);have n1_:=Z (below_step pB hb);clear BK848;clear HB;have BK848:=n0_;have HB:=n1_;clear n0_ n1_;(try clear hb);(try clear hb2);(try clear hk);(try clear hi);have hcz8_0:w7.cell? ⟨gb848,0,none⟩=some (.slice A0_0 l0_0.length c0_0):=(kC BK848.out 0).trans rfl;have hfz8_0:=kF BK848.out 0))
   go_ret
   exact ⟨pF,pB⟩
  ·rw [if_neg c4] at H
   have c4b0:decide (7 < (l0_0.length:Int))=false:=decide_eq_false c4
   have c4b1:decide (7 < l0_0.length)=false:=decide_eq_false (by omega)
   clear c4
   obtain rfl:=Option.some.inj H
   go_enter Try.func80,Try.ntmps80
   go_wp2_with (first|((with_reducible refine gate_dst (N:=1) rfl ?_);refine box_event ?hg (N:=1) ?hd (cs:=#[.slice A0_0 l0_0.length c0_0]) (t:=27) ?hr ?_;(case hd=>rfl);(case hg=>rfl);(case hr=>first|(go_simp;done)|(go_simp;rfl));intro gb848 hg w9 hbox hb;have n0_:=Z (below_step pB hb);have n1_:=Z (hbox);have n2_:=Z ((pT hg:w.heap.size≤gb848));have n3_:=Z ((pT hg:w.heap.size≤gb848));clear HB;have HB:=n0_;have BK848:=n1_;have GW848:=n2_;have GE848:=n3_;clear n0_ n1_ n2_ n3_;clear hb hbox hg;have hcz10_0:w9.cell? ⟨gb848,0,none⟩=some (.slice A0_0 l0_0.length c0_0):=(kC BK848.out 0).trans rfl;have hfz10_0:=kF BK848.out 0)|((with_reducible refine gate_callee (f:=63) rfl ?_);refine goesL_ (some 5) rfl rfl Try.func63 (by kernel_rfl) rfl #[.agg #[.slice A0_0 l0_0.length c0_0]] rfl pG ?_;(with_reducible refine (configuration_Valid.calls k _ _ l0_0 t849 _ ?side1 ?side2 A2.out).mono ?_);(case side1=>repeat (first|exact (Kd.C_below HR0_0.out HB.out)|(with_reducible refine Kd.C_alloc ?_ _)|(with_reducible refine Kd.C_drewN ?_ _)|(with_reducible refine Kd.C_drew ?_)));(case side2=>exact HC0_0.out);rintro e w11 ⟨rfl,hb⟩;refine ⟨_,rfl,?_⟩;have n0_:=Z (blk_below (g:=gb848) (o:=.cells #[.slice A0_0 l0_0.length c0_0] 27 (0,0)) (pK BK848) hb);have n1_:=Z (below_step pB hb);clear BK848;clear HB;have BK848:=n0_;have HB:=n1_;clear n0_ n1_;(try clear hb);(try clear hb2);(try clear hk);(try clear hi);have hcz12_0:w11.cell? ⟨gb848,0,none⟩=some (.slice A0_0 l0_0.length c0_0):=(kC BK848.out 0).trans rfl;have hfz12_0:=kF BK848.out 0))
   go_ret
   exact ⟨pF,pB⟩
 ·rw [if_neg c3] at H
  have c3b0:(t849 == 0)=false:=beq_eq_false_iff_ne.mpr c3
  have c3b1:(t849 != 0)=true:=bne_iff_ne.mpr c3
  obtain rfl:=Option.some.inj H
  go_enter Try.func80,Try.ntmps80
  go_wp2_with (first|((with_reducible refine gate_dst (N:=1) rfl ?_);refine box_event ?hg (N:=1) ?hd (cs:=#[.slice A0_0 l0_0.length c0_0]) (t:=27) ?hr ?_;(case hd=>rfl);(case hg=>rfl);(case hr=>first|(go_simp;done)|(go_simp;rfl));intro gb848 hg w13 hbox hb;have n0_:=Z (below_step pB hb);have n1_:=Z (hbox);have n2_:=Z ((pT hg:w.heap.size≤gb848));have n3_:=Z ((pT hg:w.heap.size≤gb848));clear HB;have HB:=n0_;have BK848:=n1_;have GW848:=n2_;have GE848:=n3_;clear n0_ n1_ n2_ n3_;clear hb hbox hg;have hcz14_0:w13.cell? ⟨gb848,0,none⟩=some (.slice A0_0 l0_0.length c0_0):=(kC BK848.out 0).trans rfl;have hfz14_0:=kF BK848.out 0)|((with_reducible refine gate_callee (f:=63) rfl ?_);refine goesL_ (some 5) rfl rfl Try.func63 (by kernel_rfl) rfl #[.agg #[.slice A0_0 l0_0.length c0_0]] rfl pG ?_;(with_reducible refine (configuration_Valid.calls k _ _ l0_0 t849 _ ?side1 ?side2 A2.out).mono ?_);(case side1=>repeat (first|exact (Kd.C_below HR0_0.out HB.out)|(with_reducible refine Kd.C_alloc ?_ _)|(with_reducible refine Kd.C_drewN ?_ _)|(with_reducible refine Kd.C_drew ?_)));(case side2=>exact HC0_0.out);rintro e w15 ⟨rfl,hb⟩;refine ⟨_,rfl,?_⟩;have n0_:=Z (blk_below (g:=gb848) (o:=.cells #[.slice A0_0 l0_0.length c0_0] 27 (0,0)) (pK BK848) hb);have n1_:=Z (below_step pB hb);clear BK848;clear HB;have BK848:=n0_;have HB:=n1_;clear n0_ n1_;(try clear hb);(try clear hb2);(try clear hk);(try clear hi)))
  go_ret
  exact ⟨pF,pB⟩
def intersection_Holds.f (k:Nat) (l0_0:List (S34)):Option (Bool × Int):=(configuration_Valid.f k l0_0).bind fun t878=>(if t878=0 then ((intersection_find.f k l0_0).bind fun bt879=>(some ((bt879.1 == 0),0))) else (some (false,t878)))
set_option maxHeartbeats 8000000 in
set_option maxRecDepth 100000 in
theorem intersection_Holds.calls (k:Nat) (A0_0:Option Addr) (c0_0:Nat) (l0_0:List (S34)) (r1:Bool) (r2:Int) (w:World) (hr0_0:Kd.C k34 w A0_0 l0_0.length l0_0) (hc0_0:l0_0.length≤c0_0) (h:intersection_Holds.f k l0_0=some (r1,r2)) :
  Calls Try.prog 105 #[.agg #[.slice A0_0 l0_0.length c0_0]] w fun e w'=>e=.returned (.tuple #[.bool r1,.int .i64 r2])∧Below w.heap.size w w':=by
 have hu27:=Try.underlying27
 have HR0_0:=Z hr0_0
 have HC0_0:=Z hc0_0
 clear hr0_0 hc0_0
 have HB:=Z (Below.refl w.heap.size w)
 have H:((configuration_Valid.f k l0_0).bind fun t878=>(if t878=0 then ((intersection_find.f k l0_0).bind fun bt879=>(some ((bt879.1 == 0),0))) else (some (false,t878))))=some (r1,r2):=h
 clear h
 replace H:=Option.bind_eq_some_iff.mp H
 obtain ⟨t878,A20,H⟩:=H
 try dsimp only at H
 have A2:=Z A20
 clear A20
 by_cases c3:t878=0
 ·rw [if_pos c3] at H
  have c3b0:(t878 == 0)=true:=beq_iff_eq.mpr c3
  have c3b1:(t878 != 0)=false:=bne_eq_false_iff_eq.mpr c3
  clear c3
  replace H:=Option.bind_eq_some_iff.mp H
  obtain ⟨⟨t879,t880⟩,A40,H⟩:=H
  try dsimp only at H
  have A4:=Z A40
  clear A40
  simp only [Option.some.injEq,Prod.mk.injEq] at H
  obtain ⟨rfl,rfl⟩:=H
  go_enter Try.func105,Try.ntmps105
  go_wp2_with (first|((with_reducible refine gate_dst (N:=1) rfl ?_);refine box_event ?hg (N:=1) ?hd (cs:=#[.slice A0_0 l0_0.length c0_0]) (t:=27) ?hr ?_;(case hd=>rfl);(case hg=>rfl);(case hr=>first|(go_simp;done)|(go_simp;rfl));intro gb877 hg w5 hbox hb;have n0_:=Z (below_step pB hb);have n1_:=Z (hbox);have n2_:=Z ((pT hg:w.heap.size≤gb877));have n3_:=Z ((pT hg:w.heap.size≤gb877));clear HB;have HB:=n0_;have BK877:=n1_;have GW877:=n2_;have GE877:=n3_;clear n0_ n1_ n2_ n3_;clear hb hbox hg;have hcz6_0:w5.cell? ⟨gb877,0,none⟩=some (.slice A0_0 l0_0.length c0_0):=(kC BK877.out 0).trans rfl;have hfz6_0:=kF BK877.out 0)|((with_reducible refine gate_callee (f:=63) rfl ?_);refine goesL_ (some 8) rfl rfl Try.func63 (by kernel_rfl) rfl #[.agg #[.slice A0_0 l0_0.length c0_0]] rfl pG ?_;(with_reducible refine (configuration_Valid.calls k _ _ l0_0 t878 _ ?side1 ?side2 A2.out).mono ?_);(case side1=>repeat (first|exact (Kd.C_below HR0_0.out HB.out)|(with_reducible refine Kd.C_alloc ?_ _)|(with_reducible refine Kd.C_drewN ?_ _)|(with_reducible refine Kd.C_drew ?_)));(case side2=>exact HC0_0.out);rintro e w7 ⟨rfl,hb⟩;refine ⟨_,rfl,?_⟩;have n0_:=Z (blk_below (g:=gb877) (o:=.cells #[.slice A0_0 l0_0.length c0_0] 27 (0,0)) (pK BK877) hb);have n1_:=Z (below_step pB hb);clear BK877;clear HB;have BK877:=n0_;have HB:=n1_;clear n0_ n1_;(try clear hb);(try clear hb2);(try clear hk);(try clear hi);have hcz8_0:w7.cell? ⟨gb877,0,none⟩=some (.slice A0_0 l0_0.length c0_0):=(kC BK877.out 0).trans rfl;have hfz8_0:=kF BK877.out 0)|((with_reducible refine gate_callee (f:=121) rfl ?_);refine goesL_ (some 14) rfl rfl Try.func121 (by kernel_rfl) rfl #[.agg #[.slice A0_0 l0_0.length c0_0]] rfl pG ?_;(with_reducible refine (intersection_find.calls k _ _ l0_0 t879 t880 _ ?side1 ?side2 A4.out).mono ?_);(case side1=>repeat (first|exact (Kd.C_below HR0_0.out HB.out)|(with_reducible refine Kd.C_alloc ?_ _)|(with_reducible refine Kd.C_drewN ?_ _)|(with_reducible refine Kd.C_drew ?_)));(case side2=>exact HC0_0.out);rintro e w9 ⟨rfl,hb⟩;refine ⟨_,rfl,?_⟩;have n0_:=Z (blk_below (g:=gb877) (o:=.cells #[.slice A0_0 l0_0.length c0_0] 27 (0,0)) (pK BK877) hb);have n1_:=Z (below_step pB hb);clear BK877;clear HB;have BK877:=n0_;have HB:=n1_;clear n0_ n1_;(try clear hb);(try clear hb2);(try clear hk);(try clear hi)))
  go_ret2
  exact ⟨pF,pB⟩
 ·rw [if_neg c3] at H
  have c3b0:(t878 == 0)=false:=beq_eq_false_iff_ne.mpr c3
  have c3b1:(t878 != 0)=true:=bne_iff_ne.mpr c3
  simp only [Option.some.injEq,Prod.mk.injEq] at H
  obtain ⟨rfl,rfl⟩:=H
  go_enter Try.func105,Try.ntmps105
  go_wp2_with (first|((with_reducible refine gate_dst (N:=1) rfl ?_);refine box_event ?hg (N:=1) ?hd (cs:=#[.slice A0_0 l0_0.length c0_0]) (t:=27) ?hr ?_;(case hd=>rfl);(case hg=>rfl);(case hr=>first|(go_simp;done)|(go_simp;rfl));intro gb877 hg w10 hbox hb;have n0_:=Z (below_step pB hb);have n1_:=Z (hbox);have n2_:=Z ((pT hg:w.heap.size≤gb877));have n3_:=Z ((pT hg:w.heap.size≤gb877));clear HB;have HB:=n0_;have BK877:=n1_;have GW877:=n2_;have GE877:=n3_;clear n0_ n1_ n2_ n3_;clear hb hbox hg;have hcz11_0:w10.cell? ⟨gb877,0,none⟩=some (.slice A0_0 l0_0.length c0_0):=(kC BK877.out 0).trans rfl;have hfz11_0:=kF BK877.out 0)|((with_reducible refine gate_callee (f:=63) rfl ?_);refine goesL_ (some 8) rfl rfl Try.func63 (by kernel_rfl) rfl #[.agg #[.slice A0_0 l0_0.length c0_0]] rfl pG ?_;(with_reducible refine (configuration_Valid.calls k _ _ l0_0 t878 _ ?side1 ?side2 A2.out).mono ?_);(case side1=>repeat (first|exact (Kd.C_below HR0_0.out HB.out)|(with_reducible refine Kd.C_alloc ?_ _)|(with_reducible refine Kd.C_drewN ?_ _)|(with_reducible refine Kd.C_drew ?_)));(case side2=>exact HC0_0.out);rintro e w12 ⟨rfl,hb⟩;refine ⟨_,rfl,?_⟩;have n0_:=Z (blk_below (g:=gb877) (o:=.cells #[.slice A0_0 l0_0.length c0_0] 27 (0,0)) (pK BK877) hb);have n1_:=Z (below_step pB hb);clear BK877;clear HB;have BK877:=n0_;have HB:=n1_;clear n0_ n1_;(try clear hb);(try clear hb2);(try clear hk);(try clear hi)))
  go_ret2
  exact ⟨pF,pB⟩
def danger_splits.f (k:Nat) (l0_0:List (S34)) (a1:Int):Option (Bool):=(deletion_Delete.f k l0_0 a1).bind fun t954=>((intersection_Holds.f k t954).bind fun bt957=>(some (!bt957.1)))
set_option maxHeartbeats 8000000 in
set_option maxRecDepth 100000 in
theorem danger_splits.calls (k:Nat) (A0_0:Option Addr) (c0_0:Nat) (l0_0:List (S34)) (a1:Int) (r:Bool) (w:World) (hr0_0:Kd.C k34 w A0_0 l0_0.length l0_0) (hc0_0:l0_0.length≤c0_0) (h:danger_splits.f k l0_0 a1=some r) :
  Calls Try.prog 82 #[.agg #[.slice A0_0 l0_0.length c0_0],.int .i64 a1] w fun e w'=>e=.returned (.bool r)∧Below w.heap.size w w':=by
 have hu27:=Try.underlying27
 have HR0_0:=Z hr0_0
 have HC0_0:=Z hc0_0
 clear hr0_0 hc0_0
 have HB:=Z (Below.refl w.heap.size w)
 have H:((deletion_Delete.f k l0_0 a1).bind fun t954=>((intersection_Holds.f k t954).bind fun bt957=>(some (!bt957.1))))=some r:=h
 clear h
 replace H:=Option.bind_eq_some_iff.mp H
 obtain ⟨t954,A30,H⟩:=H
 try dsimp only at H
 have A3:=Z A30
 clear A30
 replace H:=Option.bind_eq_some_iff.mp H
 obtain ⟨⟨t957,t958⟩,A40,H⟩:=H
 try dsimp only at H
 have A4:=Z A40
 clear A40
 obtain rfl:=Option.some.inj H
 go_enter Try.func82,Try.ntmps82
 go_wp2_with (first|((with_reducible refine gate_dst (N:=2) rfl ?_);refine box_event ?hg (N:=2) ?hd (cs:=#[.slice A0_0 l0_0.length c0_0]) (t:=27) ?hr ?_;(case hd=>rfl);(case hg=>rfl);(case hr=>first|(go_simp;done)|(go_simp;rfl));intro gb953 hg w5 hbox hb;have n0_:=Z (below_step pB hb);have n1_:=Z (hbox);have n2_:=Z ((pT hg:w.heap.size≤gb953));have n3_:=Z ((pT hg:w.heap.size≤gb953));clear HB;have HB:=n0_;have BK953:=n1_;have GW953:=n2_;have GE953:=n3_;clear n0_ n1_ n2_ n3_;clear hb hbox hg;have hcz6_0:w5.cell? ⟨gb953,0,none⟩=some (.slice A0_0 l0_0.length c0_0):=(kC BK953.out 0).trans rfl;have hfz6_0:=kF BK953.out 0)|((with_reducible refine gate_callee (f:=106) rfl ?_);refine goesL_ (some 10) rfl rfl Try.func106 (by kernel_rfl) rfl #[.agg #[.slice A0_0 l0_0.length c0_0],.int .i64 a1] rfl pG ?_;(with_reducible refine (deletion_Delete.calls k _ _ l0_0 a1 t954 _ ?side1 ?side2 A3.out).mono ?_);(case side1=>repeat (first|exact (Kd.C_below HR0_0.out HB.out)|(with_reducible refine Kd.C_alloc ?_ _)|(with_reducible refine Kd.C_drewN ?_ _)|(with_reducible refine Kd.C_drew ?_)));(case side2=>exact HC0_0.out);rintro e w7 ⟨v955,rfl,ho0,hb⟩;refine ⟨_,rfl,?_⟩;have n0_:=Z (Kd.R_lower ho0 (below_size pB));have n1_:=Z (blk_below (g:=gb953) (o:=.cells #[.slice A0_0 l0_0.length c0_0] 27 (0,0)) (pK BK953) hb);have n2_:=Z (below_step pB hb);clear BK953;clear HB;have HO956:=n0_;have BK953:=n1_;have HB:=n2_;clear n0_ n1_ n2_;(try clear hb);(try clear hb2);(try clear hk);(try clear hi);(try clear ho0);obtain ⟨Ao8,co8,eo8⟩:=Kd.R_slice HO956.out;subst eo8)|((with_reducible refine gate_callee (f:=105) rfl ?_);refine goesL_ (some 11) rfl rfl Try.func105 (by kernel_rfl) rfl #[.agg #[.slice Ao8 t954.length co8]] rfl pG ?_;(with_reducible refine (intersection_Holds.calls k _ _ t954 t957 t958 _ ?side1 ?side2 A4.out).mono ?_);(case side1=>repeat (first|exact (Kd.R_reads' HO956.out).2.2|(with_reducible refine Kd.C_alloc ?_ _)|(with_reducible refine Kd.C_drewN ?_ _)|(with_reducible refine Kd.C_drew ?_)));(case side2=>exact (Kd.R_reads' HO956.out).2.1);rintro e w9 ⟨rfl,hb⟩;refine ⟨_,rfl,?_⟩;have n0_:=Z (Kd.R_below (pR HO956) hb);have n1_:=Z (blk_below (g:=gb953) (o:=.cells #[.slice A0_0 l0_0.length c0_0] 27 (0,0)) (pK BK953) hb);have n2_:=Z (below_step pB hb);clear HO956;clear BK953;clear HB;have HO956:=n0_;have BK953:=n1_;have HB:=n2_;clear n0_ n1_ n2_;(try clear hb);(try clear hb2);(try clear hk);(try clear hi)))
 go_ret
 exact ⟨pF,pB⟩
end Go.Proofs.Ytkjlcbfjllpcnaa.X
namespace Go.Proofs.Ytkjlcbfjllpcnaa.X
open Go.RowKit Go.Lib Go.Sort Go.Proofs.YtkjlcbfjllpcnaaW.PrintWords Go.Proofs.YtkjlcbfjllpcnaaW.PrintLast Go.Proofs.YtkjlcbfjllpcnaaW.PrintMore
set_option linter.unusedVariables false
theorem C_lit (W:World) (xs:List Int) (hm:xs.length≤9223372036854775807):(Kd.int .i64).C (W.alloc (.cells (nums .i64 xs).toArray 3)) (some ⟨W.heap.size,0,none⟩) xs.length xs:=by
 obtain ⟨A,c,hv,hr⟩:=own_reads (own_lit W 0 3 .i64 xs (Nat.zero_le _) hm)
 injection hv with hA hn hc
 subst hA
 exact Kd.C_of_reads (d:=(0:Int)) (h1:=fun _=>rfl) hr
theorem rank_calls (a:Int) (w:World):Calls Try.prog 116 #[.int .i64 a] w fun e w'=>e=.returned (.int .i64 (rank a))∧Drawn0 w w':=nodeset_rank.calls a (rank a) w (rank_eq a)
theorem cmpI_calls (a b:Int) (w:World):Calls Try.prog 115 #[.int .i64 a,.int .i64 b] w fun e w'=>e=.returned (.int .i64 (cmpI a b))∧Drawn0 w w':=cmp_Compare_int.calls a b (cmpI a b) w (cmpI_eq a b)
theorem alloc_grow (W:World) (a b:Nat) (o:Obj):((W.drewN a).alloc o).drewN b=grow (W.drewN (a+b)) #[o]:=by
 simp [grow,World.alloc,World.drewN,Nat.add_assoc]
theorem compare_grow (x y : Int) (W : World) : Calls Try.prog 94 #[.int .i64 x, .int .i64 y] W fun e w' => e = .returned (.int .i64 (cmpS x y)) ∧ ∃ q os', w' = grow (W.drewN q) os' := by
  go_enter Try.func94, Try.ntmps94
  go_wp2_with (first
    | (go_at_call 116; refine (rank_calls _ _).mono ?_; rintro e w' ⟨rfl, ⟨nd, rfl⟩⟩)
    | (go_at_call 115; refine (cmpI_calls _ _ _).mono ?_; rintro e w' ⟨rfl, ⟨nd, rfl⟩⟩)
    | (go_at_call 114; refine (cmp_Or_int.calls 4 _ 2 [_, _] _ _ (C_lit _ [_, _] (by simp)) (by simp) (or2_eq _ _)).mono ?_; rintro e w' ⟨rfl, ⟨nd, rfl⟩⟩))
  go_ret
  exact ⟨rfl, _, #[_], alloc_grow _ _ _ _⟩
abbrev RI (w:World) (base:Nat) (ok:Nat→Prop) (v:Value) (xs:List Int):Prop:=(Kd.int .i64).R 3 w base ok v xs
theorem take1 {α:Type} {l:List α} {j:Nat} (h:j < l.length):(l.drop j).take 1=[l[j]]:=by rw [List.drop_eq_getElem_cons h];rfl
theorem reps_ints {w:World} {base:Nat} {ok:Nat→Prop} (xs:List Int):Reps ((Kd.int .i64).M w base ok) 1 xs (xs.map (Value.int .i64)):=by
 refine ⟨by simp,fun j p hj=>?_⟩
 obtain ⟨hl,rfl⟩:=List.getElem?_eq_some_iff.1 hj
 show List.take 1 (List.drop (j * 1) _)=[_]
 rw [Nat.mul_one,take1 (by simpa using hl)]
 simp
theorem ints_reps {w:World} {base:Nat} {ok:Nat→Prop} {xs:List Int} {cs:List Value} (h:Reps ((Kd.int .i64).M w base ok) 1 xs cs):cs=xs.map (Value.int .i64):=by
 obtain ⟨hl,h2⟩:=h
 apply List.ext_getElem (by simpa using hl)
 intro j h3 h4
 have h5:j < xs.length:=by simpa using h4
 have h6:(cs.drop (j * 1)).take 1=[.int .i64 xs[j]]:=h2 j xs[j] (List.getElem?_eq_getElem h5)
 rw [Nat.mul_one,take1 h3] at h6
 simpa using h6
theorem R_of_own {w:World} {base:Nat} {ok:Nat→Prop} {v:Value} {xs:List Int} (hok:∀ k,v.ownBlock=some k→ok k) (h:w.ownsRow base 3 1 v xs.length (xs.map (Value.int .i64))):RI w base ok v xs :=
 ⟨hok,_,h,reps_ints xs⟩
theorem own_of_R {w:World} {base:Nat} {ok:Nat→Prop} {v:Value} {xs:List Int} (h:RI w base ok v xs):w.ownsRow base 3 1 v xs.length (xs.map (Value.int .i64)):=by
 obtain ⟨_,inner,ho,hr⟩:=h
 rw [ints_reps hr] at ho
 exact ho
theorem cmpI_neg {a b:Int}:cmpI a b < 0 ↔ a < b:=by unfold cmpI;split <;> (try split) <;> omega
theorem cmpI_zero {a b:Int}:cmpI a b=0 ↔ a=b:=by unfold cmpI;split <;> (try split) <;> omega
def ltS (x y:Int):Prop:=rank x < rank y ∨ (rank x=rank y∧x < y)
theorem cmpS_neg {x y:Int}:cmpS x y < 0 ↔ ltS x y:=by
 unfold cmpS orI ltS
 split
 ·rename_i h;rw [cmpI_zero] at h;rw [cmpI_neg];omega
 ·rename_i h;rw [cmpI_neg];rw [cmpI_zero] at h;omega
theorem ltOf_iff {x y:Int}:ltOf cmpS x y=true ↔ ltS x y:=by simp [ltOf,cmpS_neg]
theorem ltOf_not {x y:Int}:ltOf cmpS x y=false ↔ ¬ ltS x y:=by rw [← ltOf_iff];simp
theorem ltS_swo:SWO (ltOf cmpS) where
 irrefl x:=by rw [ltOf_not];unfold ltS;omega
 trans x y z h1 h2:=by rw [ltOf_iff] at *;unfold ltS at *;omega
 ntrans x y z h1 h2:=by rw [ltOf_not] at *;unfold ltS at *;omega
theorem ltS_total (x y:Int) (h1:ltOf cmpS x y=false) (h2:ltOf cmpS y x=false):x=y:=by rw [ltOf_not] at *;unfold ltS at *;omega
def sortS (l:List Int):List Int:=l.mergeSort fun x y=>!(ltOf cmpS) y x
theorem sortS_length (l:List Int):(sortS l).length=l.length:=by simp [sortS]
theorem sort_row {w:World} {base:Nat} {ok:Nat→Prop} {v:Value} {l:List Int} (h:RI w base ok v l) (hl:l.length < 4611686018427387904) :
  Calls Try.prog 93 #[v,.func (.func 94) #[] #[]] w fun e w'=>e=.returned (.tuple #[])∧RI w' base ok v (sortS l)∧w.grownBy w' v.ownBlock:=by
 have ho:=own_of_R h
 rcases Nat.eq_zero_or_pos l.length with h0|h0
 ·obtain rfl:=List.eq_nil_of_length_eq_zero h0
  obtain ⟨A,c,rfl⟩:=own_slice ho
  refine (Try.slices_SortFunc_none (α:=Int) A c _ w).mono ?_
  rintro e w' ⟨rfl,rfl⟩
  exact ⟨rfl,by simpa [sortS] using h,grown_of_below (Below.refl _ _) _⟩
 ·rcases ho.2 with ⟨_,h1⟩|⟨g,cap,cur,rfl,hb,hh,h1,h2,h3,h4⟩
  ·omega
  ·have hH:=holds_of_blockI hh (by simpa using h4)
   refine (Try.slices_SortFunc_total (Value.int .i64) (fun _=>rfl) cmpS ltS_swo 94 #[] g 0 cap l.toArray w (enters_of Try.func94 (by kernel_rfl) rfl) (fun m os dk _ x y=>by simpa using compare_grow x y _) hH (Array.getElem?_eq_some_iff.1 hh).1 (by simpa using hl) ltS_total).mono ?_
   rintro e w' ⟨rfl,n,os,rfl⟩
   have hs:=sortS_length l
   refine ⟨rfl,R_of_own h.1 ?_,grownBy_sortedI _⟩
   rw [hs]
   exact ownsRow_sortedI hs hb hh h1 h2 h3
theorem clone_row {w:World} {A:Option Addr} {c:Nat} {l:List Int} (hr:Kd.C (Kd.int .i64) w A l.length l) (hl:l.length≤17592186044416) :
  Calls Try.prog 97 #[.slice A l.length c] w fun e w'=>∃ v,e=.returned v∧RI w' w.heap.size (fun _=>True) v l∧Below w.heap.size w w':=by
 rcases Nat.eq_zero_or_pos l.length with h0|h0
 ·obtain rfl:=List.eq_nil_of_length_eq_zero h0
  cases A with
  | none =>
   refine (Try.slices_Clone_int_nil _ c w).mono ?_
   rintro e w' ⟨rfl,rfl⟩
   exact ⟨_,rfl,Kd.R_nil _ _ _ _ _,Below.refl _ _⟩
  | some a =>
   refine (Try.slices_Clone_int_zero a c w).mono ?_
   rintro e w' ⟨v,rfl,ho,_,hb⟩
   exact ⟨v,rfl,R_of_own (fun _ _=>trivial) (by simpa using ho),hb⟩
 ·obtain ⟨b,off,rfl,_,hc⟩:=C_ints hr h0
  refine (Try.slices_Clone_int b off l.length c l w (Nat.le_refl _) (by omega) (fun j hj=>by rw [hc j hj];simp [List.getD,hj])).mono ?_
  rintro e w' ⟨v,rfl,ho,_,hb⟩
  exact ⟨v,rfl,R_of_own (fun _ _=>trivial) (by simpa using ho),hb⟩
theorem least1_calls (s:Int) (W:World):Calls Try.prog 98 #[.int .i64 s] W fun e w'=>e=.returned (.bool (!vld s))∧∃ q,w'=W.drewN q:=by
 go_enter Try.func98,Try.ntmps98
 go_wp2_with (go_at_call 59;(with_reducible refine (nodeset_Valid.calls s (vld s) _ (Valid_eq s)).mono ?_);rintro e w' ⟨rfl,⟨nd,rfl⟩⟩)
 go_ret
 exact ⟨rfl,_,rfl⟩
theorem delete_none (A:Option Addr) (c:Nat) (fv:Value) (w:World):Calls Try.prog 96 #[.slice A 0 c,fv] w fun e w'=>e=.returned (.slice A 0 c)∧w'=w:=by
 go_enter Try.func96,Try.ntmps96
 go_wp2_with (go_at_call 117;refine (Try.slices_IndexFunc_empty (α:=Int) A c fv _).mono ?_;rintro e w' ⟨rfl,rfl⟩)
 go_ret
 exact ⟨rfl,rfl⟩
theorem delete_row {w:World} {base:Nat} {ok:Nat→Prop} {v:Value} {l:List Int} (h:RI w base ok v l) (hl:l.length < 4611686018427387904) :
  Calls Try.prog 96 #[v,.func (.func 98) #[] #[]] w fun e w'=>∃ v',e=.returned v'∧RI w' base ok v' (l.filter vld)∧v'.ownBlock=v.ownBlock∧w.grownBy w' v.ownBlock:=by
 have ho:=own_of_R h
 rcases Nat.eq_zero_or_pos l.length with h0|h0
 ·obtain rfl:=List.eq_nil_of_length_eq_zero h0
  obtain ⟨A,c,rfl⟩:=own_slice ho
  refine (delete_none A c _ w).mono ?_
  rintro e w' ⟨rfl,rfl⟩
  exact ⟨_,rfl,by simpa using h,rfl,grown_of_below (Below.refl _ _) _⟩
 ·rcases ho.2 with ⟨_,h1⟩|⟨g,cap,cur,rfl,hb,hh,h1,h2,h3,h4⟩
  ·omega
  ·have hH:=holds_of_blockI hh (by simpa using h4)
   refine (Try.slices_DeleteFunc (Value.int .i64) (fun _=>rfl) (fun s=>!vld s) 98 #[] (enters_of Try.func98 (by kernel_rfl) rfl) 0 (fun _=>by kernel_rfl) g 0 cap l.toArray w (fun W x _=>by simpa [FnGives] using least1_calls x W) (fun n os dk x _=>by simpa [FnGives] using least1_calls x _) hH (by simp;unfold maxLen at h2;omega) (by simpa using h1)).mono ?_
   rintro e w' ⟨rfl,q,rfl⟩
   have hf:(l.toArray.toList.filter fun x=>!(!vld x))=l.filter vld:=by simp
   rw [hf]
   have hfl:=List.length_filter_le vld l
   have hgr:∀ d:Array Int,w.grownBy (putRow (Value.int .i64) (Sort.ahead w q) g 0 d) (some g):=fun d=>by
    have:=grownBy_sortedI (w:=w) (g:=g) (n:=q) (os:=#[]) d
    rwa [grow_empty] at this
   refine ⟨_,rfl,R_of_own (fun k hk=>h.1 k (by simpa [Value.ownBlock] using hk)) ?_,rfl,hgr _⟩
   have hz:((l.filter vld++List.replicate (l.toArray.size - (l.filter vld).length) (0:Int))).length=l.length:=by simp;omega
   have hs:=ownsRow_sortedI (n:=q) (os:=#[]) hz hb hh h1 h2 h3
   rw [grow_empty] at hs
   rcases hs.2 with ⟨hn,_⟩|⟨g',cap',cur',he,hb',hh',k1,k2,k3,k4⟩
   ·cases hn
   ·injection he with he1 he2 he3
    injection he1 with he1
    injection he1 with he1
    subst he1;subst he3
    refine ⟨by simp,.inr ⟨g,cap,cur',rfl,hb',hh',by omega,k2,k3,?_⟩⟩
    rw [Nat.mul_one] at k4 ⊢
    have h5:=congrArg (List.take (l.filter vld).length) k4
    rw [List.take_take,Nat.min_eq_left hfl,List.map_append,List.take_append_of_le_length (by simp)] at h5
    exact h5.trans (List.take_of_length_le (by simp))
def sub (t s:Int):Bool:=Go.bits .andNot .i64 t s == 0
def leastStep (out:List Int) (s:Int):List Int:=if (out.any fun t=>sub t s)=true then out else out++[s]
def leastFold (l:List Int):List Int:=l.foldl leastStep []
def leastS (l:List Int):List Int:=leastFold (sortS (l.filter vld))
def nodeset_Least.f (a0:List Int):Option (List Int):=if a0.length≤1048576 then some (leastS a0) else none
theorem leastFold_le (l:List Int):(leastFold l).length≤l.length:=by
 have h:∀ (l acc:List Int),(l.foldl leastStep acc).length≤acc.length+l.length:=by
  intro l
  induction l with
  | nil=>intro acc;simp
  | cons x r ih =>
   intro acc
   have:=ih (leastStep acc x)
   have h2:(leastStep acc x).length≤acc.length+1:=by unfold leastStep;split <;> simp
   simp only [List.foldl_cons,List.length_cons];omega
 simpa [leastFold] using h l []
theorem least2_calls (t s:Int) (B:Nat) (W:World) (hc:W.cell? ⟨B,0,none⟩=some (.int .i64 s)):Calls Try.prog 100 #[.int .i64 t,.pointer (some ⟨B,0,none⟩)] W fun e w'=>e=.returned (.bool (sub t s))∧∃ q,w'=W.drewN q:=by
 go_enter Try.func100,Try.ntmps100
 go_wp2
 go_ret
 exact ⟨rfl,0,rfl⟩
theorem contains_row {W:World} {A:Option Addr} {c:Nat} {l:List Int} {s:Int} {B:Nat} (hr:Kd.C (Kd.int .i64) W A l.length l) (hc:W.cell? ⟨B,0,none⟩=some (.int .i64 s)) :
  Calls Try.prog 99 #[.slice A l.length c,.func (.func 100) #[] #[.pointer (some ⟨B,0,none⟩)]] W fun e w'=>e=.returned (.bool (l.any fun t=>sub t s))∧∃ q,w'=W.drewN q:=by
 rcases Nat.eq_zero_or_pos l.length with h0|h0
 ·obtain rfl:=List.eq_nil_of_length_eq_zero h0
  refine (Try.slices_ContainsFunc_empty (α:=Int) A c _ W).mono ?_
  rintro e w' ⟨rfl,rfl⟩
  exact ⟨rfl,0,rfl⟩
 ·obtain ⟨b,off,rfl,_,hcc⟩:=C_ints hr h0
  have hB:=World.block_lt_of_cell? W _ hc
  refine (Try.slices_ContainsFunc (Value.int .i64) (fun t=>sub t s) 100 #[.pointer (some ⟨B,0,none⟩)] (enters_of Try.func100 (by kernel_rfl) rfl) b off l.length c l W (fun W' x hb=>least2_calls x s B W' ((hb.cell (p:=⟨B,0,none⟩) hB).trans hc)) (Nat.le_refl _) (C_max hr) hcc).mono ?_
  rintro e w' ⟨rfl,hq⟩
  rw [List.take_length]
  exact ⟨rfl,hq⟩
set_option maxHeartbeats 4000000 in
set_option maxRecDepth 100000 in
theorem nodeset_Least.calls (A0 : Option Addr) (c0 : Nat) (l0 : List Int) (r : List Int) (w : World) (hr0 : Kd.C (Kd.int .i64) w A0 l0.length l0) (hc0 : l0.length ≤ c0) (h : nodeset_Least.f l0 = some r) :
    Calls Try.prog 66 #[.slice A0 l0.length c0] w fun e w' => ∃ v0_ : Value, e = .returned (v0_) ∧ Kd.R (Kd.int .i64) 3 w' w.heap.size (fun _ => True) v0_ r ∧ Below w.heap.size w w' := by
  unfold nodeset_Least.f at h
  split at h
  case isFalse => cases h
  rename_i hlen
  obtain rfl := Option.some.inj h
  clear h
  have HL := Aside0.mk hlen
  have hfl := List.length_filter_le vld l0
  have HF : Aside0 ((l0.filter vld).length < 4611686018427387904) := ⟨by omega⟩
  have HR := Aside0.mk hr0
  clear hr0 hfl hlen
  unfold leastS
  obtain ⟨S, HS⟩ : ∃ S, Aside0 (S = sortS (l0.filter vld)) := ⟨_, ⟨rfl⟩⟩
  have HSl : Aside0 (S.length ≤ 1048576) := ⟨by rw [HS.out, sortS_length]; have := List.length_filter_le vld l0; have := HL.out; omega⟩
  rw [← HS.out]
  go_enter Try.func66, Try.ntmps66
  go_wp2_with (first
    | (go_at_call 97; refine (clone_row HR.out (by have := HL.out; omega)).mono ?_; rintro e w1 ⟨v1, rfl, h1, hb1⟩; have H1 := Aside0.mk h1; have B1 := Aside0.mk hb1; clear h1 hb1)
    | (go_at_call 96; refine (delete_row H1.out (by have := HL.out; omega)).mono ?_; rintro e w2 ⟨v2, rfl, h2, ho2, hg2⟩; have H2 := Aside0.mk h2; have B2 := Aside0.mk (B1.out.grown hg2 B1.out.size (own_base (own_of_R H1.out))); clear h2 ho2 hg2)
    | (go_at_call 93; refine (sort_row H2.out HF.out).mono ?_; rintro e w3 ⟨rfl, h3, hg3⟩; rw [← HS.out] at h3; have H3 := Aside0.mk h3; have B3 := Aside0.mk (B2.out.grown hg3 B2.out.size (own_base (own_of_R H2.out))); clear h3 hg3; obtain ⟨A2, c2, e2⟩ := Kd.R_slice H3.out; subst e2))
  have B1' := B1.out
  clear H1 H2 B1 B2 B1' HF HL HR
  go_loopw [3, 13] (fun o i wr => ∃ x : Int, i = .int .i64 x ∧ Aside0 (0 ≤ x ∧ x ≤ S.length) ∧ Aside0 (RI wr w.heap.size (fun _ => True) o (leastFold (S.take x.toNat))) ∧ Aside0 (RI wr w.heap.size (fun k => True ∧ some k ≠ o.ownBlock) (.slice A2 S.length c2) S) ∧ Aside0 (RowKit.Below w.heap.size w wr)) (fun _ i _ => S.length - (intOf i).toNat)
  case atStart => exact ⟨0, rfl, ⟨by omega⟩, ⟨Kd.R_nil _ _ _ _ _⟩, ⟨Kd.R_mono H3.out (fun k _ => ⟨trivial, by simp [Value.ownBlock]⟩)⟩, B3⟩
  case round =>
    obtain ⟨x, rfl, Hx, HO, HS3, HB⟩ := hrel
    clear H3 B3
    obtain ⟨ob, rfl⟩ : ∃ ob, ob = wr := ⟨_, rfl⟩
    by_cases hlt : x < S.length
    · have hd : decide (x < (S.length : Int)) = true := decide_eq_true hlt
      have p0 := Hx.out.1
      obtain ⟨F, HF⟩ : ∃ F, Aside0 (F = leastFold (S.take x.toNat)) := ⟨_, ⟨rfl⟩⟩
      rw [← HF.out] at HO
      obtain ⟨A, c, e0⟩ := Kd.R_slice HO.out
      subst e0
      obtain ⟨ad, ea, hx⟩ := Kd.at_int (Kd.R_reads' HS3.out).2.2 x p0 hlt
      cases ea
      obtain ⟨y, Hy⟩ : ∃ y, Aside0 (y = rd S x) := ⟨_, ⟨rfl⟩⟩
      rw [← Hy.out] at hx
      obtain ⟨b, Hb⟩ : ∃ b, Aside0 (b = F.any fun t => sub t y) := ⟨_, ⟨rfl⟩⟩
      have Hlt := Aside0.mk hlt
      have HFl : Aside0 (F.length ≤ 1048576) := ⟨by rw [HF.out]; have := leastFold_le (S.take x.toNat); have := HSl.out; simp at *; omega⟩
      have Hnext : Aside0 (leastFold (S.take (wrap64 (x + 1)).toNat) = leastStep F y ∧ wrap64 (x + 1) = x + 1) := by
        have h1 : wrap64 (x + 1) = x + 1 := by unfold wrap64; have := HSl.out; omega
        refine ⟨?_, h1⟩
        have h2 : (x + 1).toNat = x.toNat + 1 := by omega
        have h3 : x.toNat < S.length := by omega
        have h4 : Go.Proofs.YtkjlcbfjllpcnaaW.PrintWords.rd S x = S[x.toNat] := by simp [Go.Proofs.YtkjlcbfjllpcnaaW.PrintWords.rd, List.getD, h3]
        rw [h1, h2, HF.out, Hy.out, h4, List.take_succ_eq_append_getElem h3]
        unfold leastFold
        rw [List.foldl_append]
        rfl
      replace hlt := eq_true hlt
      replace p0 := eq_true p0
      cases b
      all_goals
        go_wp2_with (first
          | (go_at_call 99; refine (contains_row (s := y) (B := ob.heap.size) (Kd.R_reads' (Kd.R_alloc HO.out _)).2.2 (by simp)).mono ?_; rintro e w1 ⟨he, hq⟩; rw [← Hb.out] at he; subst he; have HO1 : Aside0 (RI w1 w.heap.size (fun _ => True) (.slice A F.length c) F) := (by obtain ⟨q, rfl⟩ := hq; exact ⟨Kd.R_drewN (Kd.R_alloc HO.out _) _⟩); have HS1 : Aside0 (RI w1 w.heap.size (fun k => True ∧ some k ≠ (Value.slice A F.length c).ownBlock) (.slice (some ad) S.length c2) S) := (by obtain ⟨q, rfl⟩ := hq; exact ⟨Kd.R_drewN (Kd.R_alloc HS3.out _) _⟩); have HB1 : Aside0 (RowKit.Below w.heap.size w w1) := (by obtain ⟨q, rfl⟩ := hq; exact ⟨wN (wA HB.out _) _⟩); have hcl : w1.cell? ⟨ob.heap.size, 0, none⟩ = some (.int .i64 y) := (by obtain ⟨q, rfl⟩ := hq; simp); clear hq)
          | (at_builtin; go_loud (refine Kd.R_append (Kd.int .i64) (w0 := w) w.heap.size rfl (.tmp 21) (.tmp 23) 22 3 (.int .i64 0) 8 rfl Try.underlying22 info3 rfl (by decide) (by omega) (.slice A F.length c) F y [.int .i64 y] (fun _ => True) (fun _ => False) rfl rfl ?aP (fun _ hk => hk.elim) (fun _ _ => trivial) ?aO ?aB ?aS ?aL ?_; (case aP => exact rfl); (case aO => exact HO1.out); (case aB => exact HB1.out); (case aS => exact HB1.out.size); (case aL => have := HFl.out; omega); intro v4 w4 h4 hb4 hg4 hat4; have H4 := Aside0.mk h4; have B4 := Aside0.mk hb4; have HS4 := Aside0.mk (Kd.R_after HS1.out hg4 hat4); clear h4 hb4 hg4 hat4)))
        go_roundw
        case rel =>
          first
          | exact ⟨wrap64 (x + 1), rfl, ⟨by have := Hnext.out.2; have := Hlt.out; have := Hx.out; omega⟩, ⟨by rw [Hnext.out.1]; unfold leastStep; rw [← Hb.out]; exact H4.out⟩, HS4, B4⟩
          | exact ⟨wrap64 (x + 1), rfl, ⟨by have := Hnext.out.2; have := Hlt.out; have := Hx.out; omega⟩, ⟨by rw [Hnext.out.1]; unfold leastStep; rw [← Hb.out]; exact HO1.out⟩, HS1, HB1⟩
        case measure => have h1 := Hnext.out.2; have := Hlt.out; have := Hx.out; simp only [intOf]; simp [h1]; omega
    · have hd : decide (x < (S.length : Int)) = false := decide_eq_false hlt
      have Hlt := Aside0.mk hlt
      clear hlt
      go_wp2
      go_ret
      have hx : x = S.length := by have := Hx.out; have := Hlt.out; omega
      rw [hx] at HO
      exact ⟨_, rfl, by simpa using HO.out, HB.out⟩
def subsBelow (s:Int) (m:Nat):List Int:=((List.range m).map Int.ofNat).filter fun t=>sub t s
def subsetsS (s:Int):List Int:=if vld s then sortS (subsBelow s (s.toNat+1)) else []
def nodeset_Subsets.f (a0:Int):Option (List Int):=some (subsetsS a0)
theorem subsBelow_le (s:Int) (m:Nat):(subsBelow s m).length≤m:=by
 unfold subsBelow
 have:=List.length_filter_le (fun t=>sub t s) ((List.range m).map Int.ofNat)
 simpa using this
theorem subsBelow_succ (s:Int) (m:Nat):subsBelow s (m+1)=if sub (m:Int) s=true then subsBelow s m++[(m:Int)] else subsBelow s m:=by
 unfold subsBelow
 rw [List.range_succ,List.map_append,List.filter_append]
 split
 ·rename_i h;simp [h]
 ·rename_i h;simp [h]
set_option maxHeartbeats 4000000 in
set_option maxRecDepth 100000 in
theorem nodeset_Subsets.calls (a0 : Int) (r : List Int) (w : World) (h : nodeset_Subsets.f a0 = some r) : Calls Try.prog 64 #[.int .i64 a0] w fun e w' => ∃ v0_ : Value, e = .returned (v0_) ∧ Kd.R (Kd.int .i64) 3 w' w.heap.size (fun _ => True) v0_ r ∧ Below w.heap.size w w' := by
  obtain rfl := Option.some.inj h
  clear h
  obtain ⟨b, Hb⟩ : ∃ b, Aside0 (b = vld a0) := ⟨_, ⟨rfl⟩⟩
  unfold subsetsS
  rw [← Hb.out]
  cases b with
  | false =>
    go_enter Try.func64, Try.ntmps64
    go_wp2
    go_loopw [3, 4] (fun o i wr => o = .slice none 0 0 ∧ i = .int .i64 0 ∧ Aside0 (RowKit.Below w.heap.size w wr)) (fun _ _ _ => 0)
    case atStart => exact ⟨rfl, rfl, ⟨Below.refl _ _⟩⟩
    case round =>
      obtain ⟨rfl, rfl, HB⟩ := hrel
      obtain ⟨ob, rfl⟩ : ∃ ob, ob = wr := ⟨_, rfl⟩
      go_wp2_with (first
        | (go_at_call 59; refine (nodeset_Valid.calls a0 false _ (by rw [Hb.out]; exact Valid_eq a0)).mono ?_; rintro e w1 ⟨rfl, ⟨q, rfl⟩⟩)
        | (go_at_call 93; refine (sort_row (base := w.heap.size) (ok := fun _ => True) (l := []) (Kd.R_nil _ _ _ _ _) (by simp)).mono ?_; rintro e w3 ⟨rfl, h3, hg3⟩))
      go_ret
      exact ⟨_, rfl, Kd.R_nil _ _ _ _ _, (wN HB.out _).grown hg3 (by have := HB.out.size; simpa using this) (by simp [Value.ownBlock])⟩
  | true =>
    simp only [if_true]
    have Hv : Aside0 (0 ≤ a0 ∧ a0 < 1024) := ⟨vld_iff.1 Hb.out.symm⟩
    go_enter Try.func64, Try.ntmps64
    go_wp2
    go_loopw [3, 4] (fun o i wr => ∃ x : Int, i = .int .i64 x ∧ Aside0 (0 ≤ x ∧ x ≤ a0 + 1) ∧ Aside0 (RI wr w.heap.size (fun _ => True) o (subsBelow a0 x.toNat)) ∧ Aside0 (RowKit.Below w.heap.size w wr)) (fun _ i _ => (a0 + 1 - intOf i).toNat)
    case atStart => exact ⟨0, rfl, ⟨by have := Hv.out; omega⟩, ⟨by exact Kd.R_nil _ _ _ _ _⟩, ⟨Below.refl _ _⟩⟩
    case round =>
      obtain ⟨x, rfl, Hx, HO, HB⟩ := hrel
      obtain ⟨ob, rfl⟩ : ∃ ob, ob = wr := ⟨_, rfl⟩
      obtain ⟨F, HF⟩ : ∃ F, Aside0 (F = subsBelow a0 x.toNat) := ⟨_, ⟨rfl⟩⟩
      rw [← HF.out] at HO
      have HFl : Aside0 (F.length ≤ 1025) := ⟨by rw [HF.out]; have := subsBelow_le a0 x.toNat; have := Hx.out; have := Hv.out; omega⟩
      have Hnext : Aside0 (wrap64 (x + 1) = x + 1 ∧ subsBelow a0 (x + 1).toNat = if sub x a0 = true then F ++ [x] else F) := ⟨by
        have h1 := Hx.out
        have h2 := Hv.out
        refine ⟨by unfold wrap64; omega, ?_⟩
        obtain ⟨m, rfl⟩ := Int.eq_ofNat_of_zero_le h1.1
        rw [HF.out, show ((m : Int) + 1).toNat = m + 1 from by omega, show (m : Int).toNat = m from by omega]
        exact subsBelow_succ a0 m⟩
      by_cases hlt : x ≤ a0
      · have hd : decide (x ≤ a0) = true := decide_eq_true hlt
        have Hlt := Aside0.mk hlt
        clear hlt
        obtain ⟨c, Hc⟩ : ∃ c, Aside0 (c = sub x a0) := ⟨_, ⟨rfl⟩⟩
        have hc : (Go.bits .andNot .i64 x a0 == 0) = c := by rw [Hc.out]; rfl
        cases c
        all_goals
          go_wp2_with (first
            | (go_at_call 59; refine (nodeset_Valid.calls a0 true _ (by rw [Hb.out]; exact Valid_eq a0)).mono ?_; rintro e w1 ⟨rfl, hq⟩; have HO1 := Aside0.mk (Kd.R_below HO.out hq.below); have HB1 := Aside0.mk (HB.out.trans (hq.below.mono HB.out.size)); clear hq)
            | (at_builtin; refine Kd.R_append (Kd.int .i64) (w0 := w) w.heap.size rfl (.tmp 18) (.tmp 20) 22 3 (.int .i64 0) 8 rfl Try.underlying22 info3 rfl (by decide) (by omega) _ F x [.int .i64 x] (fun _ => True) (fun _ => False) rfl rfl ?aP (fun _ hk => hk.elim) (fun _ _ => trivial) ?aO ?aB ?aS ?aL ?_; (case aP => exact rfl); (case aO => exact HO1.out); (case aB => exact HB1.out); (case aS => exact HB1.out.size); (case aL => have := HFl.out; omega); intro v4 w4 h4 hb4 hg4 hat4; have H4 := Aside0.mk h4; have B4 := Aside0.mk hb4; clear h4 hb4 hg4 hat4))
          go_roundw
          case rel =>
            first
            | exact ⟨wrap64 (x + 1), rfl, ⟨by have := Hnext.out.1; have := Hlt.out; have := Hx.out; omega⟩, ⟨by rw [Hnext.out.1, Hnext.out.2, ← Hc.out]; exact H4.out⟩, B4⟩
            | exact ⟨wrap64 (x + 1), rfl, ⟨by have := Hnext.out.1; have := Hlt.out; have := Hx.out; omega⟩, ⟨by rw [Hnext.out.1, Hnext.out.2, ← Hc.out]; exact HO1.out⟩, HB1⟩
          case measure => have h1 := Hnext.out.1; have := Hlt.out; have := Hx.out; simp [intOf, h1]; omega
      · have hd : decide (x ≤ a0) = false := decide_eq_false hlt
        have Hlt := Aside0.mk hlt
        clear hlt
        have hx : Aside0 (x.toNat = a0.toNat + 1) := ⟨by have := Hx.out; have := Hlt.out; have := Hv.out; omega⟩
        go_wp2_with (first
          | (go_at_call 59; refine (nodeset_Valid.calls a0 true _ (by rw [Hb.out]; exact Valid_eq a0)).mono ?_; rintro e w1 ⟨rfl, hq⟩; have HO1 := Aside0.mk (Kd.R_below HO.out hq.below); have HB1 := Aside0.mk (HB.out.trans (hq.below.mono HB.out.size)); clear hq)
          | (go_at_call 93; refine (sort_row HO1.out (by have := HFl.out; omega)).mono ?_; rintro e w3 ⟨rfl, h3, hg3⟩; have H3 := Aside0.mk h3; have B3 := Aside0.mk (HB1.out.grown hg3 HB1.out.size (own_base (own_of_R HO1.out))); clear h3 hg3))
        go_ret
        exact ⟨_, rfl, by rw [← hx.out, ← HF.out]; exact H3.out, B3.out⟩
end Go.Proofs.Ytkjlcbfjllpcnaa.X
namespace Go.Proofs.Ytkjlcbfjllpcnaa.X
open Go.RowKit Go.Proofs.YtkjlcbfjllpcnaaW.PrintWords Go.Proofs.YtkjlcbfjllpcnaaW.PrintLast Go.Proofs.YtkjlcbfjllpcnaaW.PrintMore
attribute [local go_sem] max2_int min2_int max_two min_two max_three min_three max_four min_four
set_option linter.unusedVariables false
set_option linter.unusedSimpArgs false
def danger_least_splits.l0:Nat→List Int→List Int→Int→Int→List (S34)→Option (List Int)
 | 0,_,_,_,_,_=>none
 | k+1,x5,x10,x11,x12,x287000=>if x12 < x11 then (if 0≤x12 then (if x12 < (x10.length:Int) then ((danger_splits.f k x287000 (rd x10 x12)).bind fun t292=>(if t292=true then (if x5.length < 17592186044416 then (danger_least_splits.l0 k (x5++[rd x10 x12]) x10 x11 (wrap64 (x12+1)) x287000) else (none)) else (danger_least_splits.l0 k x5 x10 x11 (wrap64 (x12+1)) x287000))) else (none)) else (none)) else ((nodeset_Least.f x5).bind fun t296=>(some t296))
def danger_least_splits.f (k:Nat) (l0_0:List (S34)):Option (List Int):=(danger_members.f l0_0).bind fun t287=>((nodeset_Subsets.f t287).bind fun t288=>(danger_least_splits.l0 k ([]:List Int) t288 (t288.length:Int) 0 l0_0))
set_option maxHeartbeats 8000000 in
set_option maxRecDepth 100000 in
theorem danger_least_splits.calls (k:Nat) (A0_0:Option Addr) (c0_0:Nat) (l0_0:List (S34)) (r:List Int) (w:World) (hr0_0:Kd.C k34 w A0_0 l0_0.length l0_0) (hc0_0:l0_0.length≤c0_0) (h:danger_least_splits.f k l0_0=some r) :
  Calls Try.prog 81 #[.agg #[.slice A0_0 l0_0.length c0_0],.func (.func 82) #[] #[]] w fun e w'=>∃ v0_:Value,e=.returned (v0_)∧Kd.R (Kd.int .i64) 3 w' w.heap.size (fun _=>True) v0_ r∧Below w.heap.size w w':=by
 have hu27:=Try.underlying27
 have HR0_0:=Z hr0_0
 have HC0_0:=Z hc0_0
 clear hr0_0 hc0_0
 have HB:=Z (Below.refl w.heap.size w)
 have H:((danger_members.f l0_0).bind fun t287=>((nodeset_Subsets.f t287).bind fun t288=>(danger_least_splits.l0 k ([]:List Int) t288 (t288.length:Int) 0 l0_0)))=some r:=h
 clear h
 replace H:=Option.bind_eq_some_iff.mp H
 obtain ⟨t287,A20,H⟩:=H
 try dsimp only at H
 have A2:=Z A20
 clear A20
 replace H:=Option.bind_eq_some_iff.mp H
 obtain ⟨t288,A30,H⟩:=H
 try dsimp only at H
 have A3:=Z A30
 clear A30
 have H':=Z H
 clear H
 go_enter Try.func81,Try.ntmps81
 go_wp2_with (first|((with_reducible refine gate_dst (N:=2) rfl ?_);refine box_event ?hg (N:=2) ?hd (cs:=#[.slice A0_0 l0_0.length c0_0]) (t:=27) ?hr ?_;(case hd=>rfl);(case hg=>rfl);(case hr=>first|(go_simp;done)|(go_simp;rfl));intro gb286 hg w4 hbox hb;have n0_:=Z (below_step pB hb);have n1_:=Z (hbox);have n2_:=Z ((pT hg:w.heap.size≤gb286));have n3_:=Z ((pT hg:w.heap.size≤gb286));clear HB;have HB:=n0_;have BK286:=n1_;have GW286:=n2_;have GE286:=n3_;clear n0_ n1_ n2_ n3_;clear hb hbox hg;have hcz5_0:w4.cell? ⟨gb286,0,none⟩=some (.slice A0_0 l0_0.length c0_0):=(kC BK286.out 0).trans rfl;have hfz5_0:=kF BK286.out 0)|((with_reducible refine gate_callee (f:=104) rfl ?_);refine goesL_ (some 9) rfl rfl Try.func104 (by kernel_rfl) rfl #[.agg #[.slice A0_0 l0_0.length c0_0]] rfl pG ?_;(with_reducible refine (danger_members.calls _ _ l0_0 t287 _ ?side1 ?side2 A2.out).mono ?_);(case side1=>repeat (first|exact (Kd.C_below HR0_0.out HB.out)|(with_reducible refine Kd.C_alloc ?_ _)|(with_reducible refine Kd.C_drewN ?_ _)|(with_reducible refine Kd.C_drew ?_)));(case side2=>exact HC0_0.out);rintro e w6 ⟨rfl,hb⟩;refine ⟨_,rfl,?_⟩;have n0_:=Z (blk_below (g:=gb286) (o:=.cells #[.slice A0_0 l0_0.length c0_0] 27 (0,0)) (pK BK286) hb);have n1_:=Z (below_step pB hb);clear BK286;clear HB;have BK286:=n0_;have HB:=n1_;clear n0_ n1_;(try clear hb);(try clear hb2);(try clear hk);(try clear hi))|((with_reducible refine gate_callee (f:=64) rfl ?_);refine goesL_ (some 10) rfl rfl Try.func64 (by kernel_rfl) rfl #[.int .i64 t287] rfl pG ?_;(with_reducible refine (nodeset_Subsets.calls t287 t288 _ A3.out).mono ?_);rintro e w7 ⟨v289,rfl,ho0,hb⟩;refine ⟨_,rfl,?_⟩;have n0_:=Z (Kd.R_lower ho0 (below_size pB));have n1_:=Z (blk_below (g:=gb286) (o:=.cells #[.slice A0_0 l0_0.length c0_0] 27 (0,0)) (pK BK286) hb);have n2_:=Z (below_step pB hb);clear BK286;clear HB;have HO290:=n0_;have BK286:=n1_;have HB:=n2_;clear n0_ n1_ n2_;(try clear hb);(try clear hb2);(try clear hk);(try clear hi);(try clear ho0);obtain ⟨Ao8,co8,eo8⟩:=Kd.R_slice HO290.out;subst eo8))
 go_loopg [5,12] k (fun kq v5 v12 w'=>∃ (x5_1:List Int) (x12_1:Int),v12=.int .i64 x12_1∧Aside0 (danger_least_splits.l0 kq x5_1 t288 (t288.length:Int) x12_1 l0_0=some r)∧Aside0 (kq≤k)∧Aside0 (Kd.R (Kd.int .i64) 3 w' w.heap.size (fun k_=>some k_ ≠ ((.slice Ao8 t288.length co8):Value).ownBlock) v5 x5_1)∧Aside0 (Kd.R (Kd.int .i64) 3 w' w.heap.size (fun k_=>some k_ ≠ (v5:Value).ownBlock) (.slice Ao8 t288.length co8) t288)∧Aside0 (w'.heap[gb286]?=some (.cells #[(.slice A0_0 l0_0.length c0_0)] 27 (0,0)))∧Aside0 (Below w.heap.size w w'))
 case atStart=>exact ⟨(([]:List Int)),(0),pE,H',⟨Nat.le_refl _⟩,⟨pN⟩,⟨by (with_reducible repeat (first|apply Kd.R_alloc|apply Kd.R_drewN|apply Kd.R_drew));exact Kd.R_mono HO290.out (fun _ hk=>(by simp [Value.ownBlock]))⟩,⟨pK BK286⟩,⟨pB⟩⟩
 case round =>
  clear H'
  try clear c1
  try clear p2
  try clear c6
  try clear c8
  try clear hcz5_0
  try clear hfz5_0
  obtain ⟨x5_1,x12_1,rfl,HA,HK1,HO_5,HO_10,BK286,HB⟩:=hrel
  cases gk with
  | zero=>exact absurd HA.out (by simp [danger_least_splits.l0])
  | succ k1 =>
   have H:=HA.out
   clear HA
   simp only [danger_least_splits.l0] at H
   by_cases c9:x12_1 < (t288.length:Int)
   ·rw [if_pos c9] at H
    have c9b0:decide (x12_1 < (t288.length:Int))=true:=decide_eq_true c9
    clear c9
    by_cases c10:0≤x12_1
    ·rw [if_pos c10] at H
     have c10b0:decide (0≤x12_1)=true:=decide_eq_true c10
     clear c10
     by_cases c11:x12_1 < (t288.length:Int)
     ·rw [if_pos c11] at H
      have c11b0:decide (x12_1 < (t288.length:Int))=true:=decide_eq_true c11
      clear c11
      replace H:=Option.bind_eq_some_iff.mp H
      obtain ⟨t292,A120,H⟩:=H
      try dsimp only at H
      have A12:=Z A120
      clear A120
      by_cases c13:t292=true
      ·subst c13
       rw [if_pos rfl] at H
       by_cases c14:x5_1.length < 17592186044416
       ·rw [if_pos c14] at H
        have LMc14:=Z c14
        clear c14
        obtain ⟨y293,hy293⟩:∃ y_:List Int,y_=(x5_1++[rd t288 x12_1]):=⟨_,rfl⟩
        first|rw [← hy293] at H|(replace H:=(Option.bind_some _ _).symm.trans H;rw [← hy293] at H)
        have Ny293:=Z hy293
        clear hy293
        have H':=Z H
        clear H
        have p291:0≤(x12_1:Int):=of_decide_eq_true (by first|(with_reducible assumption)|assumption)
        have q291:x12_1 < (t288.length:Int):=of_decide_eq_true (by first|(with_reducible assumption)|assumption)
        obtain ⟨ad291,e291,hx291_0⟩:=Kd.at_int (Kd.R_reads' HO_10.out).2.2 x12_1 p291 q291
        cases e291
        replace p291:=eq_true p291
        replace q291:=eq_true q291
        have hcz15_0:wr.cell? ⟨gb286,0,none⟩=some (.slice A0_0 l0_0.length c0_0):=(kC BK286.out 0).trans rfl
        have hfz15_0:=kF BK286.out 0
        go_wp2_with (first|((with_reducible refine gate_val (x:=.tmp 16) rfl ?_);refine goesV_ (some 19) rfl rfl (x:=.tmp 16) Try.func82 (by kernel_rfl) rfl #[.agg #[.slice A0_0 l0_0.length c0_0],.int .i64 (rd t288 x12_1)] rfl rfl pG ?_;(with_reducible refine (danger_splits.calls k1 _ _ l0_0 (rd t288 x12_1) true _ ?side1 ?side2 A12.out).mono ?_);(case side1=>repeat (first|exact (Kd.C_below HR0_0.out HB.out)|(with_reducible refine Kd.C_alloc ?_ _)|(with_reducible refine Kd.C_drewN ?_ _)|(with_reducible refine Kd.C_drew ?_)));(case side2=>exact HC0_0.out);rintro e w16 ⟨rfl,hb⟩;refine ⟨_,rfl,?_⟩;have n0_:=Z (Kd.R_below (pR HO_5) hb);have n1_:=Z (Kd.R_below (pR HO_10) hb);have n2_:=Z (blk_below (g:=gb286) (o:=.cells #[.slice A0_0 l0_0.length c0_0] 27 (0,0)) (pK BK286) hb);have n3_:=Z (below_step pB hb);clear HO_5;clear HO_10;clear BK286;clear HB;have HO_5:=n0_;have HO_10:=n1_;have BK286:=n2_;have HB:=n3_;clear n0_ n1_ n2_ n3_;(try clear hb);(try clear hb2);(try clear hk);(try clear hi))|((with_reducible refine gate_builtin (b:=.append) (xs:=#[.tmp 20,.tmp 22]) rfl ?_);at_builtin;refine Kd.R_append (Kd.int .i64) (w0:=w) w.heap.size rfl (.tmp 20) (.tmp 22) 22 3 (.int .i64 0) 8 rfl Try.underlying22 info3 rfl (by decide) (by omega) u5 x5_1 (rd t288 x12_1) [.int .i64 (rd t288 x12_1)] (fun k_=>some k_ ≠ (.slice (some ad291) t288.length co8:Value).ownBlock) (fun _=>False) rfl rfl ?aP (fun _ hk=>hk.elim) ?aF ?aO ?aB ?aS ?aL ?_;(case aP=>exact rfl);(case aB=>exact pB);(case aF=>exact (fun k_ hk=>Kd.fresh' (Kd.R_lt (pR HO_10)) k_ hk));(case aO=>exact (pR HO_5));(case aS=>exact (below_size pB));(case aL=>have:=LMc14.out;omega);intro v294 w17 ho hb hg hat;rw [← Ny293.out] at ho;have n0_:=Z (Kd.R_after (ok:=(fun _=>True)) (by (with_reducible repeat (first|apply Kd.R_alloc|apply Kd.R_drewN|apply Kd.R_drew));exact Kd.R_mono HO_10.out (fun _ hk=>⟨trivial,hk⟩)) hg hat);have n1_:=Z (blk_grown (g:=gb286) (o:=.cells #[.slice A0_0 l0_0.length c0_0] 27 (0,0)) (pK BK286) hg (Kd.R_ne HO_5.out BK286.out (by decide)));have n2_:=Z (hb);have n3_:=Z (ho);clear HO_10;clear BK286;clear HB;clear HO_5;have HO_10:=n0_;have BK286:=n1_;have HB:=n2_;have HO295:=n3_;clear n0_ n1_ n2_ n3_;clear ho hb hg hat))
        go_roundg k1
        case measure=>have:=HK1.out;omega
        case rel=>exact ⟨(y293),(wrap64 (x12_1+1)),pE,H',⟨by have:=HK1.out;omega⟩,⟨pR HO295⟩,⟨by (with_reducible repeat (first|apply Kd.R_alloc|apply Kd.R_drewN|apply Kd.R_drew));exact Kd.R_mono HO_10.out (fun _ hk=>hk.2)⟩,⟨pK BK286⟩,⟨pB⟩⟩
       ·rw [if_neg c14] at H
        exact absurd H (by simp)
      ·replace c13:=Bool.eq_false_iff.mpr c13
       subst c13
       rw [if_neg (show ¬ (false=true) by decide)] at H
       have H':=Z H
       clear H
       have p291:0≤(x12_1:Int):=of_decide_eq_true (by first|(with_reducible assumption)|assumption)
       have q291:x12_1 < (t288.length:Int):=of_decide_eq_true (by first|(with_reducible assumption)|assumption)
       obtain ⟨ad291,e291,hx291_0⟩:=Kd.at_int (Kd.R_reads' HO_10.out).2.2 x12_1 p291 q291
       cases e291
       replace p291:=eq_true p291
       replace q291:=eq_true q291
       have hcz18_0:wr.cell? ⟨gb286,0,none⟩=some (.slice A0_0 l0_0.length c0_0):=(kC BK286.out 0).trans rfl
       have hfz18_0:=kF BK286.out 0
       go_wp2_with (first|((with_reducible refine gate_val (x:=.tmp 16) rfl ?_);refine goesV_ (some 19) rfl rfl (x:=.tmp 16) Try.func82 (by kernel_rfl) rfl #[.agg #[.slice A0_0 l0_0.length c0_0],.int .i64 (rd t288 x12_1)] rfl rfl pG ?_;(with_reducible refine (danger_splits.calls k1 _ _ l0_0 (rd t288 x12_1) false _ ?side1 ?side2 A12.out).mono ?_);(case side1=>repeat (first|exact (Kd.C_below HR0_0.out HB.out)|(with_reducible refine Kd.C_alloc ?_ _)|(with_reducible refine Kd.C_drewN ?_ _)|(with_reducible refine Kd.C_drew ?_)));(case side2=>exact HC0_0.out);rintro e w19 ⟨rfl,hb⟩;refine ⟨_,rfl,?_⟩;have n0_:=Z (Kd.R_below (pR HO_5) hb);have n1_:=Z (Kd.R_below (pR HO_10) hb);have n2_:=Z (blk_below (g:=gb286) (o:=.cells #[.slice A0_0 l0_0.length c0_0] 27 (0,0)) (pK BK286) hb);have n3_:=Z (below_step pB hb);clear HO_5;clear HO_10;clear BK286;clear HB;have HO_5:=n0_;have HO_10:=n1_;have BK286:=n2_;have HB:=n3_;clear n0_ n1_ n2_ n3_;(try clear hb);(try clear hb2);(try clear hk);(try clear hi)))
       go_roundg k1
       case measure=>have:=HK1.out;omega
       case rel=>exact ⟨(x5_1),(wrap64 (x12_1+1)),pE,H',⟨by have:=HK1.out;omega⟩,⟨pR HO_5⟩,⟨pR HO_10⟩,⟨pK BK286⟩,⟨pB⟩⟩
     ·rw [if_neg c11] at H
      exact absurd H (by simp)
    ·rw [if_neg c10] at H
     exact absurd H (by simp)
   ·rw [if_neg c9] at H
    have c9b0:decide (x12_1 < (t288.length:Int))=false:=decide_eq_false c9
    clear c9
    replace H:=Option.bind_eq_some_iff.mp H
    obtain ⟨t296,A200,H⟩:=H
    try dsimp only at H
    have A20:=Z A200
    clear A200
    obtain rfl:=Option.some.inj H
    obtain ⟨Ao21,co21,eo21⟩:=Kd.R_slice HO_5.out
    subst eo21
    go_wp2_with (first|((with_reducible refine gate_callee (f:=66) rfl ?_);refine goesL_ (some 26) rfl rfl Try.func66 (by kernel_rfl) rfl #[.slice Ao21 x5_1.length co21] rfl pG ?_;(with_reducible refine (nodeset_Least.calls _ _ x5_1 t296 _ ?side1 ?side2 A20.out).mono ?_);(case side1=>repeat (first|exact (Kd.R_reads' HO_5.out).2.2|(with_reducible refine Kd.C_alloc ?_ _)|(with_reducible refine Kd.C_drewN ?_ _)|(with_reducible refine Kd.C_drew ?_)));(case side2=>exact (Kd.R_reads' HO_5.out).2.1);rintro e w22 ⟨v297,rfl,ho0,hb⟩;refine ⟨_,rfl,?_⟩;have n0_:=Z (Kd.R_elder' (pR HO_5) (Kd.R_base ho0) hb);have n1_:=Z (Kd.R_elder' (pR HO_10) (Kd.R_base ho0) hb);have n2_:=Z (Kd.R_lower (Kd.R_new' (Kd.R_new' ho0 (Kd.R_lt (pR HO_5))) (Kd.R_lt (pR HO_10))) (below_size pB));have n3_:=Z (blk_below (g:=gb286) (o:=.cells #[.slice A0_0 l0_0.length c0_0] 27 (0,0)) (pK BK286) hb);have n4_:=Z (below_step pB hb);clear HO_5;clear HO_10;clear BK286;clear HB;have HO_5:=n0_;have HO_10:=n1_;have HO298:=n2_;have BK286:=n3_;have HB:=n4_;clear n0_ n1_ n2_ n3_ n4_;(try clear hb);(try clear hb2);(try clear hk);(try clear hi);(try clear ho0)))
    go_ret
    exact ⟨_,pF,by (with_reducible repeat (first|apply Kd.R_alloc|apply Kd.R_drewN|apply Kd.R_drew));exact Kd.R_mono HO298.out (fun _ hk=>trivial),pB⟩
def danger_Splitting.f (k:Nat) (l0_0:List (S34)):Option (List Int × Int):=(danger_small.f k l0_0).bind fun t960=>(if t960=0 then ((danger_least_splits.f k l0_0).bind fun t961=>(some (t961,0))) else (some (([]:List Int),t960)))
set_option maxHeartbeats 8000000 in
set_option maxRecDepth 100000 in
theorem danger_Splitting.calls (k:Nat) (A0_0:Option Addr) (c0_0:Nat) (l0_0:List (S34)) (r1:List Int) (r2:Int) (w:World) (hr0_0:Kd.C k34 w A0_0 l0_0.length l0_0) (hc0_0:l0_0.length≤c0_0) (h:danger_Splitting.f k l0_0=some (r1,r2)) :
  Calls Try.prog 47 #[.agg #[.slice A0_0 l0_0.length c0_0]] w fun e w'=>∃ v0_:Value,e=.returned (.tuple #[v0_,.int .i64 r2])∧Kd.R (Kd.int .i64) 3 w' w.heap.size (fun _=>True) v0_ r1∧Below w.heap.size w w':=by
 have hu27:=Try.underlying27
 have HR0_0:=Z hr0_0
 have HC0_0:=Z hc0_0
 clear hr0_0 hc0_0
 have HB:=Z (Below.refl w.heap.size w)
 have H:((danger_small.f k l0_0).bind fun t960=>(if t960=0 then ((danger_least_splits.f k l0_0).bind fun t961=>(some (t961,0))) else (some (([]:List Int),t960))))=some (r1,r2):=h
 clear h
 replace H:=Option.bind_eq_some_iff.mp H
 obtain ⟨t960,A20,H⟩:=H
 try dsimp only at H
 have A2:=Z A20
 clear A20
 by_cases c3:t960=0
 ·rw [if_pos c3] at H
  have c3b0:(t960 == 0)=true:=beq_iff_eq.mpr c3
  have c3b1:(t960 != 0)=false:=bne_eq_false_iff_eq.mpr c3
  clear c3
  replace H:=Option.bind_eq_some_iff.mp H
  obtain ⟨t961,A40,H⟩:=H
  try dsimp only at H
  have A4:=Z A40
  clear A40
  simp only [Option.some.injEq,Prod.mk.injEq] at H
  obtain ⟨rfl,rfl⟩:=H
  go_enter Try.func47,Try.ntmps47
  go_wp2_with (first|((with_reducible refine gate_dst (N:=1) rfl ?_);refine box_event ?hg (N:=1) ?hd (cs:=#[.slice A0_0 l0_0.length c0_0]) (t:=27) ?hr ?_;(case hd=>rfl);(case hg=>rfl);(case hr=>first|(go_simp;done)|(go_simp;rfl));intro gb959 hg w5 hbox hb;have n0_:=Z (below_step pB hb);have n1_:=Z (hbox);have n2_:=Z ((pT hg:w.heap.size≤gb959));have n3_:=Z ((pT hg:w.heap.size≤gb959));clear HB;have HB:=n0_;have BK959:=n1_;have GW959:=n2_;have GE959:=n3_;clear n0_ n1_ n2_ n3_;clear hb hbox hg;have hcz6_0:w5.cell? ⟨gb959,0,none⟩=some (.slice A0_0 l0_0.length c0_0):=(kC BK959.out 0).trans rfl;have hfz6_0:=kF BK959.out 0)|((with_reducible refine gate_callee (f:=80) rfl ?_);refine goesL_ (some 6) rfl rfl Try.func80 (by kernel_rfl) rfl #[.agg #[.slice A0_0 l0_0.length c0_0]] rfl pG ?_;(with_reducible refine (danger_small.calls k _ _ l0_0 t960 _ ?side1 ?side2 A2.out).mono ?_);(case side1=>repeat (first|exact (Kd.C_below HR0_0.out HB.out)|(with_reducible refine Kd.C_alloc ?_ _)|(with_reducible refine Kd.C_drewN ?_ _)|(with_reducible refine Kd.C_drew ?_)));(case side2=>exact HC0_0.out);rintro e w7 ⟨rfl,hb⟩;refine ⟨_,rfl,?_⟩;have n0_:=Z (blk_below (g:=gb959) (o:=.cells #[.slice A0_0 l0_0.length c0_0] 27 (0,0)) (pK BK959) hb);have n1_:=Z (below_step pB hb);clear BK959;clear HB;have BK959:=n0_;have HB:=n1_;clear n0_ n1_;(try clear hb);(try clear hb2);(try clear hk);(try clear hi);have hcz8_0:w7.cell? ⟨gb959,0,none⟩=some (.slice A0_0 l0_0.length c0_0):=(kC BK959.out 0).trans rfl;have hfz8_0:=kF BK959.out 0)|((with_reducible refine gate_callee (f:=81) rfl ?_);refine goesL_ (some 11) rfl rfl Try.func81 (by kernel_rfl) rfl #[.agg #[.slice A0_0 l0_0.length c0_0],.func (.func 82) #[] #[]] rfl pG ?_;(with_reducible refine (danger_least_splits.calls k _ _ l0_0 t961 _ ?side1 ?side2 A4.out).mono ?_);(case side1=>repeat (first|exact (Kd.C_below HR0_0.out HB.out)|(with_reducible refine Kd.C_alloc ?_ _)|(with_reducible refine Kd.C_drewN ?_ _)|(with_reducible refine Kd.C_drew ?_)));(case side2=>exact HC0_0.out);rintro e w9 ⟨v962,rfl,ho0,hb⟩;refine ⟨_,rfl,?_⟩;have n0_:=Z (Kd.R_lower ho0 (below_size pB));have n1_:=Z (blk_below (g:=gb959) (o:=.cells #[.slice A0_0 l0_0.length c0_0] 27 (0,0)) (pK BK959) hb);have n2_:=Z (below_step pB hb);clear BK959;clear HB;have HO963:=n0_;have BK959:=n1_;have HB:=n2_;clear n0_ n1_ n2_;(try clear hb);(try clear hb2);(try clear hk);(try clear hi);(try clear ho0)))
  go_ret2
  exact ⟨_,pF,pR HO963,pB⟩
 ·rw [if_neg c3] at H
  have c3b0:(t960 == 0)=false:=beq_eq_false_iff_ne.mpr c3
  have c3b1:(t960 != 0)=true:=bne_iff_ne.mpr c3
  simp only [Option.some.injEq,Prod.mk.injEq] at H
  obtain ⟨rfl,rfl⟩:=H
  go_enter Try.func47,Try.ntmps47
  go_wp2_with (first|((with_reducible refine gate_dst (N:=1) rfl ?_);refine box_event ?hg (N:=1) ?hd (cs:=#[.slice A0_0 l0_0.length c0_0]) (t:=27) ?hr ?_;(case hd=>rfl);(case hg=>rfl);(case hr=>first|(go_simp;done)|(go_simp;rfl));intro gb959 hg w10 hbox hb;have n0_:=Z (below_step pB hb);have n1_:=Z (hbox);have n2_:=Z ((pT hg:w.heap.size≤gb959));have n3_:=Z ((pT hg:w.heap.size≤gb959));clear HB;have HB:=n0_;have BK959:=n1_;have GW959:=n2_;have GE959:=n3_;clear n0_ n1_ n2_ n3_;clear hb hbox hg;have hcz11_0:w10.cell? ⟨gb959,0,none⟩=some (.slice A0_0 l0_0.length c0_0):=(kC BK959.out 0).trans rfl;have hfz11_0:=kF BK959.out 0)|((with_reducible refine gate_callee (f:=80) rfl ?_);refine goesL_ (some 6) rfl rfl Try.func80 (by kernel_rfl) rfl #[.agg #[.slice A0_0 l0_0.length c0_0]] rfl pG ?_;(with_reducible refine (danger_small.calls k _ _ l0_0 t960 _ ?side1 ?side2 A2.out).mono ?_);(case side1=>repeat (first|exact (Kd.C_below HR0_0.out HB.out)|(with_reducible refine Kd.C_alloc ?_ _)|(with_reducible refine Kd.C_drewN ?_ _)|(with_reducible refine Kd.C_drew ?_)));(case side2=>exact HC0_0.out);rintro e w12 ⟨rfl,hb⟩;refine ⟨_,rfl,?_⟩;have n0_:=Z (blk_below (g:=gb959) (o:=.cells #[.slice A0_0 l0_0.length c0_0] 27 (0,0)) (pK BK959) hb);have n1_:=Z (below_step pB hb);clear BK959;clear HB;have BK959:=n0_;have HB:=n1_;clear n0_ n1_;(try clear hb);(try clear hb2);(try clear hk);(try clear hi)))
  go_ret2
  exact ⟨_,pF,pN,pB⟩
def danger_least_halts.l0:Nat→List Int→List Int→Int→Int→List (S34)→Option (List Int)
 | 0,_,_,_,_,_=>none
 | k+1,x5,x10,x11,x12,x152000=>if x12 < x11 then (if 0≤x12 then (if x12 < (x10.length:Int) then ((danger_halts.f k x152000 (rd x10 x12)).bind fun t157=>(if t157=true then (if x5.length < 17592186044416 then (danger_least_halts.l0 k (x5++[rd x10 x12]) x10 x11 (wrap64 (x12+1)) x152000) else (none)) else (danger_least_halts.l0 k x5 x10 x11 (wrap64 (x12+1)) x152000))) else (none)) else (none)) else ((nodeset_Least.f x5).bind fun t161=>(some t161))
def danger_least_halts.f (k:Nat) (l0_0:List (S34)):Option (List Int):=(danger_members.f l0_0).bind fun t152=>((nodeset_Subsets.f t152).bind fun t153=>(danger_least_halts.l0 k ([]:List Int) t153 (t153.length:Int) 0 l0_0))
set_option maxHeartbeats 8000000 in
set_option maxRecDepth 100000 in
theorem danger_least_halts.calls (k:Nat) (A0_0:Option Addr) (c0_0:Nat) (l0_0:List (S34)) (r:List Int) (w:World) (hr0_0:Kd.C k34 w A0_0 l0_0.length l0_0) (hc0_0:l0_0.length≤c0_0) (h:danger_least_halts.f k l0_0=some r) :
  Calls Try.prog 81 #[.agg #[.slice A0_0 l0_0.length c0_0],.func (.func 83) #[] #[]] w fun e w'=>∃ v0_:Value,e=.returned (v0_)∧Kd.R (Kd.int .i64) 3 w' w.heap.size (fun _=>True) v0_ r∧Below w.heap.size w w':=by
 have hu27:=Try.underlying27
 have HR0_0:=Z hr0_0
 have HC0_0:=Z hc0_0
 clear hr0_0 hc0_0
 have HB:=Z (Below.refl w.heap.size w)
 have H:((danger_members.f l0_0).bind fun t152=>((nodeset_Subsets.f t152).bind fun t153=>(danger_least_halts.l0 k ([]:List Int) t153 (t153.length:Int) 0 l0_0)))=some r:=h
 clear h
 replace H:=Option.bind_eq_some_iff.mp H
 obtain ⟨t152,A20,H⟩:=H
 try dsimp only at H
 have A2:=Z A20
 clear A20
 replace H:=Option.bind_eq_some_iff.mp H
 obtain ⟨t153,A30,H⟩:=H
 try dsimp only at H
 have A3:=Z A30
 clear A30
 have H':=Z H
 clear H
 go_enter Try.func81,Try.ntmps81
 go_wp2_with (first|((with_reducible refine gate_dst (N:=2) rfl ?_);refine box_event ?hg (N:=2) ?hd (cs:=#[.slice A0_0 l0_0.length c0_0]) (t:=27) ?hr ?_;(case hd=>rfl);(case hg=>rfl);(case hr=>first|(go_simp;done)|(go_simp;rfl));intro gb151 hg w4 hbox hb;have n0_:=Z (below_step pB hb);have n1_:=Z (hbox);have n2_:=Z ((pT hg:w.heap.size≤gb151));have n3_:=Z ((pT hg:w.heap.size≤gb151));clear HB;have HB:=n0_;have BK151:=n1_;have GW151:=n2_;have GE151:=n3_;clear n0_ n1_ n2_ n3_;clear hb hbox hg;have hcz5_0:w4.cell? ⟨gb151,0,none⟩=some (.slice A0_0 l0_0.length c0_0):=(kC BK151.out 0).trans rfl;have hfz5_0:=kF BK151.out 0)|((with_reducible refine gate_callee (f:=104) rfl ?_);refine goesL_ (some 9) rfl rfl Try.func104 (by kernel_rfl) rfl #[.agg #[.slice A0_0 l0_0.length c0_0]] rfl pG ?_;(with_reducible refine (danger_members.calls _ _ l0_0 t152 _ ?side1 ?side2 A2.out).mono ?_);(case side1=>repeat (first|exact (Kd.C_below HR0_0.out HB.out)|(with_reducible refine Kd.C_alloc ?_ _)|(with_reducible refine Kd.C_drewN ?_ _)|(with_reducible refine Kd.C_drew ?_)));(case side2=>exact HC0_0.out);rintro e w6 ⟨rfl,hb⟩;refine ⟨_,rfl,?_⟩;have n0_:=Z (blk_below (g:=gb151) (o:=.cells #[.slice A0_0 l0_0.length c0_0] 27 (0,0)) (pK BK151) hb);have n1_:=Z (below_step pB hb);clear BK151;clear HB;have BK151:=n0_;have HB:=n1_;clear n0_ n1_;(try clear hb);(try clear hb2);(try clear hk);(try clear hi))|((with_reducible refine gate_callee (f:=64) rfl ?_);refine goesL_ (some 10) rfl rfl Try.func64 (by kernel_rfl) rfl #[.int .i64 t152] rfl pG ?_;(with_reducible refine (nodeset_Subsets.calls t152 t153 _ A3.out).mono ?_);rintro e w7 ⟨v154,rfl,ho0,hb⟩;refine ⟨_,rfl,?_⟩;have n0_:=Z (Kd.R_lower ho0 (below_size pB));have n1_:=Z (blk_below (g:=gb151) (o:=.cells #[.slice A0_0 l0_0.length c0_0] 27 (0,0)) (pK BK151) hb);have n2_:=Z (below_step pB hb);clear BK151;clear HB;have HO155:=n0_;have BK151:=n1_;have HB:=n2_;clear n0_ n1_ n2_;(try clear hb);(try clear hb2);(try clear hk);(try clear hi);(try clear ho0);obtain ⟨Ao8,co8,eo8⟩:=Kd.R_slice HO155.out;subst eo8))
 go_loopg [5,12] k (fun kq v5 v12 w'=>∃ (x5_1:List Int) (x12_1:Int),v12=.int .i64 x12_1∧Aside0 (danger_least_halts.l0 kq x5_1 t153 (t153.length:Int) x12_1 l0_0=some r)∧Aside0 (kq≤k)∧Aside0 (Kd.R (Kd.int .i64) 3 w' w.heap.size (fun k_=>some k_ ≠ ((.slice Ao8 t153.length co8):Value).ownBlock) v5 x5_1)∧Aside0 (Kd.R (Kd.int .i64) 3 w' w.heap.size (fun k_=>some k_ ≠ (v5:Value).ownBlock) (.slice Ao8 t153.length co8) t153)∧Aside0 (w'.heap[gb151]?=some (.cells #[(.slice A0_0 l0_0.length c0_0)] 27 (0,0)))∧Aside0 (Below w.heap.size w w'))
 case atStart=>exact ⟨(([]:List Int)),(0),pE,H',⟨Nat.le_refl _⟩,⟨pN⟩,⟨by (with_reducible repeat (first|apply Kd.R_alloc|apply Kd.R_drewN|apply Kd.R_drew));exact Kd.R_mono HO155.out (fun _ hk=>(by simp [Value.ownBlock]))⟩,⟨pK BK151⟩,⟨pB⟩⟩
 case round =>
  clear H'
  try clear c1
  try clear p2
  try clear c6
  try clear c8
  try clear hcz5_0
  try clear hfz5_0
  obtain ⟨x5_1,x12_1,rfl,HA,HK1,HO_5,HO_10,BK151,HB⟩:=hrel
  cases gk with
  | zero=>exact absurd HA.out (by simp [danger_least_halts.l0])
  | succ k1 =>
   have H:=HA.out
   clear HA
   simp only [danger_least_halts.l0] at H
   by_cases c9:x12_1 < (t153.length:Int)
   ·rw [if_pos c9] at H
    have c9b0:decide (x12_1 < (t153.length:Int))=true:=decide_eq_true c9
    clear c9
    by_cases c10:0≤x12_1
    ·rw [if_pos c10] at H
     have c10b0:decide (0≤x12_1)=true:=decide_eq_true c10
     clear c10
     by_cases c11:x12_1 < (t153.length:Int)
     ·rw [if_pos c11] at H
      have c11b0:decide (x12_1 < (t153.length:Int))=true:=decide_eq_true c11
      clear c11
      replace H:=Option.bind_eq_some_iff.mp H
      obtain ⟨t157,A120,H⟩:=H
      try dsimp only at H
      have A12:=Z A120
      clear A120
      by_cases c13:t157=true
      ·subst c13
       rw [if_pos rfl] at H
       by_cases c14:x5_1.length < 17592186044416
       ·rw [if_pos c14] at H
        have LMc14:=Z c14
        clear c14
        obtain ⟨y158,hy158⟩:∃ y_:List Int,y_=(x5_1++[rd t153 x12_1]):=⟨_,rfl⟩
        first|rw [← hy158] at H|(replace H:=(Option.bind_some _ _).symm.trans H;rw [← hy158] at H)
        have Ny158:=Z hy158
        clear hy158
        have H':=Z H
        clear H
        have p156:0≤(x12_1:Int):=of_decide_eq_true (by first|(with_reducible assumption)|assumption)
        have q156:x12_1 < (t153.length:Int):=of_decide_eq_true (by first|(with_reducible assumption)|assumption)
        obtain ⟨ad156,e156,hx156_0⟩:=Kd.at_int (Kd.R_reads' HO_10.out).2.2 x12_1 p156 q156
        cases e156
        replace p156:=eq_true p156
        replace q156:=eq_true q156
        have hcz15_0:wr.cell? ⟨gb151,0,none⟩=some (.slice A0_0 l0_0.length c0_0):=(kC BK151.out 0).trans rfl
        have hfz15_0:=kF BK151.out 0
        go_wp2_with (first|((with_reducible refine gate_val (x:=.tmp 16) rfl ?_);refine goesV_ (some 19) rfl rfl (x:=.tmp 16) Try.func83 (by kernel_rfl) rfl #[.agg #[.slice A0_0 l0_0.length c0_0],.int .i64 (rd t153 x12_1)] rfl rfl pG ?_;(with_reducible refine (danger_halts.calls k1 _ _ l0_0 (rd t153 x12_1) true _ ?side1 ?side2 A12.out).mono ?_);(case side1=>repeat (first|exact (Kd.C_below HR0_0.out HB.out)|(with_reducible refine Kd.C_alloc ?_ _)|(with_reducible refine Kd.C_drewN ?_ _)|(with_reducible refine Kd.C_drew ?_)));(case side2=>exact HC0_0.out);rintro e w16 ⟨rfl,hb⟩;refine ⟨_,rfl,?_⟩;have n0_:=Z (Kd.R_below (pR HO_5) hb);have n1_:=Z (Kd.R_below (pR HO_10) hb);have n2_:=Z (blk_below (g:=gb151) (o:=.cells #[.slice A0_0 l0_0.length c0_0] 27 (0,0)) (pK BK151) hb);have n3_:=Z (below_step pB hb);clear HO_5;clear HO_10;clear BK151;clear HB;have HO_5:=n0_;have HO_10:=n1_;have BK151:=n2_;have HB:=n3_;clear n0_ n1_ n2_ n3_;(try clear hb);(try clear hb2);(try clear hk);(try clear hi))|((with_reducible refine gate_builtin (b:=.append) (xs:=#[.tmp 20,.tmp 22]) rfl ?_);at_builtin;refine Kd.R_append (Kd.int .i64) (w0:=w) w.heap.size rfl (.tmp 20) (.tmp 22) 22 3 (.int .i64 0) 8 rfl Try.underlying22 info3 rfl (by decide) (by omega) u5 x5_1 (rd t153 x12_1) [.int .i64 (rd t153 x12_1)] (fun k_=>some k_ ≠ (.slice (some ad156) t153.length co8:Value).ownBlock) (fun _=>False) rfl rfl ?aP (fun _ hk=>hk.elim) ?aF ?aO ?aB ?aS ?aL ?_;(case aP=>exact rfl);(case aB=>exact pB);(case aF=>exact (fun k_ hk=>Kd.fresh' (Kd.R_lt (pR HO_10)) k_ hk));(case aO=>exact (pR HO_5));(case aS=>exact (below_size pB));(case aL=>have:=LMc14.out;omega);intro v159 w17 ho hb hg hat;rw [← Ny158.out] at ho;have n0_:=Z (Kd.R_after (ok:=(fun _=>True)) (by (with_reducible repeat (first|apply Kd.R_alloc|apply Kd.R_drewN|apply Kd.R_drew));exact Kd.R_mono HO_10.out (fun _ hk=>⟨trivial,hk⟩)) hg hat);have n1_:=Z (blk_grown (g:=gb151) (o:=.cells #[.slice A0_0 l0_0.length c0_0] 27 (0,0)) (pK BK151) hg (Kd.R_ne HO_5.out BK151.out (by decide)));have n2_:=Z (hb);have n3_:=Z (ho);clear HO_10;clear BK151;clear HB;clear HO_5;have HO_10:=n0_;have BK151:=n1_;have HB:=n2_;have HO160:=n3_;clear n0_ n1_ n2_ n3_;clear ho hb hg hat))
        go_roundg k1
        case measure=>have:=HK1.out;omega
        case rel=>exact ⟨(y158),(wrap64 (x12_1+1)),pE,H',⟨by have:=HK1.out;omega⟩,⟨pR HO160⟩,⟨by (with_reducible repeat (first|apply Kd.R_alloc|apply Kd.R_drewN|apply Kd.R_drew));exact Kd.R_mono HO_10.out (fun _ hk=>hk.2)⟩,⟨pK BK151⟩,⟨pB⟩⟩
       ·rw [if_neg c14] at H
        exact absurd H (by simp)
      ·replace c13:=Bool.eq_false_iff.mpr c13
       subst c13
       rw [if_neg (show ¬ (false=true) by decide)] at H
       have H':=Z H
       clear H
       have p156:0≤(x12_1:Int):=of_decide_eq_true (by first|(with_reducible assumption)|assumption)
       have q156:x12_1 < (t153.length:Int):=of_decide_eq_true (by first|(with_reducible assumption)|assumption)
       obtain ⟨ad156,e156,hx156_0⟩:=Kd.at_int (Kd.R_reads' HO_10.out).2.2 x12_1 p156 q156
       cases e156
       replace p156:=eq_true p156
       replace q156:=eq_true q156
       have hcz18_0:wr.cell? ⟨gb151,0,none⟩=some (.slice A0_0 l0_0.length c0_0):=(kC BK151.out 0).trans rfl
       have hfz18_0:=kF BK151.out 0
       go_wp2_with (first|((with_reducible refine gate_val (x:=.tmp 16) rfl ?_);refine goesV_ (some 19) rfl rfl (x:=.tmp 16) Try.func83 (by kernel_rfl) rfl #[.agg #[.slice A0_0 l0_0.length c0_0],.int .i64 (rd t153 x12_1)] rfl rfl pG ?_;(with_reducible refine (danger_halts.calls k1 _ _ l0_0 (rd t153 x12_1) false _ ?side1 ?side2 A12.out).mono ?_);(case side1=>repeat (first|exact (Kd.C_below HR0_0.out HB.out)|(with_reducible refine Kd.C_alloc ?_ _)|(with_reducible refine Kd.C_drewN ?_ _)|(with_reducible refine Kd.C_drew ?_)));(case side2=>exact HC0_0.out);rintro e w19 ⟨rfl,hb⟩;refine ⟨_,rfl,?_⟩;have n0_:=Z (Kd.R_below (pR HO_5) hb);have n1_:=Z (Kd.R_below (pR HO_10) hb);have n2_:=Z (blk_below (g:=gb151) (o:=.cells #[.slice A0_0 l0_0.length c0_0] 27 (0,0)) (pK BK151) hb);have n3_:=Z (below_step pB hb);clear HO_5;clear HO_10;clear BK151;clear HB;have HO_5:=n0_;have HO_10:=n1_;have BK151:=n2_;have HB:=n3_;clear n0_ n1_ n2_ n3_;(try clear hb);(try clear hb2);(try clear hk);(try clear hi)))
       go_roundg k1
       case measure=>have:=HK1.out;omega
       case rel=>exact ⟨(x5_1),(wrap64 (x12_1+1)),pE,H',⟨by have:=HK1.out;omega⟩,⟨pR HO_5⟩,⟨pR HO_10⟩,⟨pK BK151⟩,⟨pB⟩⟩
     ·rw [if_neg c11] at H
      exact absurd H (by simp)
    ·rw [if_neg c10] at H
     exact absurd H (by simp)
   ·rw [if_neg c9] at H
    have c9b0:decide (x12_1 < (t153.length:Int))=false:=decide_eq_false c9
    clear c9
    replace H:=Option.bind_eq_some_iff.mp H
    obtain ⟨t161,A200,H⟩:=H
    try dsimp only at H
    have A20:=Z A200
    clear A200
    obtain rfl:=Option.some.inj H
    obtain ⟨Ao21,co21,eo21⟩:=Kd.R_slice HO_5.out
    subst eo21
    go_wp2_with (first|((with_reducible refine gate_callee (f:=66) rfl ?_);refine goesL_ (some 26) rfl rfl Try.func66 (by kernel_rfl) rfl #[.slice Ao21 x5_1.length co21] rfl pG ?_;(with_reducible refine (nodeset_Least.calls _ _ x5_1 t161 _ ?side1 ?side2 A20.out).mono ?_);(case side1=>repeat (first|exact (Kd.R_reads' HO_5.out).2.2|(with_reducible refine Kd.C_alloc ?_ _)|(with_reducible refine Kd.C_drewN ?_ _)|(with_reducible refine Kd.C_drew ?_)));(case side2=>exact (Kd.R_reads' HO_5.out).2.1);rintro e w22 ⟨v162,rfl,ho0,hb⟩;refine ⟨_,rfl,?_⟩;have n0_:=Z (Kd.R_elder' (pR HO_5) (Kd.R_base ho0) hb);have n1_:=Z (Kd.R_elder' (pR HO_10) (Kd.R_base ho0) hb);have n2_:=Z (Kd.R_lower (Kd.R_new' (Kd.R_new' ho0 (Kd.R_lt (pR HO_5))) (Kd.R_lt (pR HO_10))) (below_size pB));have n3_:=Z (blk_below (g:=gb151) (o:=.cells #[.slice A0_0 l0_0.length c0_0] 27 (0,0)) (pK BK151) hb);have n4_:=Z (below_step pB hb);clear HO_5;clear HO_10;clear BK151;clear HB;have HO_5:=n0_;have HO_10:=n1_;have HO163:=n2_;have BK151:=n3_;have HB:=n4_;clear n0_ n1_ n2_ n3_ n4_;(try clear hb);(try clear hb2);(try clear hk);(try clear hi);(try clear ho0)))
    go_ret
    exact ⟨_,pF,by (with_reducible repeat (first|apply Kd.R_alloc|apply Kd.R_drewN|apply Kd.R_drew));exact Kd.R_mono HO163.out (fun _ hk=>trivial),pB⟩
def danger_Halting.f (k:Nat) (l0_0:List (S34)):Option (List Int × Int):=(configuration_Valid.f k l0_0).bind fun t968=>(if t968=0 then ((danger_least_halts.f k l0_0).bind fun t969=>(some (t969,0))) else (some (([]:List Int),t968)))
set_option maxHeartbeats 8000000 in
set_option maxRecDepth 100000 in
theorem danger_Halting.calls (k:Nat) (A0_0:Option Addr) (c0_0:Nat) (l0_0:List (S34)) (r1:List Int) (r2:Int) (w:World) (hr0_0:Kd.C k34 w A0_0 l0_0.length l0_0) (hc0_0:l0_0.length≤c0_0) (h:danger_Halting.f k l0_0=some (r1,r2)) :
  Calls Try.prog 48 #[.agg #[.slice A0_0 l0_0.length c0_0]] w fun e w'=>∃ v0_:Value,e=.returned (.tuple #[v0_,.int .i64 r2])∧Kd.R (Kd.int .i64) 3 w' w.heap.size (fun _=>True) v0_ r1∧Below w.heap.size w w':=by
 have hu27:=Try.underlying27
 have HR0_0:=Z hr0_0
 have HC0_0:=Z hc0_0
 clear hr0_0 hc0_0
 have HB:=Z (Below.refl w.heap.size w)
 have H:((configuration_Valid.f k l0_0).bind fun t968=>(if t968=0 then ((danger_least_halts.f k l0_0).bind fun t969=>(some (t969,0))) else (some (([]:List Int),t968))))=some (r1,r2):=h
 clear h
 replace H:=Option.bind_eq_some_iff.mp H
 obtain ⟨t968,A20,H⟩:=H
 try dsimp only at H
 have A2:=Z A20
 clear A20
 by_cases c3:t968=0
 ·rw [if_pos c3] at H
  have c3b0:(t968 == 0)=true:=beq_iff_eq.mpr c3
  have c3b1:(t968 != 0)=false:=bne_eq_false_iff_eq.mpr c3
  clear c3
  replace H:=Option.bind_eq_some_iff.mp H
  obtain ⟨t969,A40,H⟩:=H
  try dsimp only at H
  have A4:=Z A40
  clear A40
  simp only [Option.some.injEq,Prod.mk.injEq] at H
  obtain ⟨rfl,rfl⟩:=H
  go_enter Try.func48,Try.ntmps48
  go_wp2_with (first|((with_reducible refine gate_dst (N:=1) rfl ?_);refine box_event ?hg (N:=1) ?hd (cs:=#[.slice A0_0 l0_0.length c0_0]) (t:=27) ?hr ?_;(case hd=>rfl);(case hg=>rfl);(case hr=>first|(go_simp;done)|(go_simp;rfl));intro gb967 hg w5 hbox hb;have n0_:=Z (below_step pB hb);have n1_:=Z (hbox);have n2_:=Z ((pT hg:w.heap.size≤gb967));have n3_:=Z ((pT hg:w.heap.size≤gb967));clear HB;have HB:=n0_;have BK967:=n1_;have GW967:=n2_;have GE967:=n3_;clear n0_ n1_ n2_ n3_;clear hb hbox hg;have hcz6_0:w5.cell? ⟨gb967,0,none⟩=some (.slice A0_0 l0_0.length c0_0):=(kC BK967.out 0).trans rfl;have hfz6_0:=kF BK967.out 0)|((with_reducible refine gate_callee (f:=63) rfl ?_);refine goesL_ (some 6) rfl rfl Try.func63 (by kernel_rfl) rfl #[.agg #[.slice A0_0 l0_0.length c0_0]] rfl pG ?_;(with_reducible refine (configuration_Valid.calls k _ _ l0_0 t968 _ ?side1 ?side2 A2.out).mono ?_);(case side1=>repeat (first|exact (Kd.C_below HR0_0.out HB.out)|(with_reducible refine Kd.C_alloc ?_ _)|(with_reducible refine Kd.C_drewN ?_ _)|(with_reducible refine Kd.C_drew ?_)));(case side2=>exact HC0_0.out);rintro e w7 ⟨rfl,hb⟩;refine ⟨_,rfl,?_⟩;have n0_:=Z (blk_below (g:=gb967) (o:=.cells #[.slice A0_0 l0_0.length c0_0] 27 (0,0)) (pK BK967) hb);have n1_:=Z (below_step pB hb);clear BK967;clear HB;have BK967:=n0_;have HB:=n1_;clear n0_ n1_;(try clear hb);(try clear hb2);(try clear hk);(try clear hi);have hcz8_0:w7.cell? ⟨gb967,0,none⟩=some (.slice A0_0 l0_0.length c0_0):=(kC BK967.out 0).trans rfl;have hfz8_0:=kF BK967.out 0)|((with_reducible refine gate_callee (f:=81) rfl ?_);refine goesL_ (some 11) rfl rfl Try.func81 (by kernel_rfl) rfl #[.agg #[.slice A0_0 l0_0.length c0_0],.func (.func 83) #[] #[]] rfl pG ?_;(with_reducible refine (danger_least_halts.calls k _ _ l0_0 t969 _ ?side1 ?side2 A4.out).mono ?_);(case side1=>repeat (first|exact (Kd.C_below HR0_0.out HB.out)|(with_reducible refine Kd.C_alloc ?_ _)|(with_reducible refine Kd.C_drewN ?_ _)|(with_reducible refine Kd.C_drew ?_)));(case side2=>exact HC0_0.out);rintro e w9 ⟨v970,rfl,ho0,hb⟩;refine ⟨_,rfl,?_⟩;have n0_:=Z (Kd.R_lower ho0 (below_size pB));have n1_:=Z (blk_below (g:=gb967) (o:=.cells #[.slice A0_0 l0_0.length c0_0] 27 (0,0)) (pK BK967) hb);have n2_:=Z (below_step pB hb);clear BK967;clear HB;have HO971:=n0_;have BK967:=n1_;have HB:=n2_;clear n0_ n1_ n2_;(try clear hb);(try clear hb2);(try clear hk);(try clear hi);(try clear ho0)))
  go_ret2
  exact ⟨_,pF,pR HO971,pB⟩
 ·rw [if_neg c3] at H
  have c3b0:(t968 == 0)=false:=beq_eq_false_iff_ne.mpr c3
  have c3b1:(t968 != 0)=true:=bne_iff_ne.mpr c3
  simp only [Option.some.injEq,Prod.mk.injEq] at H
  obtain ⟨rfl,rfl⟩:=H
  go_enter Try.func48,Try.ntmps48
  go_wp2_with (first|((with_reducible refine gate_dst (N:=1) rfl ?_);refine box_event ?hg (N:=1) ?hd (cs:=#[.slice A0_0 l0_0.length c0_0]) (t:=27) ?hr ?_;(case hd=>rfl);(case hg=>rfl);(case hr=>first|(go_simp;done)|(go_simp;rfl));intro gb967 hg w10 hbox hb;have n0_:=Z (below_step pB hb);have n1_:=Z (hbox);have n2_:=Z ((pT hg:w.heap.size≤gb967));have n3_:=Z ((pT hg:w.heap.size≤gb967));clear HB;have HB:=n0_;have BK967:=n1_;have GW967:=n2_;have GE967:=n3_;clear n0_ n1_ n2_ n3_;clear hb hbox hg;have hcz11_0:w10.cell? ⟨gb967,0,none⟩=some (.slice A0_0 l0_0.length c0_0):=(kC BK967.out 0).trans rfl;have hfz11_0:=kF BK967.out 0)|((with_reducible refine gate_callee (f:=63) rfl ?_);refine goesL_ (some 6) rfl rfl Try.func63 (by kernel_rfl) rfl #[.agg #[.slice A0_0 l0_0.length c0_0]] rfl pG ?_;(with_reducible refine (configuration_Valid.calls k _ _ l0_0 t968 _ ?side1 ?side2 A2.out).mono ?_);(case side1=>repeat (first|exact (Kd.C_below HR0_0.out HB.out)|(with_reducible refine Kd.C_alloc ?_ _)|(with_reducible refine Kd.C_drewN ?_ _)|(with_reducible refine Kd.C_drew ?_)));(case side2=>exact HC0_0.out);rintro e w12 ⟨rfl,hb⟩;refine ⟨_,rfl,?_⟩;have n0_:=Z (blk_below (g:=gb967) (o:=.cells #[.slice A0_0 l0_0.length c0_0] 27 (0,0)) (pK BK967) hb);have n1_:=Z (below_step pB hb);clear BK967;clear HB;have BK967:=n0_;have HB:=n1_;clear n0_ n1_;(try clear hb);(try clear hb2);(try clear hk);(try clear hi)))
  go_ret2
  exact ⟨_,pF,pN,pB⟩
def danger_Tolerates.f (k:Nat) (l0_0:List (S34)):Option (Int × Int × Int):=(danger_small.f k l0_0).bind fun t976=>(if t976=0 then ((danger_least_splits.f k l0_0).bind fun t977=>((danger_tolerated.f l0_0 t977).bind fun t980=>((danger_least_halts.f k l0_0).bind fun t981=>((danger_tolerated.f l0_0 t981).bind fun t984=>(some (t980,t984,0)))))) else (some (0,0,t976)))
def danger_Tolerates.T4:Bool × List (List Nat × List Nat):=(true,[([],[]),([],[]),([1],[1]),([0,2,2],[0,2]),([],[]),([],[]),([5,3],[5]),([4,6,6],[4,6]),([3,7,0,1,2,3],[3]),([7,8,0,1,2,3,4,5,6,7,8],[7]),([9,0,1,2,3,4,5,6,7,8,9],[])])
def danger_Tolerates.B4:List Nat:=[0,0,2,7,0,0,47,127,255,511,1023]
theorem danger_Tolerates.tab4:rtab .any (opsOf Try.f49 4)=danger_Tolerates.T4:=by kernel_rfl
theorem danger_Tolerates.bits4:waitsOk danger_Tolerates.T4.2 danger_Tolerates.B4=true:=by kernel_rfl
set_option maxHeartbeats 8000000 in
set_option maxRecDepth 100000 in
theorem danger_Tolerates.calls (k:Nat) (A0_0:Option Addr) (c0_0:Nat) (l0_0:List (S34)) (r1:Int) (r2:Int) (r3:Int) (w:World) (hr0_0:Kd.C k34 w A0_0 l0_0.length l0_0) (hc0_0:l0_0.length≤c0_0) (h:danger_Tolerates.f k l0_0=some (r1,r2,r3)) :
  Calls Try.prog 49 #[.agg #[.slice A0_0 l0_0.length c0_0]] w fun e w'=>e=.returned (.tuple #[.int .i64 r1,.int .i64 r2,.int .i64 r3])∧Below w.heap.size w w':=by
 have hu27:=Try.underlying27
 have HR0_0:=Z hr0_0
 have HC0_0:=Z hc0_0
 clear hr0_0 hc0_0
 have HB:=Z (Below.refl w.heap.size w)
 have H:((danger_small.f k l0_0).bind fun t976=>(if t976=0 then ((danger_least_splits.f k l0_0).bind fun t977=>((danger_tolerated.f l0_0 t977).bind fun t980=>((danger_least_halts.f k l0_0).bind fun t981=>((danger_tolerated.f l0_0 t981).bind fun t984=>(some (t980,t984,0)))))) else (some (0,0,t976))))=some (r1,r2,r3):=h
 clear h
 replace H:=Option.bind_eq_some_iff.mp H
 obtain ⟨t976,A20,H⟩:=H
 try dsimp only at H
 have A2:=Z A20
 clear A20
 by_cases c3:t976=0
 ·rw [if_pos c3] at H
  have c3b0:(t976 == 0)=true:=beq_iff_eq.mpr c3
  have c3b1:(t976 != 0)=false:=bne_eq_false_iff_eq.mpr c3
  clear c3
  replace H:=Option.bind_eq_some_iff.mp H
  obtain ⟨t977,A40,H⟩:=H
  try dsimp only at H
  have A4:=Z A40
  clear A40
  replace H:=Option.bind_eq_some_iff.mp H
  obtain ⟨t980,A50,H⟩:=H
  try dsimp only at H
  have A5:=Z A50
  clear A50
  replace H:=Option.bind_eq_some_iff.mp H
  obtain ⟨t981,A60,H⟩:=H
  try dsimp only at H
  have A6:=Z A60
  clear A60
  replace H:=Option.bind_eq_some_iff.mp H
  obtain ⟨t984,A70,H⟩:=H
  try dsimp only at H
  have A7:=Z A70
  clear A70
  simp only [Option.some.injEq,Prod.mk.injEq] at H
  obtain ⟨rfl,rfl,rfl⟩:=H
  go_enter Try.func49,Try.ntmps49
  try go_wp2_with (first|((with_reducible refine gate_dst (N:=1) rfl ?_);refine box_event ?hg (N:=1) ?hd (cs:=#[.slice A0_0 l0_0.length c0_0]) (t:=27) ?hr ?_;(case hd=>rfl);(case hg=>rfl);(case hr=>first|(go_simp;done)|(go_simp;rfl));intro gb975 hg w8 hbox hb;have n0_:=Z (below_step pB hb);have n1_:=Z (hbox);have n2_:=Z ((pT hg:w.heap.size≤gb975));have n3_:=Z ((pT hg:w.heap.size≤gb975));clear HB;have HB:=n0_;have BK975:=n1_;have GW975:=n2_;have GE975:=n3_;clear n0_ n1_ n2_ n3_;clear hb hbox hg;have hcz9_0:w8.cell? ⟨gb975,0,none⟩=some (.slice A0_0 l0_0.length c0_0):=(kC BK975.out 0).trans rfl;have hfz9_0:=kF BK975.out 0)|((with_reducible refine gate_callee (f:=80) rfl ?_);refine goesL_ (some 7) rfl rfl Try.func80 (by kernel_rfl) rfl #[.agg #[.slice A0_0 l0_0.length c0_0]] rfl pG ?_;(with_reducible refine (danger_small.calls k _ _ l0_0 t976 _ ?side1 ?side2 A2.out).mono ?_);(case side1=>repeat (first|exact (Kd.C_below HR0_0.out HB.out)|(with_reducible refine Kd.C_alloc ?_ _)|(with_reducible refine Kd.C_drewN ?_ _)|(with_reducible refine Kd.C_drew ?_)));(case side2=>exact HC0_0.out);rintro e w10 ⟨rfl,hb⟩;refine ⟨_,rfl,?_⟩;have n0_:=Z (blk_below (g:=gb975) (o:=.cells #[.slice A0_0 l0_0.length c0_0] 27 (0,0)) (pK BK975) hb);have n1_:=Z (below_step pB hb);clear BK975;clear HB;have BK975:=n0_;have HB:=n1_;clear n0_ n1_;(try clear hb);(try clear hb2);(try clear hk);(try clear hi)))
  have n0_:=Z (kD BK975.out)
  have n1_:=Z (wD HB.out)
  clear BK975
  clear HB
  have BK975:=n0_
  have HB:=n1_
  clear n0_ n1_
  refine start_ (n:=11) (S:=fun w'=>w'.cell? ⟨gb975,0,none⟩=some (.slice A0_0 l0_0.length c0_0)) (ds:=[]) #[false,false,false,false,false,false,false,false,false,false,false] (by kernel_rfl) rfl rfl ((kC BK975.out 0).trans rfl) (fun hHeld=>?_);refine with_tabW danger_Tolerates.tab4 danger_Tolerates.bits4 (fun HT_ HW_=>?_)
  generalize w10.drew=w11 at BK975 HB hHeld ⊢
  refine take_ (i:=0) (N:=some 11) (v:=?_) (a':=?_) #[true,false,false,false,false,false,false,false,false,false,false] rfl rfl (take_ofW HT_.out HW_.out (by kernel_rfl)) (fun _ _ _ h=>h) (Or.inl ⟨by rfl,?_⟩) hHeld ?_ ?_
  rotate_left
  ·intro w' s0
   go_simp
   with_reducible rfl
  rotate_left
  ·simp only [Act.put,List.setIfInBounds_toArray,List.set_cons_zero,List.set_cons_succ,i64_w,i32_w]
   rfl
  refine take_ (i:=1) (N:=some 12) (v:=?_) (a':=?_) #[true,true,false,false,false,false,false,false,false,false,false] rfl rfl (take_ofW HT_.out HW_.out (by kernel_rfl)) (fun _ _ _ h=>h) (Or.inl ⟨by rfl,?_⟩) hHeld ?_ ?_
  rotate_left
  ·intro w' s0
   go_simp
   with_reducible rfl
  rotate_left
  ·simp only [Act.put,List.setIfInBounds_toArray,List.set_cons_zero,List.set_cons_succ,i64_w,i32_w]
   rfl
  refine take_ (i:=4) (N:=some 15) (v:=?_) (a':=?_) #[true,true,false,false,true,false,false,false,false,false,false] rfl rfl (take_ofW HT_.out HW_.out (by kernel_rfl)) (fun _ _ _ h=>h) (Or.inl ⟨by rfl,?_⟩) hHeld ?_ ?_
  rotate_left
  ·intro w' s0
   go_simp
   with_reducible rfl
  rotate_left
  ·simp only [Act.put,List.setIfInBounds_toArray,List.set_cons_zero,List.set_cons_succ,i64_w,i32_w]
   rfl
  refine take_ (i:=5) (N:=some 16) (v:=?_) (a':=?_) #[true,true,false,false,true,true,false,false,false,false,false] rfl rfl (take_ofW HT_.out HW_.out (by kernel_rfl)) (fun _ _ _ h=>h) (Or.inl ⟨by rfl,?_⟩) hHeld ?_ ?_
  rotate_left
  ·intro w' s0
   go_simp
   with_reducible rfl
  rotate_left
  ·simp only [Act.put,List.setIfInBounds_toArray,List.set_cons_zero,List.set_cons_succ,i64_w,i32_w]
   rfl
  refine one_ (i:=2) (N:=some 13) #[true,true,true,false,true,true,false,false,false,false,false] rfl rfl (one_of HT_.out (by kernel_rfl)) (by decide) (fun K hK=>?_)
  refine goes_ Try.func81 (by kernel_rfl) rfl #[.agg #[.slice A0_0 l0_0.length c0_0],.func (.func 82) #[] #[]] (by rfl) rfl rfl pG ?_
  with_reducible refine (danger_least_splits.calls k _ _ l0_0 t977 _ ?side1 ?side2 A4.out).mono ?_
  (case side1=>repeat (first|exact (Kd.C_below HR0_0.out HB.out)|(with_reducible refine Kd.C_alloc ?_ _)|(with_reducible refine Kd.C_drewN ?_ _)|(with_reducible refine Kd.C_drew ?_)))
  (case side2=>exact HC0_0.out)
  rintro e w12 ⟨v978,rfl,ho0,hb⟩
  refine ⟨_,rfl,?_⟩
  have n0_:=Z (Kd.R_lower ho0 (below_size pB))
  have n1_:=Z (blk_below (g:=gb975) (o:=.cells #[.slice A0_0 l0_0.length c0_0] 27 (0,0)) (pK BK975) hb)
  have n2_:=Z (below_step pB hb)
  clear BK975
  clear HB
  have HO979:=n0_
  have BK975:=n1_
  have HB:=n2_
  clear n0_ n1_ n2_
  (try clear hb)
  (try clear hb2)
  (try clear hk)
  (try clear hi)
  (try clear ho0)
  obtain ⟨Ao13,co13,eo13⟩:=Kd.R_slice HO979.out
  (first|subst eo13|(injection eo13 with f1_ f2_ f3_;have f4_:=f1_.symm;have f5_:=f3_.symm;clear f1_ f2_ f3_;subst f4_;subst f5_))
  refine hK.out _ _ ((kC BK975.out 0).trans rfl) (fun hHeld=>?_)
  clear hK K
  refine norm_ (a':=?_) ?_ ?_
  rotate_left
  ·show Act.put _ (some 13) _=_
   simp only [Act.put,List.setIfInBounds_toArray,List.set_cons_zero,List.set_cons_succ,i64_w,i32_w]
   rfl
  refine one_ (i:=3) (N:=some 14) #[true,true,true,true,true,true,false,false,false,false,false] rfl rfl (one_of HT_.out (by kernel_rfl)) (by decide) (fun K hK=>?_)
  refine goes_ Try.func84 (by kernel_rfl) rfl #[.agg #[.slice A0_0 l0_0.length c0_0],.slice Ao13 t977.length co13] (by rfl) rfl rfl pG ?_
  with_reducible refine (danger_tolerated.calls _ _ l0_0 _ _ t977 t980 _ ?side1 ?side2 ?side3 ?side4 A5.out).mono ?_
  (case side1=>repeat (first|exact (Kd.C_below HR0_0.out HB.out)|(with_reducible refine Kd.C_alloc ?_ _)|(with_reducible refine Kd.C_drewN ?_ _)|(with_reducible refine Kd.C_drew ?_)))
  (case side2=>exact HC0_0.out)
  (case side3=>repeat (first|exact (Kd.R_reads' HO979.out).2.2|(with_reducible refine Kd.C_alloc ?_ _)|(with_reducible refine Kd.C_drewN ?_ _)|(with_reducible refine Kd.C_drew ?_)))
  (case side4=>exact (Kd.R_reads' HO979.out).2.1)
  rintro e w14 ⟨rfl,hb⟩
  refine ⟨_,rfl,?_⟩
  have n0_:=Z (Kd.R_below (pR HO979) hb)
  have n1_:=Z (blk_below (g:=gb975) (o:=.cells #[.slice A0_0 l0_0.length c0_0] 27 (0,0)) (pK BK975) hb)
  have n2_:=Z (below_step pB hb)
  clear HO979
  clear BK975
  clear HB
  have HO979:=n0_
  have BK975:=n1_
  have HB:=n2_
  clear n0_ n1_ n2_
  (try clear hb)
  (try clear hb2)
  (try clear hk)
  (try clear hi)
  refine hK.out _ _ ((kC BK975.out 0).trans rfl) (fun hHeld=>?_)
  clear hK K
  refine norm_ (a':=?_) ?_ ?_
  rotate_left
  ·show Act.put _ (some 14) _=_
   simp only [Act.put,List.setIfInBounds_toArray,List.set_cons_zero,List.set_cons_succ,i64_w,i32_w]
   rfl
  refine one_ (i:=6) (N:=some 17) #[true,true,true,true,true,true,true,false,false,false,false] rfl rfl (one_of HT_.out (by kernel_rfl)) (by decide) (fun K hK=>?_)
  refine goes_ Try.func81 (by kernel_rfl) rfl #[.agg #[.slice A0_0 l0_0.length c0_0],.func (.func 83) #[] #[]] (by rfl) rfl rfl pG ?_
  with_reducible refine (danger_least_halts.calls k _ _ l0_0 t981 _ ?side1 ?side2 A6.out).mono ?_
  (case side1=>repeat (first|exact (Kd.C_below HR0_0.out HB.out)|(with_reducible refine Kd.C_alloc ?_ _)|(with_reducible refine Kd.C_drewN ?_ _)|(with_reducible refine Kd.C_drew ?_)))
  (case side2=>exact HC0_0.out)
  rintro e w15 ⟨v982,rfl,ho0,hb⟩
  refine ⟨_,rfl,?_⟩
  have n0_:=Z (Kd.R_elder' (pR HO979) (Kd.R_base ho0) hb)
  have n1_:=Z (Kd.R_lower (Kd.R_new' ho0 (Kd.R_lt (pR HO979))) (below_size pB))
  have n2_:=Z (blk_below (g:=gb975) (o:=.cells #[.slice A0_0 l0_0.length c0_0] 27 (0,0)) (pK BK975) hb)
  have n3_:=Z (below_step pB hb)
  clear HO979
  clear BK975
  clear HB
  have HO979:=n0_
  have HO983:=n1_
  have BK975:=n2_
  have HB:=n3_
  clear n0_ n1_ n2_ n3_
  (try clear hb)
  (try clear hb2)
  (try clear hk)
  (try clear hi)
  (try clear ho0)
  obtain ⟨Ao16,co16,eo16⟩:=Kd.R_slice HO983.out
  (first|subst eo16|(injection eo16 with f1_ f2_ f3_;have f4_:=f1_.symm;have f5_:=f3_.symm;clear f1_ f2_ f3_;subst f4_;subst f5_))
  refine hK.out _ _ ((kC BK975.out 0).trans rfl) (fun hHeld=>?_)
  clear hK K
  refine norm_ (a':=?_) ?_ ?_
  rotate_left
  ·show Act.put _ (some 17) _=_
   simp only [Act.put,List.setIfInBounds_toArray,List.set_cons_zero,List.set_cons_succ,i64_w,i32_w]
   rfl
  refine one_ (i:=7) (N:=some 18) #[true,true,true,true,true,true,true,true,false,false,false] rfl rfl (one_of HT_.out (by kernel_rfl)) (by decide) (fun K hK=>?_)
  refine goes_ Try.func84 (by kernel_rfl) rfl #[.agg #[.slice A0_0 l0_0.length c0_0],.slice Ao16 t981.length co16] (by rfl) rfl rfl pG ?_
  with_reducible refine (danger_tolerated.calls _ _ l0_0 _ _ t981 t984 _ ?side1 ?side2 ?side3 ?side4 A7.out).mono ?_
  (case side1=>repeat (first|exact (Kd.C_below HR0_0.out HB.out)|(with_reducible refine Kd.C_alloc ?_ _)|(with_reducible refine Kd.C_drewN ?_ _)|(with_reducible refine Kd.C_drew ?_)))
  (case side2=>exact HC0_0.out)
  (case side3=>repeat (first|exact (Kd.R_reads' HO983.out).2.2|(with_reducible refine Kd.C_alloc ?_ _)|(with_reducible refine Kd.C_drewN ?_ _)|(with_reducible refine Kd.C_drew ?_)))
  (case side4=>exact (Kd.R_reads' HO983.out).2.1)
  rintro e w17 ⟨rfl,hb⟩
  refine ⟨_,rfl,?_⟩
  have n0_:=Z (Kd.R_below (pR HO979) hb)
  have n1_:=Z (Kd.R_below (pR HO983) hb)
  have n2_:=Z (blk_below (g:=gb975) (o:=.cells #[.slice A0_0 l0_0.length c0_0] 27 (0,0)) (pK BK975) hb)
  have n3_:=Z (below_step pB hb)
  clear HO979
  clear HO983
  clear BK975
  clear HB
  have HO979:=n0_
  have HO983:=n1_
  have BK975:=n2_
  have HB:=n3_
  clear n0_ n1_ n2_ n3_
  (try clear hb)
  (try clear hb2)
  (try clear hk)
  (try clear hi)
  refine hK.out _ _ ((kC BK975.out 0).trans rfl) (fun hHeld=>?_)
  clear hK K
  refine norm_ (a':=?_) ?_ ?_
  rotate_left
  ·show Act.put _ (some 18) _=_
   simp only [Act.put,List.setIfInBounds_toArray,List.set_cons_zero,List.set_cons_succ,i64_w,i32_w]
   rfl
  refine pure_ (i:=8) (N:=some 2) (v:=?_) (a':=?_) #[true,true,true,true,true,true,true,true,true,false,false] rfl rfl (any_of HT_.out (by kernel_rfl)) (fun _ _ _ h=>h) (Or.inl ⟨by rfl,?_⟩) ?_ ?_
  rotate_left
  ·intro w'
   go_simp
   with_reducible rfl
  rotate_left
  ·simp only [Act.put,List.setIfInBounds_toArray,List.set_cons_zero,List.set_cons_succ,i64_w,i32_w]
   rfl
  refine pure_ (i:=9) (N:=some 3) (v:=?_) (a':=?_) #[true,true,true,true,true,true,true,true,true,true,false] rfl rfl (any_of HT_.out (by kernel_rfl)) (fun _ _ _ h=>h) (Or.inl ⟨by rfl,?_⟩) ?_ ?_
  rotate_left
  ·intro w'
   go_simp
   with_reducible rfl
  rotate_left
  ·simp only [Act.put,List.setIfInBounds_toArray,List.set_cons_zero,List.set_cons_succ,i64_w,i32_w]
   rfl
  refine pure_ (i:=10) (N:=some 4) (v:=?_) (a':=?_) #[true,true,true,true,true,true,true,true,true,true,true] rfl rfl (any_of HT_.out (by kernel_rfl)) (fun _ _ _ h=>h) (Or.inl ⟨by rfl,?_⟩) ?_ ?_
  rotate_left
  ·intro w'
   go_simp
   with_reducible rfl
  rotate_left
  ·simp only [Act.put,List.setIfInBounds_toArray,List.set_cons_zero,List.set_cons_succ,i64_w,i32_w]
   rfl
  refine done_ (done_of HT_.out (by kernel_rfl)) ?_
  try go_wp2
  go_ret3
  exact ⟨pF,pB⟩
 ·rw [if_neg c3] at H
  have c3b0:(t976 == 0)=false:=beq_eq_false_iff_ne.mpr c3
  have c3b1:(t976 != 0)=true:=bne_iff_ne.mpr c3
  simp only [Option.some.injEq,Prod.mk.injEq] at H
  obtain ⟨rfl,rfl,rfl⟩:=H
  go_enter Try.func49,Try.ntmps49
  go_wp2_with (first|((with_reducible refine gate_dst (N:=1) rfl ?_);refine box_event ?hg (N:=1) ?hd (cs:=#[.slice A0_0 l0_0.length c0_0]) (t:=27) ?hr ?_;(case hd=>rfl);(case hg=>rfl);(case hr=>first|(go_simp;done)|(go_simp;rfl));intro gb975 hg w18 hbox hb;have n0_:=Z (below_step pB hb);have n1_:=Z (hbox);have n2_:=Z ((pT hg:w.heap.size≤gb975));have n3_:=Z ((pT hg:w.heap.size≤gb975));clear HB;have HB:=n0_;have BK975:=n1_;have GW975:=n2_;have GE975:=n3_;clear n0_ n1_ n2_ n3_;clear hb hbox hg;have hcz19_0:w18.cell? ⟨gb975,0,none⟩=some (.slice A0_0 l0_0.length c0_0):=(kC BK975.out 0).trans rfl;have hfz19_0:=kF BK975.out 0)|((with_reducible refine gate_callee (f:=80) rfl ?_);refine goesL_ (some 7) rfl rfl Try.func80 (by kernel_rfl) rfl #[.agg #[.slice A0_0 l0_0.length c0_0]] rfl pG ?_;(with_reducible refine (danger_small.calls k _ _ l0_0 t976 _ ?side1 ?side2 A2.out).mono ?_);(case side1=>repeat (first|exact (Kd.C_below HR0_0.out HB.out)|(with_reducible refine Kd.C_alloc ?_ _)|(with_reducible refine Kd.C_drewN ?_ _)|(with_reducible refine Kd.C_drew ?_)));(case side2=>exact HC0_0.out);rintro e w20 ⟨rfl,hb⟩;refine ⟨_,rfl,?_⟩;have n0_:=Z (blk_below (g:=gb975) (o:=.cells #[.slice A0_0 l0_0.length c0_0] 27 (0,0)) (pK BK975) hb);have n1_:=Z (below_step pB hb);clear BK975;clear HB;have BK975:=n0_;have HB:=n1_;clear n0_ n1_;(try clear hb);(try clear hb2);(try clear hk);(try clear hi)))
  go_ret3
  exact ⟨pF,pB⟩
def trustquorumlaw16_awake.f (k:Nat) :Option (Bool):=(trustquorumlaw16_same.f k 4 3).bind fun t985=>((danger_Splitting.f k t985).bind fun bt988=>((trustquorumlaw16_same.f k 4 3).bind fun t992=>((danger_Halting.f k t992).bind fun bt995=>((trustquorumlaw16_same.f k 4 3).bind fun t999=>((danger_Tolerates.f k t999).bind fun bt1002=>(if bt988.2=0 then (if bt995.2=0 then (if bt1002.2.2=0 then ((trustquorummake_Ints.f k bt988.1 (([3,5,6,9,10,12]:List Int))).bind fun t1008=>(if t1008=true then ((trustquorummake_Ints.f k bt995.1 bt988.1).bind fun t1009=>(if t1009=true then (if bt1002.1=1 then (some (bt1002.2.1 == 1)) else (some false)) else (some false))) else (some false))) else (some false)) else (some false)) else (some false)))))))
set_option maxHeartbeats 8000000 in
set_option maxRecDepth 100000 in
theorem trustquorumlaw16_awake.calls (k:Nat)  (w:World) (h:trustquorumlaw16_awake.f k =some true) :
  Calls Try.prog 50 #[] w fun e w'=>e=.returned (.bool true)∧Below w.heap.size w w':=by
 have HB:=Z (Below.refl w.heap.size w)
 have H:((trustquorumlaw16_same.f k 4 3).bind fun t985=>((danger_Splitting.f k t985).bind fun bt988=>((trustquorumlaw16_same.f k 4 3).bind fun t992=>((danger_Halting.f k t992).bind fun bt995=>((trustquorumlaw16_same.f k 4 3).bind fun t999=>((danger_Tolerates.f k t999).bind fun bt1002=>(if bt988.2=0 then (if bt995.2=0 then (if bt1002.2.2=0 then ((trustquorummake_Ints.f k bt988.1 (([3,5,6,9,10,12]:List Int))).bind fun t1008=>(if t1008=true then ((trustquorummake_Ints.f k bt995.1 bt988.1).bind fun t1009=>(if t1009=true then (if bt1002.1=1 then (some (bt1002.2.1 == 1)) else (some false)) else (some false))) else (some false))) else (some false)) else (some false)) else (some false))))))))=some true:=h
 clear h
 replace H:=Option.bind_eq_some_iff.mp H
 obtain ⟨t985,A10,H⟩:=H
 try dsimp only at H
 have A1:=Z A10
 clear A10
 replace H:=Option.bind_eq_some_iff.mp H
 obtain ⟨⟨t988,t991⟩,A20,H⟩:=H
 try dsimp only at H
 have A2:=Z A20
 clear A20
 replace H:=Option.bind_eq_some_iff.mp H
 obtain ⟨t992,A30,H⟩:=H
 try dsimp only at H
 have A3:=Z A30
 clear A30
 replace H:=Option.bind_eq_some_iff.mp H
 obtain ⟨⟨t995,t998⟩,A40,H⟩:=H
 try dsimp only at H
 have A4:=Z A40
 clear A40
 replace H:=Option.bind_eq_some_iff.mp H
 obtain ⟨t999,A50,H⟩:=H
 try dsimp only at H
 have A5:=Z A50
 clear A50
 replace H:=Option.bind_eq_some_iff.mp H
 obtain ⟨⟨t1002,t1003,t1004⟩,A60,H⟩:=H
 try dsimp only at H
 have A6:=Z A60
 clear A60
 by_cases c7:t991=0
 ·rw [if_pos c7] at H
  have c7b0:(t991 == 0)=true:=beq_iff_eq.mpr c7
  have c7b1:(t991 != 0)=false:=bne_eq_false_iff_eq.mpr c7
  clear c7
  by_cases c8:t998=0
  ·rw [if_pos c8] at H
   have c8b0:(t998 == 0)=true:=beq_iff_eq.mpr c8
   have c8b1:(t998 != 0)=false:=bne_eq_false_iff_eq.mpr c8
   clear c8
   by_cases c9:t1004=0
   ·rw [if_pos c9] at H
    have c9b0:(t1004 == 0)=true:=beq_iff_eq.mpr c9
    have c9b1:(t1004 != 0)=false:=bne_eq_false_iff_eq.mpr c9
    clear c9
    obtain ⟨y1005,hy1005⟩:∃ y_:List Int,y_=(([3,5,6,9,10,12]:List Int)):=⟨_,rfl⟩
    first|rw [← hy1005] at H|(replace H:=(Option.bind_some _ _).symm.trans H;rw [← hy1005] at H)
    have Ny1005:=Z hy1005
    clear hy1005
    replace H:=Option.bind_eq_some_iff.mp H
    obtain ⟨t1008,A100,H⟩:=H
    try dsimp only at H
    have A10:=Z A100
    clear A100
    by_cases c11:t1008=true
    ·subst c11
     rw [if_pos rfl] at H
     replace H:=Option.bind_eq_some_iff.mp H
     obtain ⟨t1009,A120,H⟩:=H
     try dsimp only at H
     have A12:=Z A120
     clear A120
     by_cases c13:t1009=true
     ·subst c13
      rw [if_pos rfl] at H
      by_cases c14:t1002=1
      ·rw [if_pos c14] at H
       have c14b0:(t1002 == 1)=true:=beq_iff_eq.mpr c14
       have c14b1:(t1002 != 1)=false:=bne_eq_false_iff_eq.mpr c14
       clear c14
       have HT:=Z (Option.some.inj H)
       clear H
       go_enter Try.func50,Try.ntmps50
       go_wp2_with (first|((with_reducible refine gate_callee (f:=46) rfl ?_);refine goesL_ (some 9) rfl rfl Try.func46 (by kernel_rfl) rfl #[.int .i64 4,.int .i64 3] rfl pG ?_;(with_reducible refine (trustquorumlaw16_same.calls k 4 3 t985 _ A1.out).mono ?_);rintro e w15 ⟨v986,rfl,ho0,hb⟩;refine ⟨_,rfl,?_⟩;have n0_:=Z (Kd.R_lower ho0 (below_size pB));have n1_:=Z (below_step pB hb);clear HB;have HO987:=n0_;have HB:=n1_;clear n0_ n1_;(try clear hb);(try clear hb2);(try clear hk);(try clear hi);(try clear ho0);obtain ⟨Ao16,co16,eo16⟩:=Kd.R_slice HO987.out;subst eo16)|((with_reducible refine gate_callee (f:=47) rfl ?_);refine goesL_ (some 10) rfl rfl Try.func47 (by kernel_rfl) rfl #[.agg #[.slice Ao16 t985.length co16]] rfl pG ?_;(with_reducible refine (danger_Splitting.calls k _ _ t985 t988 t991 _ ?side1 ?side2 A2.out).mono ?_);(case side1=>repeat (first|exact (Kd.R_reads' HO987.out).2.2|(with_reducible refine Kd.C_alloc ?_ _)|(with_reducible refine Kd.C_drewN ?_ _)|(with_reducible refine Kd.C_drew ?_)));(case side2=>exact (Kd.R_reads' HO987.out).2.1);rintro e w17 ⟨v989,rfl,ho0,hb⟩;refine ⟨_,rfl,?_⟩;have n0_:=Z (Kd.R_elder' (pR HO987) (Kd.R_base ho0) hb);have n1_:=Z (Kd.R_lower ho0 (below_size pB));have n2_:=Z (below_step pB hb);clear HO987;clear HB;have HO987:=n0_;have HO990:=n1_;have HB:=n2_;clear n0_ n1_ n2_;(try clear hb);(try clear hb2);(try clear hk);(try clear hi);(try clear ho0))|((with_reducible refine gate_callee (f:=46) rfl ?_);refine goesL_ (some 14) rfl rfl Try.func46 (by kernel_rfl) rfl #[.int .i64 4,.int .i64 3] rfl pG ?_;(with_reducible refine (trustquorumlaw16_same.calls k 4 3 t992 _ A3.out).mono ?_);rintro e w18 ⟨v993,rfl,ho0,hb⟩;refine ⟨_,rfl,?_⟩;have n0_:=Z (Kd.R_elder' (pR HO987) (Kd.R_base ho0) hb);have n1_:=Z (Kd.R_below (pR HO990) hb);have n2_:=Z (Kd.R_lower (Kd.R_new' (Kd.R_new' ho0 (Kd.R_lt (pR HO987))) (Kd.R_lt (pR HO990))) (below_size pB));have n3_:=Z (below_step pB hb);clear HO987;clear HO990;clear HB;have HO987:=n0_;have HO990:=n1_;have HO994:=n2_;have HB:=n3_;clear n0_ n1_ n2_ n3_;(try clear hb);(try clear hb2);(try clear hk);(try clear hi);(try clear ho0);obtain ⟨Ao19,co19,eo19⟩:=Kd.R_slice HO994.out;subst eo19)|((with_reducible refine gate_callee (f:=48) rfl ?_);refine goesL_ (some 15) rfl rfl Try.func48 (by kernel_rfl) rfl #[.agg #[.slice Ao19 t992.length co19]] rfl pG ?_;(with_reducible refine (danger_Halting.calls k _ _ t992 t995 t998 _ ?side1 ?side2 A4.out).mono ?_);(case side1=>repeat (first|exact (Kd.R_reads' HO994.out).2.2|(with_reducible refine Kd.C_alloc ?_ _)|(with_reducible refine Kd.C_drewN ?_ _)|(with_reducible refine Kd.C_drew ?_)));(case side2=>exact (Kd.R_reads' HO994.out).2.1);rintro e w20 ⟨v996,rfl,ho0,hb⟩;refine ⟨_,rfl,?_⟩;have n0_:=Z (Kd.R_elder' (pR HO987) (Kd.R_base ho0) hb);have n1_:=Z (Kd.R_elder' (pR HO990) (Kd.R_base ho0) hb);have n2_:=Z (Kd.R_elder' (pR HO994) (Kd.R_base ho0) hb);have n3_:=Z (Kd.R_lower (Kd.R_new' ho0 (Kd.R_lt (pR HO990))) (below_size pB));have n4_:=Z (below_step pB hb);clear HO987;clear HO990;clear HO994;clear HB;have HO987:=n0_;have HO990:=n1_;have HO994:=n2_;have HO997:=n3_;have HB:=n4_;clear n0_ n1_ n2_ n3_ n4_;(try clear hb);(try clear hb2);(try clear hk);(try clear hi);(try clear ho0))|((with_reducible refine gate_callee (f:=46) rfl ?_);refine goesL_ (some 19) rfl rfl Try.func46 (by kernel_rfl) rfl #[.int .i64 4,.int .i64 3] rfl pG ?_;(with_reducible refine (trustquorumlaw16_same.calls k 4 3 t999 _ A5.out).mono ?_);rintro e w21 ⟨v1000,rfl,ho0,hb⟩;refine ⟨_,rfl,?_⟩;have n0_:=Z (Kd.R_elder' (pR HO987) (Kd.R_base ho0) hb);have n1_:=Z (Kd.R_below (pR HO990) hb);have n2_:=Z (Kd.R_elder' (pR HO994) (Kd.R_base ho0) hb);have n3_:=Z (Kd.R_below (pR HO997) hb);have n4_:=Z (Kd.R_lower (Kd.R_new' (Kd.R_new' (Kd.R_new' (Kd.R_new' ho0 (Kd.R_lt (pR HO987))) (Kd.R_lt (pR HO990))) (Kd.R_lt (pR HO994))) (Kd.R_lt (pR HO997))) (below_size pB));have n5_:=Z (below_step pB hb);clear HO987;clear HO990;clear HO994;clear HO997;clear HB;have HO987:=n0_;have HO990:=n1_;have HO994:=n2_;have HO997:=n3_;have HO1001:=n4_;have HB:=n5_;clear n0_ n1_ n2_ n3_ n4_ n5_;(try clear hb);(try clear hb2);(try clear hk);(try clear hi);(try clear ho0);obtain ⟨Ao22,co22,eo22⟩:=Kd.R_slice HO1001.out;subst eo22)|((with_reducible refine gate_callee (f:=49) rfl ?_);refine goesL_ (some 20) rfl rfl Try.func49 (by kernel_rfl) rfl #[.agg #[.slice Ao22 t999.length co22]] rfl pG ?_;(with_reducible refine (danger_Tolerates.calls k _ _ t999 t1002 t1003 t1004 _ ?side1 ?side2 A6.out).mono ?_);(case side1=>repeat (first|exact (Kd.R_reads' HO1001.out).2.2|(with_reducible refine Kd.C_alloc ?_ _)|(with_reducible refine Kd.C_drewN ?_ _)|(with_reducible refine Kd.C_drew ?_)));(case side2=>exact (Kd.R_reads' HO1001.out).2.1);rintro e w23 ⟨rfl,hb⟩;refine ⟨_,rfl,?_⟩;have n0_:=Z (Kd.R_below (pR HO987) hb);have n1_:=Z (Kd.R_below (pR HO990) hb);have n2_:=Z (Kd.R_below (pR HO994) hb);have n3_:=Z (Kd.R_below (pR HO997) hb);have n4_:=Z (Kd.R_below (pR HO1001) hb);have n5_:=Z (below_step pB hb);clear HO987;clear HO990;clear HO994;clear HO997;clear HO1001;clear HB;have HO987:=n0_;have HO990:=n1_;have HO994:=n2_;have HO997:=n3_;have HO1001:=n4_;have HB:=n5_;clear n0_ n1_ n2_ n3_ n4_ n5_;(try clear hb);(try clear hb2);(try clear hk);(try clear hi))|((with_reducible refine gate_dst (N:=36) rfl ?_);(try (refine gate_guard (by rfl) ?_;dsimp only));refine Kd.R_lit (Kd.int .i64) _ 3 ?hg (N:=36) ?hd (xs:=([3,5,6,9,10,12]:List Int)) (inner:=[.int .i64 3,.int .i64 5,.int .i64 6,.int .i64 9,.int .i64 10,.int .i64 12]) (ok:=fun _=>True) (okp:=fun _=>True) ?hr ?hp (fun _ hk=>hk) trivial (Below.refl _ _) (Nat.le_refl _) (by simp) ?_;(case hd=>rfl);(case hg=>rfl);(case hr=>first|(go_simp;done)|(go_simp;rfl));(case hp=>exact (Reps.one (show Kd.M (Kd.int .i64) _ _ _ 3 [.int .i64 3] from rfl) (Reps.one (show Kd.M (Kd.int .i64) _ _ _ 5 [.int .i64 5] from rfl) (Reps.one (show Kd.M (Kd.int .i64) _ _ _ 6 [.int .i64 6] from rfl) (Reps.one (show Kd.M (Kd.int .i64) _ _ _ 9 [.int .i64 9] from rfl) (Reps.one (show Kd.M (Kd.int .i64) _ _ _ 10 [.int .i64 10] from rfl) (Reps.one (show Kd.M (Kd.int .i64) _ _ _ 12 [.int .i64 12] from rfl) (Reps.none _ _))))))));intro v1006 w24 ho25 hb hg_ hnew_;clear hg_ hnew_;(first|rw [← Ny1005.out] at ho25|(simp only [Int.reduceToNat] at ho25;rw [← Ny1005.out] at ho25));have n0_:=Z (Kd.R_elder' (pR HO987) (Kd.R_base ho25) hb);have n1_:=Z (Kd.R_elder' (pR HO990) (Kd.R_base ho25) hb);have n2_:=Z (Kd.R_elder' (pR HO994) (Kd.R_base ho25) hb);have n3_:=Z (Kd.R_elder' (pR HO997) (Kd.R_base ho25) hb);have n4_:=Z (Kd.R_elder' (pR HO1001) (Kd.R_base ho25) hb);have n5_:=Z (Kd.R_lower (Kd.R_new' (Kd.R_new' ho25 (Kd.R_lt (pR HO990))) (Kd.R_lt (pR HO997))) (below_size pB));have n6_:=Z (below_step pB hb);clear HO987;clear HO990;clear HO994;clear HO997;clear HO1001;clear HB;have HO987:=n0_;have HO990:=n1_;have HO994:=n2_;have HO997:=n3_;have HO1001:=n4_;have HO1007:=n5_;have HB:=n6_;clear n0_ n1_ n2_ n3_ n4_ n5_ n6_;clear hb ho25;obtain ⟨Ao26,co26,eo26⟩:=Kd.R_slice HO990.out;subst eo26;obtain ⟨Ao27,co27,eo27⟩:=Kd.R_slice HO1007.out;subst eo27)|(go_at_call 22;(with_reducible refine (trustquorummake_Ints.calls k _ _ t988 _ _ y1005 true _ ?side1 ?side2 ?side3 ?side4 A10.out).mono ?_);(case side1=>repeat (first|exact (Kd.R_reads' HO990.out).2.2|(with_reducible refine Kd.C_alloc ?_ _)|(with_reducible refine Kd.C_drewN ?_ _)|(with_reducible refine Kd.C_drew ?_)));(case side2=>exact (Kd.R_reads' HO990.out).2.1);(case side3=>repeat (first|exact (Kd.R_reads' HO1007.out).2.2|(with_reducible refine Kd.C_alloc ?_ _)|(with_reducible refine Kd.C_drewN ?_ _)|(with_reducible refine Kd.C_drew ?_)));(case side4=>exact (Kd.R_reads' HO1007.out).2.1);rintro e w' ⟨rfl,⟨nd,rfl⟩⟩;obtain ⟨Ao28,co28,eo28⟩:=Kd.R_slice HO997.out;subst eo28)|(go_at_call 22;(with_reducible refine (trustquorummake_Ints.calls k _ _ t995 _ _ t988 true _ ?side1 ?side2 ?side3 ?side4 A12.out).mono ?_);(case side1=>repeat (first|exact (Kd.R_reads' HO997.out).2.2|(with_reducible refine Kd.C_alloc ?_ _)|(with_reducible refine Kd.C_drewN ?_ _)|(with_reducible refine Kd.C_drew ?_)));(case side2=>exact (Kd.R_reads' HO997.out).2.1);(case side3=>repeat (first|exact (Kd.R_reads' HO990.out).2.2|(with_reducible refine Kd.C_alloc ?_ _)|(with_reducible refine Kd.C_drewN ?_ _)|(with_reducible refine Kd.C_drew ?_)));(case side4=>exact (Kd.R_reads' HO990.out).2.1);rintro e w' ⟨rfl,⟨nd,rfl⟩⟩))
       go_ret
       exact ⟨by first|rfl|exact congrArg (fun b_:Bool=>Ending.returned (Value.bool b_)) HT.out|(simp [errW_none,errW_some] <;> rfl)|(simp [*,errW_none,errW_some] <;> rfl),pB⟩
      ·rw [if_neg c14] at H
       have c14b0:(t1002 == 1)=false:=beq_eq_false_iff_ne.mpr c14
       have c14b1:(t1002 != 1)=true:=bne_iff_ne.mpr c14
       exact absurd H (by simp)
     ·replace c13:=Bool.eq_false_iff.mpr c13
      subst c13
      rw [if_neg (show ¬ (false=true) by decide)] at H
      exact absurd H (by simp)
    ·replace c11:=Bool.eq_false_iff.mpr c11
     subst c11
     rw [if_neg (show ¬ (false=true) by decide)] at H
     exact absurd H (by simp)
   ·rw [if_neg c9] at H
    have c9b0:(t1004 == 0)=false:=beq_eq_false_iff_ne.mpr c9
    have c9b1:(t1004 != 0)=true:=bne_iff_ne.mpr c9
    exact absurd H (by simp)
  ·rw [if_neg c8] at H
   have c8b0:(t998 == 0)=false:=beq_eq_false_iff_ne.mpr c8
   have c8b1:(t998 != 0)=true:=bne_iff_ne.mpr c8
   exact absurd H (by simp)
 ·rw [if_neg c7] at H
  have c7b0:(t991 == 0)=false:=beq_eq_false_iff_ne.mpr c7
  have c7b1:(t991 != 0)=true:=bne_iff_ne.mpr c7
  exact absurd H (by simp)
def danger_asked.f (k:Nat) (l0_0:List (S34)) (a1:Int):Option (Int):=(configuration_Valid.f k l0_0).bind fun t1035=>(if t1035=0 then (if a1 < 0 then (some 1) else ((danger_members.f l0_0).bind fun t1036=>(if a1 > t1036 then (some 1) else (some 0)))) else (some t1035))
set_option maxHeartbeats 8000000 in
set_option maxRecDepth 100000 in
theorem danger_asked.calls (k:Nat) (A0_0:Option Addr) (c0_0:Nat) (l0_0:List (S34)) (a1:Int) (r:Int) (w:World) (hr0_0:Kd.C k34 w A0_0 l0_0.length l0_0) (hc0_0:l0_0.length≤c0_0) (h:danger_asked.f k l0_0 a1=some r) :
  Calls Try.prog 85 #[.agg #[.slice A0_0 l0_0.length c0_0],.int .i64 a1] w fun e w'=>e=.returned (.int .i64 r)∧Below w.heap.size w w':=by
 have hu27:=Try.underlying27
 have HR0_0:=Z hr0_0
 have HC0_0:=Z hc0_0
 clear hr0_0 hc0_0
 have HB:=Z (Below.refl w.heap.size w)
 have H:((configuration_Valid.f k l0_0).bind fun t1035=>(if t1035=0 then (if a1 < 0 then (some 1) else ((danger_members.f l0_0).bind fun t1036=>(if a1 > t1036 then (some 1) else (some 0)))) else (some t1035)))=some r:=h
 clear h
 replace H:=Option.bind_eq_some_iff.mp H
 obtain ⟨t1035,A30,H⟩:=H
 try dsimp only at H
 have A3:=Z A30
 clear A30
 by_cases c4:t1035=0
 ·rw [if_pos c4] at H
  have c4b0:(t1035 == 0)=true:=beq_iff_eq.mpr c4
  have c4b1:(t1035 != 0)=false:=bne_eq_false_iff_eq.mpr c4
  clear c4
  by_cases c5:a1 < 0
  ·rw [if_pos c5] at H
   have c5b0:decide (a1 < 0)=true:=decide_eq_true c5
   clear c5
   obtain rfl:=Option.some.inj H
   go_enter Try.func85,Try.ntmps85
   go_wp2_with (first|((with_reducible refine gate_dst (N:=2) rfl ?_);refine box_event ?hg (N:=2) ?hd (cs:=#[.slice A0_0 l0_0.length c0_0]) (t:=27) ?hr ?_;(case hd=>rfl);(case hg=>rfl);(case hr=>first|(go_simp;done)|(go_simp;rfl));intro gb1034 hg w6 hbox hb;have n0_:=Z (below_step pB hb);have n1_:=Z (hbox);have n2_:=Z ((pT hg:w.heap.size≤gb1034));have n3_:=Z ((pT hg:w.heap.size≤gb1034));clear HB;have HB:=n0_;have BK1034:=n1_;have GW1034:=n2_;have GE1034:=n3_;clear n0_ n1_ n2_ n3_;clear hb hbox hg;have hcz7_0:w6.cell? ⟨gb1034,0,none⟩=some (.slice A0_0 l0_0.length c0_0):=(kC BK1034.out 0).trans rfl;have hfz7_0:=kF BK1034.out 0)|((with_reducible refine gate_callee (f:=63) rfl ?_);refine goesL_ (some 7) rfl rfl Try.func63 (by kernel_rfl) rfl #[.agg #[.slice A0_0 l0_0.length c0_0]] rfl pG ?_;(with_reducible refine (configuration_Valid.calls k _ _ l0_0 t1035 _ ?side1 ?side2 A3.out).mono ?_);(case side1=>repeat (first|exact (Kd.C_below HR0_0.out HB.out)|(with_reducible refine Kd.C_alloc ?_ _)|(with_reducible refine Kd.C_drewN ?_ _)|(with_reducible refine Kd.C_drew ?_)));(case side2=>exact HC0_0.out);rintro e w8 ⟨rfl,hb⟩;refine ⟨_,rfl,?_⟩;have n0_:=Z (blk_below (g:=gb1034) (o:=.cells #[.slice A0_0 l0_0.length c0_0] 27 (0,0)) (pK BK1034) hb);have n1_:=Z (below_step pB hb);clear BK1034;clear HB;have BK1034:=n0_;have HB:=n1_;clear n0_ n1_;(try clear hb);(try clear hb2);(try clear hk);(try clear hi)))
   go_ret
   exact ⟨pF,pB⟩
  ·rw [if_neg c5] at H
   have c5b0:decide (a1 < 0)=false:=decide_eq_false c5
   clear c5
   replace H:=Option.bind_eq_some_iff.mp H
   obtain ⟨t1036,A90,H⟩:=H
   try dsimp only at H
   have A9:=Z A90
   clear A90
   by_cases c10:a1 > t1036
   ·rw [if_pos c10] at H
    have c10b0:decide (t1036 < a1)=true:=decide_eq_true c10
    clear c10
    obtain rfl:=Option.some.inj H
    go_enter Try.func85,Try.ntmps85
    go_wp2_with (first|((with_reducible refine gate_dst (N:=2) rfl ?_);refine box_event ?hg (N:=2) ?hd (cs:=#[.slice A0_0 l0_0.length c0_0]) (t:=27) ?hr ?_;(case hd=>rfl);(case hg=>rfl);(case hr=>first|(go_simp;done)|(go_simp;rfl));intro gb1034 hg w11 hbox hb;have n0_:=Z (below_step pB hb);have n1_:=Z (hbox);have n2_:=Z ((pT hg:w.heap.size≤gb1034));have n3_:=Z ((pT hg:w.heap.size≤gb1034));clear HB;have HB:=n0_;have BK1034:=n1_;have GW1034:=n2_;have GE1034:=n3_;clear n0_ n1_ n2_ n3_;clear hb hbox hg;have hcz12_0:w11.cell? ⟨gb1034,0,none⟩=some (.slice A0_0 l0_0.length c0_0):=(kC BK1034.out 0).trans rfl;have hfz12_0:=kF BK1034.out 0)|((with_reducible refine gate_callee (f:=63) rfl ?_);refine goesL_ (some 7) rfl rfl Try.func63 (by kernel_rfl) rfl #[.agg #[.slice A0_0 l0_0.length c0_0]] rfl pG ?_;(with_reducible refine (configuration_Valid.calls k _ _ l0_0 t1035 _ ?side1 ?side2 A3.out).mono ?_);(case side1=>repeat (first|exact (Kd.C_below HR0_0.out HB.out)|(with_reducible refine Kd.C_alloc ?_ _)|(with_reducible refine Kd.C_drewN ?_ _)|(with_reducible refine Kd.C_drew ?_)));(case side2=>exact HC0_0.out);rintro e w13 ⟨rfl,hb⟩;refine ⟨_,rfl,?_⟩;have n0_:=Z (blk_below (g:=gb1034) (o:=.cells #[.slice A0_0 l0_0.length c0_0] 27 (0,0)) (pK BK1034) hb);have n1_:=Z (below_step pB hb);clear BK1034;clear HB;have BK1034:=n0_;have HB:=n1_;clear n0_ n1_;(try clear hb);(try clear hb2);(try clear hk);(try clear hi);have hcz14_0:w13.cell? ⟨gb1034,0,none⟩=some (.slice A0_0 l0_0.length c0_0):=(kC BK1034.out 0).trans rfl;have hfz14_0:=kF BK1034.out 0)|(go_at_call 104;(with_reducible refine (danger_members.calls _ _ l0_0 t1036 _ ?side1 ?side2 A9.out).mono ?_);(case side1=>repeat (first|exact (Kd.C_below HR0_0.out HB.out)|(with_reducible refine Kd.C_alloc ?_ _)|(with_reducible refine Kd.C_drewN ?_ _)|(with_reducible refine Kd.C_drew ?_)));(case side2=>exact HC0_0.out);rintro e w15 ⟨rfl,hb⟩;have n0_:=Z (blk_below (g:=gb1034) (o:=.cells #[.slice A0_0 l0_0.length c0_0] 27 (0,0)) (pK BK1034) hb);have n1_:=Z (below_step pB hb);clear BK1034;clear HB;have BK1034:=n0_;have HB:=n1_;clear n0_ n1_;(try clear hb);(try clear hb2);(try clear hk);(try clear hi)))
    go_ret
    exact ⟨pF,pB⟩
   ·rw [if_neg c10] at H
    have c10b0:decide (t1036 < a1)=false:=decide_eq_false c10
    clear c10
    obtain rfl:=Option.some.inj H
    go_enter Try.func85,Try.ntmps85
    go_wp2_with (first|((with_reducible refine gate_dst (N:=2) rfl ?_);refine box_event ?hg (N:=2) ?hd (cs:=#[.slice A0_0 l0_0.length c0_0]) (t:=27) ?hr ?_;(case hd=>rfl);(case hg=>rfl);(case hr=>first|(go_simp;done)|(go_simp;rfl));intro gb1034 hg w16 hbox hb;have n0_:=Z (below_step pB hb);have n1_:=Z (hbox);have n2_:=Z ((pT hg:w.heap.size≤gb1034));have n3_:=Z ((pT hg:w.heap.size≤gb1034));clear HB;have HB:=n0_;have BK1034:=n1_;have GW1034:=n2_;have GE1034:=n3_;clear n0_ n1_ n2_ n3_;clear hb hbox hg;have hcz17_0:w16.cell? ⟨gb1034,0,none⟩=some (.slice A0_0 l0_0.length c0_0):=(kC BK1034.out 0).trans rfl;have hfz17_0:=kF BK1034.out 0)|((with_reducible refine gate_callee (f:=63) rfl ?_);refine goesL_ (some 7) rfl rfl Try.func63 (by kernel_rfl) rfl #[.agg #[.slice A0_0 l0_0.length c0_0]] rfl pG ?_;(with_reducible refine (configuration_Valid.calls k _ _ l0_0 t1035 _ ?side1 ?side2 A3.out).mono ?_);(case side1=>repeat (first|exact (Kd.C_below HR0_0.out HB.out)|(with_reducible refine Kd.C_alloc ?_ _)|(with_reducible refine Kd.C_drewN ?_ _)|(with_reducible refine Kd.C_drew ?_)));(case side2=>exact HC0_0.out);rintro e w18 ⟨rfl,hb⟩;refine ⟨_,rfl,?_⟩;have n0_:=Z (blk_below (g:=gb1034) (o:=.cells #[.slice A0_0 l0_0.length c0_0] 27 (0,0)) (pK BK1034) hb);have n1_:=Z (below_step pB hb);clear BK1034;clear HB;have BK1034:=n0_;have HB:=n1_;clear n0_ n1_;(try clear hb);(try clear hb2);(try clear hk);(try clear hi);have hcz19_0:w18.cell? ⟨gb1034,0,none⟩=some (.slice A0_0 l0_0.length c0_0):=(kC BK1034.out 0).trans rfl;have hfz19_0:=kF BK1034.out 0)|(go_at_call 104;(with_reducible refine (danger_members.calls _ _ l0_0 t1036 _ ?side1 ?side2 A9.out).mono ?_);(case side1=>repeat (first|exact (Kd.C_below HR0_0.out HB.out)|(with_reducible refine Kd.C_alloc ?_ _)|(with_reducible refine Kd.C_drewN ?_ _)|(with_reducible refine Kd.C_drew ?_)));(case side2=>exact HC0_0.out);rintro e w20 ⟨rfl,hb⟩;have n0_:=Z (blk_below (g:=gb1034) (o:=.cells #[.slice A0_0 l0_0.length c0_0] 27 (0,0)) (pK BK1034) hb);have n1_:=Z (below_step pB hb);clear BK1034;clear HB;have BK1034:=n0_;have HB:=n1_;clear n0_ n1_;(try clear hb);(try clear hb2);(try clear hk);(try clear hi)))
    go_ret
    exact ⟨pF,pB⟩
 ·rw [if_neg c4] at H
  have c4b0:(t1035 == 0)=false:=beq_eq_false_iff_ne.mpr c4
  have c4b1:(t1035 != 0)=true:=bne_iff_ne.mpr c4
  obtain rfl:=Option.some.inj H
  go_enter Try.func85,Try.ntmps85
  go_wp2_with (first|((with_reducible refine gate_dst (N:=2) rfl ?_);refine box_event ?hg (N:=2) ?hd (cs:=#[.slice A0_0 l0_0.length c0_0]) (t:=27) ?hr ?_;(case hd=>rfl);(case hg=>rfl);(case hr=>first|(go_simp;done)|(go_simp;rfl));intro gb1034 hg w21 hbox hb;have n0_:=Z (below_step pB hb);have n1_:=Z (hbox);have n2_:=Z ((pT hg:w.heap.size≤gb1034));have n3_:=Z ((pT hg:w.heap.size≤gb1034));clear HB;have HB:=n0_;have BK1034:=n1_;have GW1034:=n2_;have GE1034:=n3_;clear n0_ n1_ n2_ n3_;clear hb hbox hg;have hcz22_0:w21.cell? ⟨gb1034,0,none⟩=some (.slice A0_0 l0_0.length c0_0):=(kC BK1034.out 0).trans rfl;have hfz22_0:=kF BK1034.out 0)|((with_reducible refine gate_callee (f:=63) rfl ?_);refine goesL_ (some 7) rfl rfl Try.func63 (by kernel_rfl) rfl #[.agg #[.slice A0_0 l0_0.length c0_0]] rfl pG ?_;(with_reducible refine (configuration_Valid.calls k _ _ l0_0 t1035 _ ?side1 ?side2 A3.out).mono ?_);(case side1=>repeat (first|exact (Kd.C_below HR0_0.out HB.out)|(with_reducible refine Kd.C_alloc ?_ _)|(with_reducible refine Kd.C_drewN ?_ _)|(with_reducible refine Kd.C_drew ?_)));(case side2=>exact HC0_0.out);rintro e w23 ⟨rfl,hb⟩;refine ⟨_,rfl,?_⟩;have n0_:=Z (blk_below (g:=gb1034) (o:=.cells #[.slice A0_0 l0_0.length c0_0] 27 (0,0)) (pK BK1034) hb);have n1_:=Z (below_step pB hb);clear BK1034;clear HB;have BK1034:=n0_;have HB:=n1_;clear n0_ n1_;(try clear hb);(try clear hb2);(try clear hk);(try clear hi)))
  go_ret
  exact ⟨pF,pB⟩
def danger_Splits.f (k:Nat) (l0_0:List (S34)) (a1:Int):Option (Bool × Int):=(danger_asked.f k l0_0 a1).bind fun t1038=>(if t1038=0 then ((danger_splits.f k l0_0 a1).bind fun t1039=>(some (t1039,0))) else (some (false,t1038)))
set_option maxHeartbeats 8000000 in
set_option maxRecDepth 100000 in
theorem danger_Splits.calls (k:Nat) (A0_0:Option Addr) (c0_0:Nat) (l0_0:List (S34)) (a1:Int) (r1:Bool) (r2:Int) (w:World) (hr0_0:Kd.C k34 w A0_0 l0_0.length l0_0) (hc0_0:l0_0.length≤c0_0) (h:danger_Splits.f k l0_0 a1=some (r1,r2)) :
  Calls Try.prog 51 #[.agg #[.slice A0_0 l0_0.length c0_0],.int .i64 a1] w fun e w'=>e=.returned (.tuple #[.bool r1,.int .i64 r2])∧Below w.heap.size w w':=by
 have hu27:=Try.underlying27
 have HR0_0:=Z hr0_0
 have HC0_0:=Z hc0_0
 clear hr0_0 hc0_0
 have HB:=Z (Below.refl w.heap.size w)
 have H:((danger_asked.f k l0_0 a1).bind fun t1038=>(if t1038=0 then ((danger_splits.f k l0_0 a1).bind fun t1039=>(some (t1039,0))) else (some (false,t1038))))=some (r1,r2):=h
 clear h
 replace H:=Option.bind_eq_some_iff.mp H
 obtain ⟨t1038,A30,H⟩:=H
 try dsimp only at H
 have A3:=Z A30
 clear A30
 by_cases c4:t1038=0
 ·rw [if_pos c4] at H
  have c4b0:(t1038 == 0)=true:=beq_iff_eq.mpr c4
  have c4b1:(t1038 != 0)=false:=bne_eq_false_iff_eq.mpr c4
  clear c4
  replace H:=Option.bind_eq_some_iff.mp H
  obtain ⟨t1039,A50,H⟩:=H
  try dsimp only at H
  have A5:=Z A50
  clear A50
  simp only [Option.some.injEq,Prod.mk.injEq] at H
  obtain ⟨rfl,rfl⟩:=H
  go_enter Try.func51,Try.ntmps51
  go_wp2_with (first|((with_reducible refine gate_dst (N:=2) rfl ?_);refine box_event ?hg (N:=2) ?hd (cs:=#[.slice A0_0 l0_0.length c0_0]) (t:=27) ?hr ?_;(case hd=>rfl);(case hg=>rfl);(case hr=>first|(go_simp;done)|(go_simp;rfl));intro gb1037 hg w6 hbox hb;have n0_:=Z (below_step pB hb);have n1_:=Z (hbox);have n2_:=Z ((pT hg:w.heap.size≤gb1037));have n3_:=Z ((pT hg:w.heap.size≤gb1037));clear HB;have HB:=n0_;have BK1037:=n1_;have GW1037:=n2_;have GE1037:=n3_;clear n0_ n1_ n2_ n3_;clear hb hbox hg;have hcz7_0:w6.cell? ⟨gb1037,0,none⟩=some (.slice A0_0 l0_0.length c0_0):=(kC BK1037.out 0).trans rfl;have hfz7_0:=kF BK1037.out 0)|((with_reducible refine gate_callee (f:=85) rfl ?_);refine goesL_ (some 9) rfl rfl Try.func85 (by kernel_rfl) rfl #[.agg #[.slice A0_0 l0_0.length c0_0],.int .i64 a1] rfl pG ?_;(with_reducible refine (danger_asked.calls k _ _ l0_0 a1 t1038 _ ?side1 ?side2 A3.out).mono ?_);(case side1=>repeat (first|exact (Kd.C_below HR0_0.out HB.out)|(with_reducible refine Kd.C_alloc ?_ _)|(with_reducible refine Kd.C_drewN ?_ _)|(with_reducible refine Kd.C_drew ?_)));(case side2=>exact HC0_0.out);rintro e w8 ⟨rfl,hb⟩;refine ⟨_,rfl,?_⟩;have n0_:=Z (blk_below (g:=gb1037) (o:=.cells #[.slice A0_0 l0_0.length c0_0] 27 (0,0)) (pK BK1037) hb);have n1_:=Z (below_step pB hb);clear BK1037;clear HB;have BK1037:=n0_;have HB:=n1_;clear n0_ n1_;(try clear hb);(try clear hb2);(try clear hk);(try clear hi);have hcz9_0:w8.cell? ⟨gb1037,0,none⟩=some (.slice A0_0 l0_0.length c0_0):=(kC BK1037.out 0).trans rfl;have hfz9_0:=kF BK1037.out 0)|((with_reducible refine gate_callee (f:=82) rfl ?_);refine goesL_ (some 15) rfl rfl Try.func82 (by kernel_rfl) rfl #[.agg #[.slice A0_0 l0_0.length c0_0],.int .i64 a1] rfl pG ?_;(with_reducible refine (danger_splits.calls k _ _ l0_0 a1 t1039 _ ?side1 ?side2 A5.out).mono ?_);(case side1=>repeat (first|exact (Kd.C_below HR0_0.out HB.out)|(with_reducible refine Kd.C_alloc ?_ _)|(with_reducible refine Kd.C_drewN ?_ _)|(with_reducible refine Kd.C_drew ?_)));(case side2=>exact HC0_0.out);rintro e w10 ⟨rfl,hb⟩;refine ⟨_,rfl,?_⟩;have n0_:=Z (blk_below (g:=gb1037) (o:=.cells #[.slice A0_0 l0_0.length c0_0] 27 (0,0)) (pK BK1037) hb);have n1_:=Z (below_step pB hb);clear BK1037;clear HB;have BK1037:=n0_;have HB:=n1_;clear n0_ n1_;(try clear hb);(try clear hb2);(try clear hk);(try clear hi)))
  go_ret2
  exact ⟨pF,pB⟩
 ·rw [if_neg c4] at H
  have c4b0:(t1038 == 0)=false:=beq_eq_false_iff_ne.mpr c4
  have c4b1:(t1038 != 0)=true:=bne_iff_ne.mpr c4
  simp only [Option.some.injEq,Prod.mk.injEq] at H
  obtain ⟨rfl,rfl⟩:=H
  go_enter Try.func51,Try.ntmps51
  go_wp2_with (first|((with_reducible refine gate_dst (N:=2) rfl ?_);refine box_event ?hg (N:=2) ?hd (cs:=#[.slice A0_0 l0_0.length c0_0]) (t:=27) ?hr ?_;(case hd=>rfl);(case hg=>rfl);(case hr=>first|(go_simp;done)|(go_simp;rfl));intro gb1037 hg w11 hbox hb;have n0_:=Z (below_step pB hb);have n1_:=Z (hbox);have n2_:=Z ((pT hg:w.heap.size≤gb1037));have n3_:=Z ((pT hg:w.heap.size≤gb1037));clear HB;have HB:=n0_;have BK1037:=n1_;have GW1037:=n2_;have GE1037:=n3_;clear n0_ n1_ n2_ n3_;clear hb hbox hg;have hcz12_0:w11.cell? ⟨gb1037,0,none⟩=some (.slice A0_0 l0_0.length c0_0):=(kC BK1037.out 0).trans rfl;have hfz12_0:=kF BK1037.out 0)|((with_reducible refine gate_callee (f:=85) rfl ?_);refine goesL_ (some 9) rfl rfl Try.func85 (by kernel_rfl) rfl #[.agg #[.slice A0_0 l0_0.length c0_0],.int .i64 a1] rfl pG ?_;(with_reducible refine (danger_asked.calls k _ _ l0_0 a1 t1038 _ ?side1 ?side2 A3.out).mono ?_);(case side1=>repeat (first|exact (Kd.C_below HR0_0.out HB.out)|(with_reducible refine Kd.C_alloc ?_ _)|(with_reducible refine Kd.C_drewN ?_ _)|(with_reducible refine Kd.C_drew ?_)));(case side2=>exact HC0_0.out);rintro e w13 ⟨rfl,hb⟩;refine ⟨_,rfl,?_⟩;have n0_:=Z (blk_below (g:=gb1037) (o:=.cells #[.slice A0_0 l0_0.length c0_0] 27 (0,0)) (pK BK1037) hb);have n1_:=Z (below_step pB hb);clear BK1037;clear HB;have BK1037:=n0_;have HB:=n1_;clear n0_ n1_;(try clear hb);(try clear hb2);(try clear hk);(try clear hi)))
  go_ret2
  exact ⟨pF,pB⟩
theorem not_ne {a b:Bool} (h:((!a) != b)=false):(a == b)=false∧decide (a=b)=false∧(b == a)=false∧(a=b)=False∧(a=!b)=True:=by revert h;cases a <;> cases b <;> simp
mutual
def trustquorumlaw16_DangerLeast.l0:Nat→Int→List Int→Int→List (S34)→Option (Bool)
 | 0,_,_,_,_=>none
 | k+1,x5,x6,x8,x1049000=>if x8≤x5 then ((danger_Splits.f k x1049000 x8).bind fun bt1054=>(trustquorumlaw16_DangerLeast.l1 k x5 x6 x8 bt1054.1 bt1054.2 false x6 (x6.length:Int) 0 x1049000)) else ((trustquorumlaw16_awake.f k).bind fun t1053=>(some t1053))
def trustquorumlaw16_DangerLeast.l1:Nat→Int→List Int→Int→Bool→Int→Bool→List Int→Int→Int→List (S34)→Option (Bool)
 | 0,_,_,_,_,_,_,_,_,_,_=>none
 | k+1,x5,x6,x8,x9,x10,x11,x41,x42,x43,x1049000=>if x43 < x42 then (if 0≤x43 then (if x43 < (x41.length:Int) then (if x11=true then (trustquorumlaw16_DangerLeast.l1 k x5 x6 x8 x9 x10 true x41 x42 (wrap64 (x43+1)) x1049000) else (if (rd x41 x43)=x8 then (trustquorumlaw16_DangerLeast.l1 k x5 x6 x8 x9 x10 false x41 x42 (wrap64 (x43+1)) x1049000) else (trustquorumlaw16_DangerLeast.l1 k x5 x6 x8 x9 x10 ((Go.bits .and .i64 x8 (rd x41 x43)) == (rd x41 x43)) x41 x42 (wrap64 (x43+1)) x1049000))) else (none)) else (none)) else (if x10=0 then (if x9=true then ((trustquorummake_In.f k x6 x8).bind fun t1057=>(if ((!x11) != t1057)=true then (some false) else (trustquorumlaw16_DangerLeast.l0 k x5 x6 (wrap64 (x8+1)) x1049000))) else ((trustquorummake_In.f k x6 x8).bind fun t1058=>(if t1058=true then (some false) else (trustquorumlaw16_DangerLeast.l0 k x5 x6 (wrap64 (x8+1)) x1049000)))) else (some false))
end
def trustquorumlaw16_DangerLeast.f (k:Nat) (l0:List Int):Option (Bool):=(trustquorummake_New.f l0).bind fun bt1041=>((trustquorummake_Config.f k bt1041.1 bt1041.2 6).bind fun bt1044=>((danger_Splitting.f k bt1044.1).bind fun bt1049=>(if bt1049.2=0 then (trustquorumlaw16_DangerLeast.l0 k (wrap64 ((shl .i64 1 (bt1044.1.length:Int)) - 1)) bt1049.1 0 bt1044.1) else (some false))))
set_option maxHeartbeats 8000000 in
set_option maxRecDepth 100000 in
theorem trustquorumlaw16_DangerLeast.calls (k:Nat) (A0:Option Addr) (c0:Nat) (l0:List Int) (w:World) (hr0:Kd.C (Kd.int .i64) w A0 l0.length l0) (hc0:l0.length≤c0) (h:trustquorumlaw16_DangerLeast.f k l0=some true) :
  Calls Try.prog 13 #[.slice A0 l0.length c0] w fun e w'=>e=.returned (.bool true)∧Below w.heap.size w w':=by
 have hu27:=Try.underlying27
 have HR0:=Z hr0
 have HC0:=Z hc0
 clear hr0 hc0
 have HB:=Z (Below.refl w.heap.size w)
 have H:((trustquorummake_New.f l0).bind fun bt1041=>((trustquorummake_Config.f k bt1041.1 bt1041.2 6).bind fun bt1044=>((danger_Splitting.f k bt1044.1).bind fun bt1049=>(if bt1049.2=0 then (trustquorumlaw16_DangerLeast.l0 k (wrap64 ((shl .i64 1 (bt1044.1.length:Int)) - 1)) bt1049.1 0 bt1044.1) else (some false)))))=some true:=h
 clear h
 replace H:=Option.bind_eq_some_iff.mp H
 obtain ⟨⟨t1041,t1042⟩,A20,H⟩:=H
 try dsimp only at H
 have A2:=Z A20
 clear A20
 replace H:=Option.bind_eq_some_iff.mp H
 obtain ⟨⟨t1044,t1047⟩,A30,H⟩:=H
 try dsimp only at H
 have A3:=Z A30
 clear A30
 obtain ⟨ji4,hji4⟩:∃ j_:Int,(shl .i64 1 (t1044.length:Int))=j_:=⟨_,rfl⟩
 replace H:((danger_Splitting.f k t1044).bind fun bt1049=>(if bt1049.2=0 then (trustquorumlaw16_DangerLeast.l0 k (wrap64 ((ji4) - 1)) bt1049.1 0 t1044) else (some false)))=some true:=by first|(rw [hji4] at H;exact H)|(simp only [hji4] at H ⊢;exact H)
 (try rw [hji4] at A2)
 (try rw [hji4] at A3)
 have hji4_:(IntKind.i64.wrap (1 * 2 ^ min (t1044.length:Int).toNat 64))=ji4:=hji4
 have hji4z:(t1044.length:Int)≤64→(IntKind.i64.wrap (1 * 2 ^ (t1044.length:Int).toNat))=ji4:=shl_small hji4
 have hji4p:(IntKind.i64.wrap (1 * 2 ^ min t1044.length 64))=ji4:=hji4_
 have hji4q:(t1044.length:Int)≤64→(IntKind.i64.wrap (1 * 2 ^ t1044.length))=ji4:=hji4z
 have hji4r:(IntKind.i64.wrap (2 ^ min t1044.length 64))=ji4:=by have h_:=hji4p;rw [Int.one_mul] at h_;exact h_
 have hji4s:(t1044.length:Int)≤64→(IntKind.i64.wrap (2 ^ t1044.length))=ji4:=fun hle_=>by have h_:=hji4q hle_;rw [Int.one_mul] at h_;exact h_
 have hji4u:(IntKind.i64.wrap (2 ^ min (t1044.length:Int).toNat 64))=ji4:=by have h_:=hji4_;rw [Int.one_mul] at h_;exact h_
 have hji4v:(t1044.length:Int)≤64→(IntKind.i64.wrap (2 ^ (t1044.length:Int).toNat))=ji4:=fun hle_=>by have h_:=hji4z hle_;rw [Int.one_mul] at h_;exact h_
 have hji4y:(wrap64 (1 * 2 ^ min (t1044.length:Int).toNat 64))=ji4:=(i64_w _).symm.trans hji4_
 have hji4x:(t1044.length:Int)≤64→(wrap64 (1 * 2 ^ (t1044.length:Int).toNat))=ji4:=fun h_=>(i64_w _).symm.trans (hji4z h_)
 replace H:=Option.bind_eq_some_iff.mp H
 obtain ⟨⟨t1049,t1052⟩,A50,H⟩:=H
 try dsimp only at H
 have A5:=Z A50
 clear A50
 by_cases c6:t1052=0
 ·rw [if_pos c6] at H
  have c6b0:(t1052 == 0)=true:=beq_iff_eq.mpr c6
  have c6b1:(t1052 != 0)=false:=bne_eq_false_iff_eq.mpr c6
  clear c6
  have H':=Z H
  clear H
  go_enter Try.func13,Try.ntmps13
  go_wp2_with (first|((with_reducible refine gate_callee (f:=14) rfl ?_);refine goesL_ (some 15) rfl rfl Try.func14 (by kernel_rfl) rfl #[.slice A0 l0.length c0] rfl pG ?_;(with_reducible refine (trustquorummake_New.calls _ _ l0 t1041 t1042 w _ ?side1 ?side2 ?side3 A2.out).mono ?_);(case side1=>exact pB);(case side2=>exact HR0.out);(case side3=>exact HC0.out);rintro e w7 ⟨g1043,rfl,hi,hb,hb2⟩;refine ⟨_,rfl,?_⟩;have n0_:=Z (hb);have n1_:=Z (hi);clear HB;have HB:=n0_;have HI1043:=n1_;clear n0_ n1_;(try clear hb);(try clear hb2);(try clear hk);(try clear hi))|((with_reducible refine gate_callee (f:=15) rfl ?_);refine goesL_ (some 17) rfl rfl Try.func15 (by kernel_rfl) rfl #[.pointer (some ⟨g1043,0,none⟩),.int .i64 6] rfl pG ?_;(with_reducible refine (trustquorummake_Config.calls k g1043 t1041 t1042 6 t1044 t1047 w _ ?side1 ?side2 A3.out).mono ?_);(case side1=>repeat (first|(with_reducible first|exact HI1043.out|apply IsS71.alloc|apply IsS71.drewN|apply IsS71.drew|apply IsS71.set_1)|exact HI1043.out));(case side2=>repeat (first|(with_reducible first|exact HB.out|apply wA|apply wN|apply wD|refine wS ?_ (IsS71.ge HI1043.out))|exact HB.out));rintro e w8 ⟨v1045,rfl,ho0,hi,hb,hk⟩;refine ⟨_,rfl,?_⟩;have n0_:=Z (Kd.R_lower ho0 (below_size (by repeat (first|(with_reducible first|exact HB.out|apply wA|apply wN|apply wD|refine wS ?_ (IsS71.ge HI1043.out))|exact HB.out))));have n1_:=Z (hb);have n2_:=Z (hi);clear HB;clear HI1043;have HO1046:=n0_;have HB:=n1_;have HI1043:=n2_;clear n0_ n1_ n2_;(try clear hb);(try clear hb2);(try clear hk);(try clear hi);(try clear ho0))|((with_reducible refine gate_dst (N:=4) rfl ?_);refine box_event ?hg (N:=4) ?hd (cs:=#[.slice none 0 0]) (t:=27) ?hr ?_;(case hd=>rfl);(case hg=>rfl);(case hr=>first|(go_simp;done)|(go_simp;rfl));intro gb1048 hg w9 hbox hb;have n0_:=Z (Kd.R_below (pR HO1046) hb);have n1_:=Z (IsS71.below (by repeat (first|(with_reducible first|exact HI1043.out|apply IsS71.alloc|apply IsS71.drewN|apply IsS71.drew|apply IsS71.set_1)|exact HI1043.out)) hb);have n2_:=Z (below_step (by repeat (first|(with_reducible first|exact HB.out|apply wA|apply wN|apply wD|refine wS ?_ (IsS71.ge HI1043.out))|exact HB.out)) hb);have n3_:=Z (hbox);have n4_:=Z ((by rw [hg];exact (below_size (by repeat (first|(with_reducible first|exact HB.out|apply wA|apply wN|apply wD|refine wS ?_ (IsS71.ge HI1043.out))|exact HB.out))):w.heap.size≤gb1048));have n5_:=Z ((by rw [hg];exact (below_size (by repeat (first|(with_reducible first|exact HB.out|apply wA|apply wN|apply wD|refine wS ?_ (IsS71.ge HI1043.out))|exact HB.out))):w.heap.size≤gb1048));have n6_:=Z ((by rw [hg];exact Nat.ne_of_lt (IsS71.lt (show IsS71 w _ g1043 t1041 t1047 from by repeat (first|(with_reducible first|exact HI1043.out|apply IsS71.alloc|apply IsS71.drewN|apply IsS71.drew|apply IsS71.set_1)|exact HI1043.out))):g1043 ≠ gb1048));have n7_:=Z ((by rw [hg];exact Nat.ne_of_gt (IsS71.lt (show IsS71 w _ g1043 t1041 t1047 from by repeat (first|(with_reducible first|exact HI1043.out|apply IsS71.alloc|apply IsS71.drewN|apply IsS71.drew|apply IsS71.set_1)|exact HI1043.out))):gb1048 ≠ g1043));clear HO1046;clear HI1043;clear HB;have HO1046:=n0_;have HI1043:=n1_;have HB:=n2_;have BK1048:=n3_;have GW1048:=n4_;have GE1048:=n5_;have NB1043_1048:=n6_;have NB1048_1043:=n7_;clear n0_ n1_ n2_ n3_ n4_ n5_ n6_ n7_;clear hb hbox hg;obtain ⟨Ao10,co10,eo10⟩:=Kd.R_slice HO1046.out;subst eo10;have hnb11:=NB1048_1043.out;have hnc11:=NB1043_1048.out;have hcz12_0:w9.cell? ⟨gb1048,0,none⟩=some (.slice none 0 0):=(kC BK1048.out 0).trans rfl;have hfz12_0:=kF BK1048.out 0)|((with_reducible refine gate_callee (f:=47) rfl ?_);refine goesL_ (some 25) rfl rfl Try.func47 (by kernel_rfl) rfl #[.agg #[.slice Ao10 t1044.length co10]] rfl pG ?_;(with_reducible refine (danger_Splitting.calls k _ _ t1044 t1049 t1052 _ ?side1 ?side2 A5.out).mono ?_);(case side1=>refine (Kd.R_reads' (e:=34) (base:=w.heap.size) (ok:=fun k_=>True) (n:=t1044.length) (c:=co10) ?_).2.2;exact (by (with_reducible repeat (first|apply Kd.R_alloc|apply Kd.R_drewN|apply Kd.R_drew));exact (Kd.R_mono (Kd.R_far (p:=⟨gb1048,0,none⟩) (Kd.R_types HO1046.out BK1048.out (by decide)) (fun _ hk=>hk.2) (.slice Ao10 t1044.length co10)) (fun _ h_=>h_.1))));(case side2=>exact (Kd.R_reads' HO1046.out).2.1);rintro e w13 ⟨v1050,rfl,ho0,hb⟩;refine ⟨_,rfl,?_⟩;have n0_:=Z (Kd.R_elder' (by (with_reducible repeat (first|apply Kd.R_alloc|apply Kd.R_drewN|apply Kd.R_drew));exact (Kd.R_mono (Kd.R_far (p:=⟨gb1048,0,none⟩) (Kd.R_types HO1046.out BK1048.out (by decide)) (fun _ hk=>hk.2) (.slice Ao10 t1044.length co10)) (fun _ h_=>h_.1))) (Kd.R_base ho0) hb);have n1_:=Z (Kd.R_lower ho0 (below_size (by repeat (first|(with_reducible first|exact HB.out|apply wA|apply wN|apply wD|refine wS ?_ (IsS71.ge HI1043.out)|refine wS ?_ GE1048.out)|exact HB.out))));have n2_:=Z (IsS71.below (show IsS71 w (w9.setCell ⟨gb1048,0,none⟩ (.slice Ao10 t1044.length co10)) g1043 t1041 t1047 from by repeat (first|(with_reducible first|exact HI1043.out|apply IsS71.alloc|apply IsS71.drewN|apply IsS71.drew|apply IsS71.set_1|refine IsS71.far ?_ NB1043_1048.out _)|exact HI1043.out)) hb);have n3_:=Z (blk_below (g:=gb1048) (o:=.cells #[.slice Ao10 t1044.length co10] 27 (0,0)) (by (with_reducible repeat (first|refine kN ?_ _|refine kD ?_|refine kA ?_ _));refine blk_put (cs:=#[.slice none 0 0]) ?_ 0 _ rfl;(with_reducible repeat (first|refine kN ?_ _|refine kD ?_|refine kA ?_ _));exact BK1048.out) hb);have n4_:=Z (below_step (by repeat (first|(with_reducible first|exact HB.out|apply wA|apply wN|apply wD|refine wS ?_ (IsS71.ge HI1043.out)|refine wS ?_ GE1048.out)|exact HB.out)) hb);clear HO1046;clear HI1043;clear BK1048;clear HB;have HO1046:=n0_;have HO1051:=n1_;have HI1043:=n2_;have BK1048:=n3_;have HB:=n4_;clear n0_ n1_ n2_ n3_ n4_;(try clear hb);(try clear hb2);(try clear hk);(try clear hi);(try clear ho0)))
  go_loopg [8] k (fun kq v8 w'=>∃ (x8_1:Int),v8=.int .i64 x8_1∧Aside0 (trustquorumlaw16_DangerLeast.l0 kq (wrap64 ((ji4) - 1)) t1049 x8_1 t1044=some true)∧Aside0 (kq≤k)∧Aside0 (Kd.R (Kd.int .i64) 3 w' w.heap.size (fun _=>True) v1050 t1049)∧Aside0 (Kd.R k34 34 w' w.heap.size (fun k_=>some k_ ≠ (v1050:Value).ownBlock) (.slice Ao10 t1044.length co10) t1044)∧Aside0 (w'.heap[gb1048]?=some (.cells #[(.slice Ao10 t1044.length co10)] 27 (0,0)))∧Aside0 (Below w.heap.size w w'))
  case atStart=>exact ⟨(0),pE,H',⟨Nat.le_refl _⟩,⟨pR HO1051⟩,⟨by (with_reducible repeat (first|apply Kd.R_alloc|apply Kd.R_drewN|apply Kd.R_drew));exact Kd.R_mono HO1046.out (fun _ hk=>hk.2)⟩,⟨pK BK1048⟩,⟨by repeat (first|(with_reducible first|exact HB.out|apply wA|apply wN|apply wD|refine wS ?_ (IsS71.ge HI1043.out)|refine wS ?_ GE1048.out)|exact HB.out)⟩⟩
  case round =>
   clear H'
   try clear c1
   try clear p2
   try clear c4
   try clear c6
   try clear c6b0
   try clear c6b1
   try clear p6
   try clear c11
   try clear c13
   try clear hcz12_0
   try clear hfz12_0
   obtain ⟨x8_1,rfl,HA,HK1,HO_6,HO_1049000,BK1048,HB⟩:=hrel
   cases gk with
   | zero=>exact absurd HA.out (by simp [trustquorumlaw16_DangerLeast.l0])
   | succ k1 =>
    have H:=HA.out
    clear HA
    simp only [trustquorumlaw16_DangerLeast.l0] at H
    by_cases c14:x8_1≤(wrap64 ((ji4) - 1))
    ·rw [if_pos c14] at H
     have c14b0:decide (x8_1≤(wrap64 ((ji4) - 1)))=true:=decide_eq_true c14
     clear c14
     replace H:=Option.bind_eq_some_iff.mp H
     obtain ⟨⟨t1054,t1055⟩,A150,H⟩:=H
     try dsimp only at H
     have A15:=Z A150
     clear A150
     have H':=Z H
     clear H
     have hcz16_0:wr.cell? ⟨gb1048,0,none⟩=some (.slice Ao10 t1044.length co10):=(kC BK1048.out 0).trans rfl
     have hfz16_0:=kF BK1048.out 0
     go_wp2_with (first|((with_reducible refine gate_callee (f:=51) rfl ?_);refine goesL_ (some 38) rfl rfl Try.func51 (by kernel_rfl) rfl #[.agg #[.slice Ao10 t1044.length co10],.int .i64 x8_1] rfl pG ?_;(with_reducible refine (danger_Splits.calls k1 _ _ t1044 x8_1 t1054 t1055 _ ?side1 ?side2 A15.out).mono ?_);(case side1=>repeat (first|exact (Kd.R_reads' HO_1049000.out).2.2|(with_reducible refine Kd.C_alloc ?_ _)|(with_reducible refine Kd.C_drewN ?_ _)|(with_reducible refine Kd.C_drew ?_)));(case side2=>exact (Kd.R_reads' HO_1049000.out).2.1);rintro e w17 ⟨rfl,hb⟩;refine ⟨_,rfl,?_⟩;have n0_:=Z (Kd.R_below (pR HO_6) hb);have n1_:=Z (Kd.R_below (pR HO_1049000) hb);have n2_:=Z (blk_below (g:=gb1048) (o:=.cells #[.slice Ao10 t1044.length co10] 27 (0,0)) (pK BK1048) hb);have n3_:=Z (below_step pB hb);clear HO_6;clear HO_1049000;clear BK1048;clear HB;have HO_6:=n0_;have HO_1049000:=n1_;have BK1048:=n2_;have HB:=n3_;clear n0_ n1_ n2_ n3_;(try clear hb);(try clear hb2);(try clear hk);(try clear hi);obtain ⟨Ao18,co18,eo18⟩:=Kd.R_slice HO_6.out;subst eo18))
     go_loopg [11,43] k1 (fun kq v11 v43 w'=>∃ (x11_2:Bool) (x43_2:Int),v11=.bool x11_2∧v43=.int .i64 x43_2∧Aside0 (trustquorumlaw16_DangerLeast.l1 kq (wrap64 ((ji4) - 1)) t1049 x8_1 t1054 t1055 x11_2 t1049 (t1049.length:Int) x43_2 t1044=some true)∧Aside0 (kq≤k1)∧Aside0 (Kd.R (Kd.int .i64) 3 w' w.heap.size (fun _=>True) (.slice Ao18 t1049.length co18) t1049)∧Aside0 (Kd.R (Kd.int .i64) 3 w' w.heap.size (fun _=>True) (.slice Ao18 t1049.length co18) t1049)∧Aside0 (Kd.R k34 34 w' w.heap.size (fun k_=>some k_ ≠ ((.slice Ao18 t1049.length co18):Value).ownBlock∧some k_ ≠ ((.slice Ao18 t1049.length co18):Value).ownBlock) (.slice Ao10 t1044.length co10) t1044)∧Aside0 (w'.heap[gb1048]?=some (.cells #[(.slice Ao10 t1044.length co10)] 27 (0,0)))∧Aside0 (Below w.heap.size w w'))
     case atStart=>exact ⟨(false),(0),pE,pE,H',⟨Nat.le_refl _⟩,⟨pR HO_6⟩,⟨pR HO_6⟩,⟨by (with_reducible repeat (first|apply Kd.R_alloc|apply Kd.R_drewN|apply Kd.R_drew));exact Kd.R_mono HO_1049000.out (fun _ hk=>⟨hk,hk⟩)⟩,⟨pK BK1048⟩,⟨pB⟩⟩
     case round =>
      clear H'
      try clear c1
      try clear p2
      try clear c4
      try clear c5
      try clear c6
      try clear c6b0
      try clear c6b1
      try clear p6
      try clear c11
      try clear c13
      try clear c14
      try clear c14b0
      try clear c15
      try clear hcz12_0
      try clear hcz16_0
      try clear hfz12_0
      try clear hfz16_0
      obtain ⟨x11_2,x43_2,rfl,rfl,HA,HK2,HO_6,HO_41,HO_1049000,BK1048,HB⟩:=hrel
      cases gk with
      | zero=>exact absurd HA.out (by simp [trustquorumlaw16_DangerLeast.l1])
      | succ k2 =>
       have H:=HA.out
       clear HA
       simp only [trustquorumlaw16_DangerLeast.l1] at H
       by_cases c19:x43_2 < (t1049.length:Int)
       ·rw [if_pos c19] at H
        have c19b0:decide (x43_2 < (t1049.length:Int))=true:=decide_eq_true c19
        clear c19
        by_cases c20:0≤x43_2
        ·rw [if_pos c20] at H
         have c20b0:decide (0≤x43_2)=true:=decide_eq_true c20
         clear c20
         by_cases c21:x43_2 < (t1049.length:Int)
         ·rw [if_pos c21] at H
          have c21b0:decide (x43_2 < (t1049.length:Int))=true:=decide_eq_true c21
          clear c21
          by_cases c22:x11_2=true
          ·subst c22
           rw [if_pos rfl] at H
           have H':=Z H
           clear H
           have p1056:0≤(x43_2:Int):=of_decide_eq_true (by first|(with_reducible assumption)|assumption)
           have q1056:x43_2 < (t1049.length:Int):=of_decide_eq_true (by first|(with_reducible assumption)|assumption)
           obtain ⟨ad1056,e1056,hx1056_0⟩:=Kd.at_int (Kd.R_reads' HO_41.out).2.2 x43_2 p1056 q1056
           cases e1056
           replace p1056:=eq_true p1056
           replace q1056:=eq_true q1056
           go_wp2
           go_roundg k2
           case measure=>have:=HK1.out;have:=HK2.out;omega
           case rel=>exact ⟨(true),(wrap64 (x43_2+1)),pE,pE,H',⟨by have:=HK1.out;have:=HK2.out;omega⟩,⟨pR HO_6⟩,⟨pR HO_41⟩,⟨pR HO_1049000⟩,⟨pK BK1048⟩,⟨pB⟩⟩
          ·replace c22:=Bool.eq_false_iff.mpr c22
           subst c22
           rw [if_neg (show ¬ (false=true) by decide)] at H
           by_cases c23:(rd t1049 x43_2)=x8_1
           ·rw [if_pos c23] at H
            have c23b0:((rd t1049 x43_2) == x8_1)=true:=beq_iff_eq.mpr c23
            have c23b1:((rd t1049 x43_2) != x8_1)=false:=bne_eq_false_iff_eq.mpr c23
            clear c23
            have H':=Z H
            clear H
            have p1056:0≤(x43_2:Int):=of_decide_eq_true (by first|(with_reducible assumption)|assumption)
            have q1056:x43_2 < (t1049.length:Int):=of_decide_eq_true (by first|(with_reducible assumption)|assumption)
            obtain ⟨ad1056,e1056,hx1056_0⟩:=Kd.at_int (Kd.R_reads' HO_41.out).2.2 x43_2 p1056 q1056
            cases e1056
            replace p1056:=eq_true p1056
            replace q1056:=eq_true q1056
            go_wp2
            go_roundg k2
            case measure=>have:=HK1.out;have:=HK2.out;omega
            case rel=>exact ⟨(false),(wrap64 (x43_2+1)),pE,pE,H',⟨by have:=HK1.out;have:=HK2.out;omega⟩,⟨pR HO_6⟩,⟨pR HO_41⟩,⟨pR HO_1049000⟩,⟨pK BK1048⟩,⟨pB⟩⟩
           ·rw [if_neg c23] at H
            have c23b0:((rd t1049 x43_2) == x8_1)=false:=beq_eq_false_iff_ne.mpr c23
            have c23b1:((rd t1049 x43_2) != x8_1)=true:=bne_iff_ne.mpr c23
            have H':=Z H
            clear H
            have p1056:0≤(x43_2:Int):=of_decide_eq_true (by first|(with_reducible assumption)|assumption)
            have q1056:x43_2 < (t1049.length:Int):=of_decide_eq_true (by first|(with_reducible assumption)|assumption)
            obtain ⟨ad1056,e1056,hx1056_0⟩:=Kd.at_int (Kd.R_reads' HO_41.out).2.2 x43_2 p1056 q1056
            cases e1056
            replace p1056:=eq_true p1056
            replace q1056:=eq_true q1056
            go_wp2
            go_roundg k2
            case measure=>have:=HK1.out;have:=HK2.out;omega
            case rel=>exact ⟨(((Go.bits .and .i64 x8_1 (rd t1049 x43_2)) == (rd t1049 x43_2))),(wrap64 (x43_2+1)),pE,pE,H',⟨by have:=HK1.out;have:=HK2.out;omega⟩,⟨pR HO_6⟩,⟨pR HO_41⟩,⟨pR HO_1049000⟩,⟨pK BK1048⟩,⟨pB⟩⟩
         ·rw [if_neg c21] at H
          exact absurd H (by simp)
        ·rw [if_neg c20] at H
         exact absurd H (by simp)
       ·rw [if_neg c19] at H
        have c19b0:decide (x43_2 < (t1049.length:Int))=false:=decide_eq_false c19
        clear c19
        by_cases c24:t1055=0
        ·rw [if_pos c24] at H
         have c24b0:(t1055 == 0)=true:=beq_iff_eq.mpr c24
         have c24b1:(t1055 != 0)=false:=bne_eq_false_iff_eq.mpr c24
         clear c24
         by_cases c25:t1054=true
         ·subst c25
          rw [if_pos rfl] at H
          replace H:=Option.bind_eq_some_iff.mp H
          obtain ⟨t1057,A260,H⟩:=H
          try dsimp only at H
          have A26:=Z A260
          clear A260
          by_cases c27:((!x11_2) != t1057)=true
          ·rw [if_pos c27] at H
           have c27b0:((!x11_2) != t1057)=true:=c27
           (try (have c27b1:decide ((!x11_2)=t1057)=false:=by simpa using c27))
           (try (have c27b2:((!x11_2) == t1057)=false:=by simpa using c27))
           (try (have c27b3:¬ ((!x11_2)=t1057):=by simpa using c27))
           clear c27
           exact absurd H (by simp)
          ·rw [if_neg c27] at H
           have c27b0:((!x11_2) != t1057)=false:=by simpa using c27
           have c27b9:=(not_ne c27b0).2.2.2.2
           (try (have c27b1:decide ((!x11_2)=t1057)=true:=by simpa using c27))
           (try (have c27b2:((!x11_2) == t1057)=true:=by simpa using c27))
           clear c27
           have H':=Z H
           clear H
           go_wp2_with (first|(go_at_call 52;(with_reducible refine (trustquorummake_In.calls k2 _ _ t1049 x8_1 t1057 _ ?side1 ?side2 A26.out).mono ?_);(case side1=>repeat (first|exact (Kd.R_reads' HO_6.out).2.2|(with_reducible refine Kd.C_alloc ?_ _)|(with_reducible refine Kd.C_drewN ?_ _)|(with_reducible refine Kd.C_drew ?_)));(case side2=>exact (Kd.R_reads' HO_6.out).2.1);rintro e w' ⟨rfl,⟨nd,rfl⟩⟩))
           any_goals (exfalso;rename_i h_;exact Bool.noConfusion (c27b0.symm.trans h_))
           go_roundg k2
           case measure=>have:=HK1.out;have:=HK2.out;omega
           case rel=>exact ⟨(wrap64 (x8_1+1)),pE,H',⟨by have:=HK1.out;have:=HK2.out;omega⟩,⟨pR HO_6⟩,⟨by (with_reducible repeat (first|apply Kd.R_alloc|apply Kd.R_drewN|apply Kd.R_drew));exact Kd.R_mono HO_1049000.out (fun _ hk=>hk.1)⟩,⟨pK BK1048⟩,⟨pB⟩⟩
         ·replace c25:=Bool.eq_false_iff.mpr c25
          subst c25
          rw [if_neg (show ¬ (false=true) by decide)] at H
          replace H:=Option.bind_eq_some_iff.mp H
          obtain ⟨t1058,A280,H⟩:=H
          try dsimp only at H
          have A28:=Z A280
          clear A280
          by_cases c29:t1058=true
          ·subst c29
           rw [if_pos rfl] at H
           exact absurd H (by simp)
          ·replace c29:=Bool.eq_false_iff.mpr c29
           subst c29
           rw [if_neg (show ¬ (false=true) by decide)] at H
           have H':=Z H
           clear H
           go_wp2_with (first|(go_at_call 52;(with_reducible refine (trustquorummake_In.calls k2 _ _ t1049 x8_1 false _ ?side1 ?side2 A28.out).mono ?_);(case side1=>repeat (first|exact (Kd.R_reads' HO_6.out).2.2|(with_reducible refine Kd.C_alloc ?_ _)|(with_reducible refine Kd.C_drewN ?_ _)|(with_reducible refine Kd.C_drew ?_)));(case side2=>exact (Kd.R_reads' HO_6.out).2.1);rintro e w' ⟨rfl,⟨nd,rfl⟩⟩))
           go_roundg k2
           case measure=>have:=HK1.out;have:=HK2.out;omega
           case rel=>exact ⟨(wrap64 (x8_1+1)),pE,H',⟨by have:=HK1.out;have:=HK2.out;omega⟩,⟨pR HO_6⟩,⟨by (with_reducible repeat (first|apply Kd.R_alloc|apply Kd.R_drewN|apply Kd.R_drew));exact Kd.R_mono HO_1049000.out (fun _ hk=>hk.1)⟩,⟨pK BK1048⟩,⟨pB⟩⟩
        ·rw [if_neg c24] at H
         have c24b0:(t1055 == 0)=false:=beq_eq_false_iff_ne.mpr c24
         have c24b1:(t1055 != 0)=true:=bne_iff_ne.mpr c24
         exact absurd H (by simp)
    ·rw [if_neg c14] at H
     have c14b0:decide (x8_1≤(wrap64 ((ji4) - 1)))=false:=decide_eq_false c14
     clear c14
     replace H:=Option.bind_eq_some_iff.mp H
     obtain ⟨t1053,A300,H⟩:=H
     try dsimp only at H
     have A30:=Z A300
     clear A300
     obtain rfl:=Option.some.inj H
     go_wp2_with (first|((with_reducible refine gate_callee (f:=50) rfl ?_);refine goesL_ (some 83) rfl rfl Try.func50 (by kernel_rfl) rfl #[] rfl pG ?_;(with_reducible refine (trustquorumlaw16_awake.calls k1   _ A30.out).mono ?_);rintro e w31 ⟨rfl,hb⟩;refine ⟨_,rfl,?_⟩;have n0_:=Z (Kd.R_below (pR HO_6) hb);have n1_:=Z (Kd.R_below (pR HO_1049000) hb);have n2_:=Z (blk_below (g:=gb1048) (o:=.cells #[.slice Ao10 t1044.length co10] 27 (0,0)) (pK BK1048) hb);have n3_:=Z (below_step pB hb);clear HO_6;clear HO_1049000;clear BK1048;clear HB;have HO_6:=n0_;have HO_1049000:=n1_;have BK1048:=n2_;have HB:=n3_;clear n0_ n1_ n2_ n3_;(try clear hb);(try clear hb2);(try clear hk);(try clear hi)))
     go_ret
     exact ⟨by first|rfl|exact congrArg (fun b_:Bool=>Ending.returned (Value.bool b_)) HT.out|(simp [errW_none,errW_some] <;> rfl)|(simp only [← hji4];first|rfl|(simp [errW_none,errW_some] <;> rfl))|(simp [*,errW_none,errW_some] <;> rfl),pB⟩
 ·rw [if_neg c6] at H
  have c6b0:(t1052 == 0)=false:=beq_eq_false_iff_ne.mpr c6
  have c6b1:(t1052 != 0)=true:=bne_iff_ne.mpr c6
  exact absurd H (by simp)
def trustquorumlaw16_DangerLeast.Pure:Prop:=∀ (l0:List Int),l0.length≤maxLen→l0.length * 8≤140737488351232→(∀ x∈l0,(Lit.int .i64 x).wf=true)→∃ k,trustquorumlaw16_DangerLeast.f k l0=some true
theorem trustquorumlaw16_DangerLeast.walk (P:trustquorumlaw16_DangerLeast.Pure) (a0:Option Addr) (len0 cap0:Nat) (z0:List Int) (w:World) (w0:(a0=none∧len0=0∧cap0=0∧z0=[]) ∨ ∃ x,a0=some x∧len0≤cap0∧cap0≤maxLen∧z0.length=cap0∧(∀ i,i < z0.length→w.cell? (x.add i)=some (.int .i64 (z0.getD i 0)))∧∀ n∈z0,(Lit.int .i64 n).wf=true) (y0:len0 * 8≤140737488351232) :
  Calls Try.prog 13 #[.slice a0 len0 cap0] w fun e w'=>e=.returned (.bool true)∧Below w.heap.size w w':=by
 obtain ⟨l0,rfl,hr0,hm0,hw0,hc0⟩:=ReadsInt.ofRowC w0
 obtain ⟨k,h⟩:=P l0 hm0 y0 hw0
 refine (trustquorumlaw16_DangerLeast.calls k _ _ l0 w (Kd.C_of_reads (d:=(0:Int)) (h1:=fun _=>rfl) hr0) hc0 h).mono ?_
 rintro e w' ⟨rfl,hd⟩
 exact ⟨rfl,hd⟩
end Go.Proofs.Ytkjlcbfjllpcnaa.X
namespace Go.Proofs.Ytkjlcbfjllpcnaa.X
open Go.RowKit Go.Proofs.YtkjlcbfjllpcnaaW.PrintWords Go.Proofs.YtkjlcbfjllpcnaaW.PrintLast Go.Proofs.YtkjlcbfjllpcnaaW.PrintMore
set_option linter.unusedVariables false
mutual
def depL : List S32 → Nat
  | [] => 0
  | t :: ts => max (dep t) (depL ts)
def dep : S32 → Nat
  | ⟨_, _, ts⟩ => depL ts + 1
end
mutual
def sizL : List S32 → Nat
  | [] => 0
  | t :: ts => siz t + sizL ts
def siz : S32 → Nat
  | ⟨_, l, ts⟩ => l.length + ts.length + sizL ts
end
mutual
def useL : List S32 → Nat
  | [] => 0
  | t :: ts => uses t ||| useL ts
def uses : S32 → Nat
  | ⟨_, l, ts⟩ => l.foldl (fun a x => if noNode x = true then a else a ||| 2 ^ x.toNat) 0 ||| useL ts
end
def ofS (a : Nat) : List Int → Nat × Int
  | [] => (a, 0)
  | x :: xs => if noNode x = true then (0, 5) else if inS a x = true then (0, 6) else ofS (a ||| 2 ^ x.toNat) xs
mutual
def chkL : List S32 → Int
  | [] => 0
  | t :: ts => if chk t = 0 then chkL ts else chk t
def chk : S32 → Int
  | ⟨n, l, ts⟩ => if n < 1 ∨ n > ((l.length + ts.length : Nat) : Int) then 4 else if (l.any noNode) = true then 5 else if (ofS 0 l).2 = 0 then chkL ts else (ofS 0 l).2
end
def validT (t : S32) : Int := if dep t > 4 then 3 else if siz t > 200 then 3 else chk t
theorem dep_eq (t : S32) : dep t = depL t.f2 + 1 := by cases t; rw [dep]
theorem siz_eq (t : S32) : siz t = t.f1.length + t.f2.length + sizL t.f2 := by cases t; rw [siz]
theorem chk_eq (t : S32) : chk t = if t.f0 < 1 ∨ t.f0 > ((t.f1.length + t.f2.length : Nat) : Int) then 4 else if (t.f1.any noNode) = true then 5 else if (ofS 0 t.f1).2 = 0 then chkL t.f2 else (ofS 0 t.f1).2 := by cases t; rw [chk]
theorem uses_eq (t : S32) : uses t = t.f1.foldl (fun a x => if noNode x = true then a else a ||| 2 ^ x.toNat) 0 ||| useL t.f2 := by cases t; rw [uses]
mutual
theorem dep_le : ∀ t : S32, dep t ≤ wt t
  | ⟨_, l, ts⟩ => by rw [dep, wt]; have := depL_le ts; omega
theorem depL_le : ∀ l : List S32, depL l ≤ wtL l
  | [] => Nat.le_refl _
  | t :: ts => by rw [depL, wtL]; have := dep_le t; have := depL_le ts; omega
end
mutual
theorem siz_le : ∀ t : S32, siz t ≤ 2 * wt t
  | ⟨_, l, ts⟩ => by rw [siz, wt]; have := sizL_le ts; omega
theorem sizL_le : ∀ l : List S32, l.length + sizL l ≤ 2 * wtL l
  | [] => Nat.le_refl _
  | t :: ts => by rw [sizL, wtL, List.length_cons]; have := siz_le t; have := sizL_le ts; have := wt_pos t; have : 1 + siz t ≤ 2 * wt t := by
                    cases t with | mk n l xs => rw [siz, wt]; have := sizL_le xs; omega
                  omega
end
theorem or_lt {a b n : Nat} (ha : a < 2 ^ n) (hb : b < 2 ^ n) : a ||| b < 2 ^ n := Nat.or_lt_two_pow ha hb
theorem or_lt10 {a b : Nat} (ha : a < 1024) (hb : b < 1024) : a ||| b < 1024 := or_lt (n := 10) ha hb
theorem two_lt10 {k : Nat} (h : k < 10) : 2 ^ k < 1024 := Nat.pow_lt_pow_right (a := 2) (by decide) h
theorem noNode_not {x : Int} (h : noNode x = false) : 0 ≤ x ∧ x < 10 := by simp [noNode] at h; omega
theorem foldUse_lt (l : List Int) : ∀ a, a < 1024 → l.foldl (fun a x => if noNode x = true then a else a ||| 2 ^ x.toNat) a < 1024 := by
  induction l with
  | nil => intro a h; exact h
  | cons x xs ih =>
    intro a h
    rw [List.foldl_cons]
    refine ih _ ?_
    cases hx : noNode x
    · have := noNode_not hx
      exact or_lt10 h (two_lt10 (by omega))
    · exact h
mutual
theorem uses_lt : ∀ t : S32, uses t < 1024
  | ⟨_, l, ts⟩ => by rw [uses]; exact or_lt10 (foldUse_lt l 0 (by decide)) (useL_lt ts)
theorem useL_lt : ∀ l : List S32, useL l < 1024
  | [] => by rw [useL]; decide
  | t :: ts => by rw [useL]; exact or_lt10 (uses_lt t) (useL_lt ts)
end
theorem mx_nat (a b : Nat) : mx (a : Int) (b : Int) = ((max a b : Nat) : Int) := by unfold mx; split <;> omega
theorem Depth_ev : ∀ (n : Nat) (t : S32), wt t < n → n < 1152921504606846976 → Ev (fun k => threshold_Depth.f k t.f0 t.f1 t.f2) (dep t : Int)
  | 0, t, h, _ => absurd h (by omega)
  | n + 1, t, h, hn => by
    rw [wt_eq] at h
    have hl := len_wtL t.f2
    have hd := depL_le t.f2
    rw [dep_eq]
    (refine Ev.shift ?_; simp only [threshold_Depth.f, Option.bind_some, ↓reduceIte, Bool.false_eq_true, reduceCtorEq, decide_eq_true_eq, Go.Proofs.YtkjlcbfjllpcnaaW.PrintWords.rd, rd_T32, rd_T34])
    refine Ev.fold (xs := t.f2) (L := fun (c : Nat) i k => threshold_Depth.l0 k (c : Int) t.f2 (t.f2.length : Int) i) (by omega) (fun pre ys c => max c (depL ys) = depL t.f2) ?_ ?_ 0 (by omega)
    · intro c i hI hi
      rw [depL] at hI
      (refine Ev.shift ?_; simp only [threshold_Depth.l0, hi, Option.bind_some, ↓reduceIte, Bool.false_eq_true, reduceCtorEq, decide_eq_true_eq, Go.Proofs.YtkjlcbfjllpcnaaW.PrintWords.rd, rd_T32, rd_T34])
      rw [show wrap64 ((c : Int) + 1) = ((depL t.f2 + 1 : Nat) : Int) by rw [w64 (by omega) (by omega)]; omega]
      exact Ev.now _
    · intro pre y ys c i e hI hi h0 hlt hw hrd
      rw [depL] at hI
      refine Or.inl ⟨max c (dep y), by omega, fun k => ?_⟩
      (refine Ev.shift ?_; simp only [threshold_Depth.l0, h0, hlt, hw, hrd, Option.bind_some, ↓reduceIte, Bool.false_eq_true, reduceCtorEq, decide_eq_true_eq, Go.Proofs.YtkjlcbfjllpcnaaW.PrintWords.rd, rd_T32, rd_T34])
      refine Ev.bind1 (Depth_ev n y (by have := wt_mem (show y ∈ t.f2 by rw [e]; simp); omega) (by omega)) ?_
      rw [mx_nat]
      exact k
theorem Size_ev : ∀ (n : Nat) (t : S32), wt t < n → n < 1152921504606846976 → Ev (fun k => threshold_Size.f k t.f0 t.f1 t.f2) (siz t : Int)
  | 0, t, h, _ => absurd h (by omega)
  | n + 1, t, h, hn => by
    have hs := siz_le t
    have hw := h
    rw [wt_eq] at h
    have hl := len_wtL t.f2
    rw [siz_eq] at hs ⊢
    (refine Ev.shift ?_; simp only [threshold_Size.f, Option.bind_some, ↓reduceIte, Bool.false_eq_true, reduceCtorEq, decide_eq_true_eq, Go.Proofs.YtkjlcbfjllpcnaaW.PrintWords.rd, rd_T32, rd_T34])
    rw [show wrap64 ((t.f1.length : Int) + (t.f2.length : Int)) = ((t.f1.length + t.f2.length : Nat) : Int) by rw [w64 (by omega) (by omega)]; omega]
    refine Ev.fold (L := fun (c : Nat) i k => threshold_Size.l0 k (c : Int) t.f2 (t.f2.length : Int) i) (by omega) (fun pre ys c => c + sizL ys = t.f1.length + t.f2.length + sizL t.f2) ?_ ?_ (t.f1.length + t.f2.length) rfl
    · intro c i hI hi
      rw [sizL] at hI
      (refine Ev.shift ?_; simp only [threshold_Size.l0, hi, Option.bind_some, ↓reduceIte, Bool.false_eq_true, reduceCtorEq, decide_eq_true_eq, Go.Proofs.YtkjlcbfjllpcnaaW.PrintWords.rd, rd_T32, rd_T34])
      rw [← hI]
      exact Ev.now _
    · intro pre y ys c i e hI hi h0 hlt hw hrd
      rw [sizL] at hI
      refine Or.inl ⟨c + siz y, by omega, fun k => ?_⟩
      (refine Ev.shift ?_; simp only [threshold_Size.l0, h0, hlt, hw, hrd, Option.bind_some, ↓reduceIte, Bool.false_eq_true, reduceCtorEq, decide_eq_true_eq, Go.Proofs.YtkjlcbfjllpcnaaW.PrintWords.rd, rd_T32, rd_T34])
      refine Ev.bind1 (Size_ev n y (by have := wt_mem (show y ∈ t.f2 by rw [e]; simp); omega) (by omega)) ?_
      rw [show wrap64 ((c : Int) + (siz y : Int)) = ((c + siz y : Nat) : Int) by rw [w64 (by omega) (by omega)]; omega]
      exact k
theorem Of_ev (l : List Int) (hl : l.length < 1152921504606846976) : Ev (fun k => nodeset_Of.f k l) (((ofS 0 l).1 : Int), (ofS 0 l).2) := by
  refine Ev.congr (f := fun k => nodeset_Of.l0 k ((0 : Nat) : Int) l (l.length : Int) 0) (fun k => rfl) ?_
  refine Ev.fold (L := fun (c : Nat) i k => nodeset_Of.l0 k (c : Int) l (l.length : Int) i) (by omega) (fun pre ys c => ofS c ys = ofS 0 l ∧ c < 1024) ?_ ?_ 0 ⟨rfl, by decide⟩
  · rintro c i ⟨hI, hc⟩ hi
    (refine Ev.shift ?_; simp only [nodeset_Of.l0, hi, Option.bind_some, ↓reduceIte, Bool.false_eq_true, reduceCtorEq, decide_eq_true_eq, Go.Proofs.YtkjlcbfjllpcnaaW.PrintWords.rd, rd_T32, rd_T34])
    rw [← hI]
    exact Ev.now _
  · rintro pre y ys c i e ⟨hI, hc⟩ hi h0 hlt hw hrd
    rw [ofS] at hI
    cases hn : noNode y
    · have hb := noNode_not hn
      simp only [hn, Bool.false_eq_true, if_false] at hI
      cases hs : inS c y
      · refine Or.inl ⟨c ||| 2 ^ y.toNat, ⟨by simpa [hs] using hI, or_lt10 hc (two_lt10 (by omega))⟩, fun k => ?_⟩
        have h2 := two_lt10 (show y.toNat < 10 by omega)
        have e2 : Go.bits .or .i64 (c : Int) (shl .i64 1 y) = ((c ||| 2 ^ y.toNat : Nat) : Int) := by
          rw [show y = (y.toNat : Int) by omega, shl_nat (by omega), Int.toNat_natCast, or_nat (by omega) (by omega)]
        have h1 : ¬ y < 0 := by omega
        have h3 : decide (y ≥ 10) = false := by simp; omega
        (refine Ev.shift ?_; simp only [nodeset_Of.l0, h0, hlt, hw, hrd, h1, h3, Option.bind_some, ↓reduceIte, Bool.false_eq_true, reduceCtorEq, decide_eq_true_eq, Go.Proofs.YtkjlcbfjllpcnaaW.PrintWords.rd, rd_T32, rd_T34])
        (refine Ev.shift ?_; simp only [nodeset_Of.j1, Has_eq hc, hs, hb.1, hw, Option.bind_some, ↓reduceIte, Bool.false_eq_true, reduceCtorEq, decide_eq_true_eq, Go.Proofs.YtkjlcbfjllpcnaaW.PrintWords.rd, rd_T32, rd_T34])
        rw [e2]
        exact k
      · refine Or.inr ?_
        simp only [hs, if_true] at hI
        have h1 : ¬ y < 0 := by omega
        have h3 : decide (y ≥ 10) = false := by simp; omega
        (refine Ev.shift ?_; simp only [nodeset_Of.l0, h0, hlt, hw, hrd, h1, h3, Option.bind_some, ↓reduceIte, Bool.false_eq_true, reduceCtorEq, decide_eq_true_eq, Go.Proofs.YtkjlcbfjllpcnaaW.PrintWords.rd, rd_T32, rd_T34])
        (refine Ev.shift ?_; simp only [nodeset_Of.j1, Has_eq hc, hs, Option.bind_some, ↓reduceIte, Bool.false_eq_true, reduceCtorEq, decide_eq_true_eq, Go.Proofs.YtkjlcbfjllpcnaaW.PrintWords.rd, rd_T32, rd_T34])
        rw [← hI]
        exact Ev.now _
    · refine Or.inr ?_
      simp only [hn, if_true] at hI
      rw [← hI]
      by_cases h1 : y < 0
      · (refine Ev.shift ?_; simp only [nodeset_Of.l0, h0, hlt, hw, hrd, h1, Option.bind_some, ↓reduceIte, Bool.false_eq_true, reduceCtorEq, decide_eq_true_eq, Go.Proofs.YtkjlcbfjllpcnaaW.PrintWords.rd, rd_T32, rd_T34])
        (refine Ev.shift ?_; simp only [nodeset_Of.j1, Option.bind_some, ↓reduceIte, Bool.false_eq_true, reduceCtorEq, decide_eq_true_eq, Go.Proofs.YtkjlcbfjllpcnaaW.PrintWords.rd, rd_T32, rd_T34])
        exact Ev.now _
      · have h3 : decide (y ≥ 10) = true := by simp [noNode] at hn ⊢; omega
        (refine Ev.shift ?_; simp only [nodeset_Of.l0, h0, hlt, hw, hrd, h1, h3, Option.bind_some, ↓reduceIte, Bool.false_eq_true, reduceCtorEq, decide_eq_true_eq, Go.Proofs.YtkjlcbfjllpcnaaW.PrintWords.rd, rd_T32, rd_T34])
        (refine Ev.shift ?_; simp only [nodeset_Of.j1, Option.bind_some, ↓reduceIte, Bool.false_eq_true, reduceCtorEq, decide_eq_true_eq, Go.Proofs.YtkjlcbfjllpcnaaW.PrintWords.rd, rd_T32, rd_T34])
        exact Ev.now _
theorem Uses_ev : ∀ (n : Nat) (t : S32), wt t < n → n < 1152921504606846976 → Ev (fun k => threshold_Uses.f k t.f0 t.f1 t.f2) (uses t : Int)
  | 0, t, h, _ => absurd h (by omega)
  | n + 1, t, h, hn => by
    rw [wt_eq] at h
    have hl := len_wtL t.f2
    have hU := uses_lt t
    rw [uses_eq] at hU ⊢
    generalize hT : (t.f1.foldl (fun a x => if noNode x = true then a else a ||| 2 ^ x.toNat) 0 ||| useL t.f2) = T at hU
    have l1 : ∀ c, c < 1024 → c ||| useL t.f2 = T → Ev (fun k => threshold_Uses.l1 k (c : Int) t.f2 (t.f2.length : Int) 0) (T : Int) := by
      intro c hc hcT
      refine Ev.fold (L := fun (c : Nat) i k => threshold_Uses.l1 k (c : Int) t.f2 (t.f2.length : Int) i) (by omega) (fun pre ys c => c ||| useL ys = T ∧ c < 1024) ?_ ?_ c ⟨hcT, hc⟩
      · rintro c i ⟨hI, hc⟩ hi
        rw [useL, Nat.or_zero] at hI
        (refine Ev.shift ?_; simp only [threshold_Uses.l1, hi, Option.bind_some, ↓reduceIte, Bool.false_eq_true, reduceCtorEq, decide_eq_true_eq, Go.Proofs.YtkjlcbfjllpcnaaW.PrintWords.rd, rd_T32, rd_T34])
        rw [← hI]
        exact Ev.now _
      · rintro pre y ys c i e ⟨hI, hc⟩ hi h0 hlt hw hrd
        rw [useL] at hI
        refine Or.inl ⟨c ||| uses y, ⟨by rw [Nat.or_assoc]; exact hI, or_lt10 hc (uses_lt y)⟩, fun k => ?_⟩
        (refine Ev.shift ?_; simp only [threshold_Uses.l1, h0, hlt, hw, hrd, Option.bind_some, ↓reduceIte, Bool.false_eq_true, reduceCtorEq, decide_eq_true_eq, Go.Proofs.YtkjlcbfjllpcnaaW.PrintWords.rd, rd_T32, rd_T34])
        refine Ev.bind1 (Uses_ev n y (by have := wt_mem (show y ∈ t.f2 by rw [e]; simp); omega) (by omega)) ?_
        have := uses_lt y
        rw [or_nat (by omega) (by omega)]
        exact k
    (refine Ev.shift ?_; simp only [threshold_Uses.f, Option.bind_some, ↓reduceIte, Bool.false_eq_true, reduceCtorEq, decide_eq_true_eq, Go.Proofs.YtkjlcbfjllpcnaaW.PrintWords.rd, rd_T32, rd_T34])
    refine Ev.fold (L := fun (c : Nat) i k => threshold_Uses.l0 k (c : Int) t.f1 (t.f1.length : Int) i t.f0 t.f1 t.f2) (by omega) (fun pre ys c => (ys.foldl (fun a x => if noNode x = true then a else a ||| 2 ^ x.toNat) c) ||| useL t.f2 = T ∧ c < 1024) ?_ ?_ 0 ⟨hT, by decide⟩
    · rintro c i ⟨hI, hc⟩ hi
      (refine Ev.shift ?_; simp only [threshold_Uses.l0, hi, Option.bind_some, ↓reduceIte, Bool.false_eq_true, reduceCtorEq, decide_eq_true_eq, Go.Proofs.YtkjlcbfjllpcnaaW.PrintWords.rd, rd_T32, rd_T34])
      exact l1 c hc hI
    · rintro pre y ys c i e ⟨hI, hc⟩ hi h0 hlt hw hrd
      rw [List.foldl_cons] at hI
      cases hn : noNode y
      · have hb := noNode_not hn
        have h2 := two_lt10 (show y.toNat < 10 by omega)
        refine Or.inl ⟨c ||| 2 ^ y.toNat, ⟨by simpa [hn] using hI, or_lt10 hc h2⟩, fun k => ?_⟩
        have e2 : Go.bits .or .i64 (c : Int) (shl .i64 1 y) = ((c ||| 2 ^ y.toNat : Nat) : Int) := by
          rw [show y = (y.toNat : Int) by omega, shl_nat (by omega), Int.toNat_natCast, or_nat (by omega) (by omega)]
        have h3 : y ≥ 0 := by omega
        have h4 : y < 10 := by omega
        (refine Ev.shift ?_; simp only [threshold_Uses.l0, threshold_node.f, h0, hlt, hw, hrd, h3, h4, decide_true, hb.1, Option.bind_some, ↓reduceIte, Bool.false_eq_true, reduceCtorEq, decide_eq_true_eq, Go.Proofs.YtkjlcbfjllpcnaaW.PrintWords.rd, rd_T32, rd_T34])
        rw [e2]
        exact k
      · refine Or.inl ⟨c, ⟨by simpa [hn] using hI, hc⟩, fun k => ?_⟩
        by_cases h3 : y ≥ 0
        · have h4 : ¬ y < 10 := by simp [noNode] at hn; omega
          (refine Ev.shift ?_; simp only [threshold_Uses.l0, threshold_node.f, h0, hlt, hw, hrd, h3, h4, decide_false, Option.bind_some, ↓reduceIte, Bool.false_eq_true, reduceCtorEq, decide_eq_true_eq, Go.Proofs.YtkjlcbfjllpcnaaW.PrintWords.rd, rd_T32, rd_T34])
          exact k
        · (refine Ev.shift ?_; simp only [threshold_Uses.l0, threshold_node.f, h0, hlt, hw, hrd, h3, Option.bind_some, ↓reduceIte, Bool.false_eq_true, reduceCtorEq, decide_eq_true_eq, Go.Proofs.YtkjlcbfjllpcnaaW.PrintWords.rd, rd_T32, rd_T34])
          exact k
theorem level_ev : ∀ (n : Nat) (t : S32), wt t < n → n < 1152921504606846976 → Ev (fun k => threshold_level.f k t.f0 t.f1 t.f2) (chk t)
  | 0, t, h, _ => absurd h (by omega)
  | n + 1, t, h, hn => by
    rw [wt_eq] at h
    have hl := len_wtL t.f2
    rw [chk_eq]
    have el : wrap64 ((t.f1.length : Int) + (t.f2.length : Int)) = ((t.f1.length + t.f2.length : Nat) : Int) := by rw [w64 (by omega) (by omega)]; omega
    by_cases h1 : t.f0 < 1
    · (refine Ev.shift ?_; simp only [threshold_level.f, h1, true_or, Option.bind_some, ↓reduceIte, Bool.false_eq_true, reduceCtorEq, decide_eq_true_eq, Go.Proofs.YtkjlcbfjllpcnaaW.PrintWords.rd, rd_T32, rd_T34])
      (refine Ev.shift ?_; simp only [threshold_level.j0, Option.bind_some, ↓reduceIte, Bool.false_eq_true, reduceCtorEq, decide_eq_true_eq, Go.Proofs.YtkjlcbfjllpcnaaW.PrintWords.rd, rd_T32, rd_T34])
      exact Ev.now _
    by_cases h2 : t.f0 > ((t.f1.length + t.f2.length : Nat) : Int)
    · (refine Ev.shift ?_; simp only [threshold_level.f, h1, h2, el, or_true, decide_true, Option.bind_some, ↓reduceIte, Bool.false_eq_true, reduceCtorEq, decide_eq_true_eq, Go.Proofs.YtkjlcbfjllpcnaaW.PrintWords.rd, rd_T32, rd_T34])
      (refine Ev.shift ?_; simp only [threshold_level.j0, Option.bind_some, ↓reduceIte, Bool.false_eq_true, reduceCtorEq, decide_eq_true_eq, Go.Proofs.YtkjlcbfjllpcnaaW.PrintWords.rd, rd_T32, rd_T34])
      exact Ev.now _
    (refine Ev.shift ?_; simp only [threshold_level.f, h1, h2, el, or_false, decide_false, Option.bind_some, ↓reduceIte, Bool.false_eq_true, reduceCtorEq, decide_eq_true_eq, Go.Proofs.YtkjlcbfjllpcnaaW.PrintWords.rd, rd_T32, rd_T34])
    (refine Ev.shift ?_; simp only [threshold_level.j0, containsFunc_level.f, Option.bind_some, ↓reduceIte, Bool.false_eq_true, reduceCtorEq, decide_eq_true_eq, Go.Proofs.YtkjlcbfjllpcnaaW.PrintWords.rd, rd_T32, rd_T34])
    cases hn : t.f1.any noNode
    · simp only [Bool.false_eq_true, if_false]
      refine Ev.bind1 (Of_ev t.f1 (by omega)) ?_
      by_cases h3 : (ofS 0 t.f1).2 = 0
      · simp only [h3, if_true]
        refine Ev.fold (L := fun (c : Unit) i k => threshold_level.l0 k t.f2 (t.f2.length : Int) i) (by omega) (fun pre ys c => chkL ys = chkL t.f2) ?_ ?_ () rfl
        · intro c i hI hi
          rw [chkL] at hI
          (refine Ev.shift ?_; simp only [threshold_level.l0, hi, Option.bind_some, ↓reduceIte, Bool.false_eq_true, reduceCtorEq, decide_eq_true_eq, Go.Proofs.YtkjlcbfjllpcnaaW.PrintWords.rd, rd_T32, rd_T34])
          rw [← hI]
          exact Ev.now _
        · intro pre y ys c i e hI hi h0 hlt hw hrd
          rw [chkL] at hI
          have hy := level_ev n y (by have := wt_mem (show y ∈ t.f2 by rw [e]; simp); omega) (by omega)
          by_cases h4 : chk y = 0
          · refine Or.inl ⟨(), by rw [← hI, if_pos h4], fun k => ?_⟩
            (refine Ev.shift ?_; simp only [threshold_level.l0, h0, hlt, hw, hrd, Option.bind_some, ↓reduceIte, Bool.false_eq_true, reduceCtorEq, decide_eq_true_eq, Go.Proofs.YtkjlcbfjllpcnaaW.PrintWords.rd, rd_T32, rd_T34])
            refine Ev.bind1 hy ?_
            simp only [h4, if_true]
            exact k
          · refine Or.inr ?_
            rw [← hI, if_neg h4]
            (refine Ev.shift ?_; simp only [threshold_level.l0, h0, hlt, hw, hrd, Option.bind_some, ↓reduceIte, Bool.false_eq_true, reduceCtorEq, decide_eq_true_eq, Go.Proofs.YtkjlcbfjllpcnaaW.PrintWords.rd, rd_T32, rd_T34])
            refine Ev.bind1 hy ?_
            simp only [h4, if_false]
            exact Ev.now _
      · simp only [h3, if_false]
        exact Ev.now _
    · simp only [if_true]
      exact Ev.now _
theorem Valid_ev (t : S32) (h : wt t < 1000000) : Ev (fun k => threshold_Valid.f k t.f0 t.f1 t.f2) (validT t) := by
  simp only [threshold_Valid.f, validT, Option.bind_some, ↓reduceIte, Bool.false_eq_true, reduceCtorEq, decide_eq_true_eq, Go.Proofs.YtkjlcbfjllpcnaaW.PrintWords.rd, rd_T32, rd_T34]
  refine Ev.bind1 (Depth_ev 1000000 t h (by decide)) ?_
  by_cases h1 : dep t > 4
  · have : (dep t : Int) > 4 := by omega
    simp only [h1, this, Option.bind_some, ↓reduceIte, Bool.false_eq_true, reduceCtorEq, decide_eq_true_eq, Go.Proofs.YtkjlcbfjllpcnaaW.PrintWords.rd, rd_T32, rd_T34]
    exact Ev.now _
  have h2 : ¬ (dep t : Int) > 4 := by omega
  simp only [h1, h2, Option.bind_some, ↓reduceIte, Bool.false_eq_true, reduceCtorEq, decide_eq_true_eq, Go.Proofs.YtkjlcbfjllpcnaaW.PrintWords.rd, rd_T32, rd_T34]
  refine Ev.bind1 (Size_ev 1000000 t h (by decide)) ?_
  by_cases h3 : siz t > 200
  · have : (siz t : Int) > 200 := by omega
    simp only [h3, this, Option.bind_some, ↓reduceIte, Bool.false_eq_true, reduceCtorEq, decide_eq_true_eq, Go.Proofs.YtkjlcbfjllpcnaaW.PrintWords.rd, rd_T32, rd_T34]
    exact Ev.now _
  have h4 : ¬ (siz t : Int) > 200 := by omega
  simp only [h3, h4, Option.bind_some, ↓reduceIte, Bool.false_eq_true, reduceCtorEq, decide_eq_true_eq, Go.Proofs.YtkjlcbfjllpcnaaW.PrintWords.rd, rd_T32, rd_T34]
  refine Ev.bind1 (level_ev 1000000 t h (by decide)) ?_
  exact Ev.now _
theorem ref_Depth_ev : ∀ (n : Nat) (t : S32), wt t < n → n < 1152921504606846976 → Ev (fun k => trustquorumref02_Depth.f k t.f0 t.f1 t.f2) (dep t : Int)
  | 0, t, h, _ => absurd h (by omega)
  | n + 1, t, h, hn => by
    rw [wt_eq] at h
    have hl := len_wtL t.f2
    have hd := depL_le t.f2
    rw [dep_eq]
    (refine Ev.shift ?_; simp only [trustquorumref02_Depth.f, Option.bind_some, ↓reduceIte, Bool.false_eq_true, reduceCtorEq, decide_eq_true_eq, Go.Proofs.YtkjlcbfjllpcnaaW.PrintWords.rd, rd_T32, rd_T34])
    refine Ev.fold (xs := t.f2) (L := fun (c : Nat) i k => trustquorumref02_Depth.l0 k (c : Int) t.f2 (t.f2.length : Int) i) (by omega) (fun pre ys c => max c (depL ys) = depL t.f2) ?_ ?_ 0 (by omega)
    · intro c i hI hi
      rw [depL] at hI
      (refine Ev.shift ?_; simp only [trustquorumref02_Depth.l0, hi, Option.bind_some, ↓reduceIte, Bool.false_eq_true, reduceCtorEq, decide_eq_true_eq, Go.Proofs.YtkjlcbfjllpcnaaW.PrintWords.rd, rd_T32, rd_T34])
      rw [show wrap64 ((c : Int) + 1) = ((depL t.f2 + 1 : Nat) : Int) by rw [w64 (by omega) (by omega)]; omega]
      exact Ev.now _
    · intro pre y ys c i e hI hi h0 hlt hw hrd
      rw [depL] at hI
      refine Or.inl ⟨max c (dep y), by omega, fun k => ?_⟩
      (refine Ev.shift ?_; simp only [trustquorumref02_Depth.l0, h0, hlt, hw, hrd, Option.bind_some, ↓reduceIte, Bool.false_eq_true, reduceCtorEq, decide_eq_true_eq, Go.Proofs.YtkjlcbfjllpcnaaW.PrintWords.rd, rd_T32, rd_T34])
      refine Ev.bind1 (ref_Depth_ev n y (by have := wt_mem (show y ∈ t.f2 by rw [e]; simp); omega) (by omega)) ?_
      rw [mx_nat]
      exact k
theorem ref_Size_ev : ∀ (n : Nat) (t : S32), wt t < n → n < 1152921504606846976 → Ev (fun k => trustquorumref02_Size.f k t.f0 t.f1 t.f2) (siz t : Int)
  | 0, t, h, _ => absurd h (by omega)
  | n + 1, t, h, hn => by
    have hs := siz_le t
    have hw := h
    rw [wt_eq] at h
    have hl := len_wtL t.f2
    rw [siz_eq] at hs ⊢
    (refine Ev.shift ?_; simp only [trustquorumref02_Size.f, Option.bind_some, ↓reduceIte, Bool.false_eq_true, reduceCtorEq, decide_eq_true_eq, Go.Proofs.YtkjlcbfjllpcnaaW.PrintWords.rd, rd_T32, rd_T34])
    rw [show wrap64 ((t.f1.length : Int) + (t.f2.length : Int)) = ((t.f1.length + t.f2.length : Nat) : Int) by rw [w64 (by omega) (by omega)]; omega]
    refine Ev.fold (L := fun (c : Nat) i k => trustquorumref02_Size.l0 k (c : Int) t.f2 (t.f2.length : Int) i) (by omega) (fun pre ys c => c + sizL ys = t.f1.length + t.f2.length + sizL t.f2) ?_ ?_ (t.f1.length + t.f2.length) rfl
    · intro c i hI hi
      rw [sizL] at hI
      (refine Ev.shift ?_; simp only [trustquorumref02_Size.l0, hi, Option.bind_some, ↓reduceIte, Bool.false_eq_true, reduceCtorEq, decide_eq_true_eq, Go.Proofs.YtkjlcbfjllpcnaaW.PrintWords.rd, rd_T32, rd_T34])
      rw [← hI]
      exact Ev.now _
    · intro pre y ys c i e hI hi h0 hlt hw hrd
      rw [sizL] at hI
      refine Or.inl ⟨c + siz y, by omega, fun k => ?_⟩
      (refine Ev.shift ?_; simp only [trustquorumref02_Size.l0, h0, hlt, hw, hrd, Option.bind_some, ↓reduceIte, Bool.false_eq_true, reduceCtorEq, decide_eq_true_eq, Go.Proofs.YtkjlcbfjllpcnaaW.PrintWords.rd, rd_T32, rd_T34])
      refine Ev.bind1 (ref_Size_ev n y (by have := wt_mem (show y ∈ t.f2 by rw [e]; simp); omega) (by omega)) ?_
      rw [show wrap64 ((c : Int) + (siz y : Int)) = ((c + siz y : Nat) : Int) by rw [w64 (by omega) (by omega)]; omega]
      exact k
theorem ref_Of_ev (l : List Int) (hl : l.length < 1152921504606846976) : Ev (fun k => trustquorumref01_Of.f k l) (((ofS 0 l).1 : Int), (ofS 0 l).2) := by
  refine Ev.congr (f := fun k => trustquorumref01_Of.l0 k ((0 : Nat) : Int) l (l.length : Int) 0) (fun k => rfl) ?_
  refine Ev.fold (L := fun (c : Nat) i k => trustquorumref01_Of.l0 k (c : Int) l (l.length : Int) i) (by omega) (fun pre ys c => ofS c ys = ofS 0 l ∧ c < 1024) ?_ ?_ 0 ⟨rfl, by decide⟩
  · rintro c i ⟨hI, hc⟩ hi
    (refine Ev.shift ?_; simp only [trustquorumref01_Of.l0, hi, Option.bind_some, ↓reduceIte, Bool.false_eq_true, reduceCtorEq, decide_eq_true_eq, Go.Proofs.YtkjlcbfjllpcnaaW.PrintWords.rd, rd_T32, rd_T34])
    rw [← hI]
    exact Ev.now _
  · rintro pre y ys c i e ⟨hI, hc⟩ hi h0 hlt hw hrd
    rw [ofS] at hI
    cases hn : noNode y
    · have hb := noNode_not hn
      simp only [hn, Bool.false_eq_true, if_false] at hI
      cases hs : inS c y
      · refine Or.inl ⟨c ||| 2 ^ y.toNat, ⟨by simpa [hs] using hI, or_lt10 hc (two_lt10 (by omega))⟩, fun k => ?_⟩
        have h2 := two_lt10 (show y.toNat < 10 by omega)
        have e2 : Go.bits .or .i64 (c : Int) (shl .i64 1 y) = ((c ||| 2 ^ y.toNat : Nat) : Int) := by
          rw [show y = (y.toNat : Int) by omega, shl_nat (by omega), Int.toNat_natCast, or_nat (by omega) (by omega)]
        have h1 : ¬ y < 0 := by omega
        have h3 : decide (y ≥ 10) = false := by simp; omega
        (refine Ev.shift ?_; simp only [trustquorumref01_Of.l0, h0, hlt, hw, hrd, h1, h3, Option.bind_some, ↓reduceIte, Bool.false_eq_true, reduceCtorEq, decide_eq_true_eq, Go.Proofs.YtkjlcbfjllpcnaaW.PrintWords.rd, rd_T32, rd_T34])
        (refine Ev.shift ?_; simp only [trustquorumref01_Of.j1, ref01_Has_eq hc, hs, hb.1, hw, Option.bind_some, ↓reduceIte, Bool.false_eq_true, reduceCtorEq, decide_eq_true_eq, Go.Proofs.YtkjlcbfjllpcnaaW.PrintWords.rd, rd_T32, rd_T34])
        rw [e2]
        exact k
      · refine Or.inr ?_
        simp only [hs, if_true] at hI
        have h1 : ¬ y < 0 := by omega
        have h3 : decide (y ≥ 10) = false := by simp; omega
        (refine Ev.shift ?_; simp only [trustquorumref01_Of.l0, h0, hlt, hw, hrd, h1, h3, Option.bind_some, ↓reduceIte, Bool.false_eq_true, reduceCtorEq, decide_eq_true_eq, Go.Proofs.YtkjlcbfjllpcnaaW.PrintWords.rd, rd_T32, rd_T34])
        (refine Ev.shift ?_; simp only [trustquorumref01_Of.j1, ref01_Has_eq hc, hs, Option.bind_some, ↓reduceIte, Bool.false_eq_true, reduceCtorEq, decide_eq_true_eq, Go.Proofs.YtkjlcbfjllpcnaaW.PrintWords.rd, rd_T32, rd_T34])
        rw [← hI]
        exact Ev.now _
    · refine Or.inr ?_
      simp only [hn, if_true] at hI
      rw [← hI]
      by_cases h1 : y < 0
      · (refine Ev.shift ?_; simp only [trustquorumref01_Of.l0, h0, hlt, hw, hrd, h1, Option.bind_some, ↓reduceIte, Bool.false_eq_true, reduceCtorEq, decide_eq_true_eq, Go.Proofs.YtkjlcbfjllpcnaaW.PrintWords.rd, rd_T32, rd_T34])
        (refine Ev.shift ?_; simp only [trustquorumref01_Of.j1, Option.bind_some, ↓reduceIte, Bool.false_eq_true, reduceCtorEq, decide_eq_true_eq, Go.Proofs.YtkjlcbfjllpcnaaW.PrintWords.rd, rd_T32, rd_T34])
        exact Ev.now _
      · have h3 : decide (y ≥ 10) = true := by simp [noNode] at hn ⊢; omega
        (refine Ev.shift ?_; simp only [trustquorumref01_Of.l0, h0, hlt, hw, hrd, h1, h3, Option.bind_some, ↓reduceIte, Bool.false_eq_true, reduceCtorEq, decide_eq_true_eq, Go.Proofs.YtkjlcbfjllpcnaaW.PrintWords.rd, rd_T32, rd_T34])
        (refine Ev.shift ?_; simp only [trustquorumref01_Of.j1, Option.bind_some, ↓reduceIte, Bool.false_eq_true, reduceCtorEq, decide_eq_true_eq, Go.Proofs.YtkjlcbfjllpcnaaW.PrintWords.rd, rd_T32, rd_T34])
        exact Ev.now _
theorem ref_level_ev : ∀ (n : Nat) (t : S32), wt t < n → n < 1152921504606846976 → Ev (fun k => trustquorumref02_check.f k t.f0 t.f1 t.f2) (chk t)
  | 0, t, h, _ => absurd h (by omega)
  | n + 1, t, h, hn => by
    rw [wt_eq] at h
    have hl := len_wtL t.f2
    rw [chk_eq]
    have el : wrap64 ((t.f1.length : Int) + (t.f2.length : Int)) = ((t.f1.length + t.f2.length : Nat) : Int) := by rw [w64 (by omega) (by omega)]; omega
    by_cases h1 : t.f0 < 1
    · (refine Ev.shift ?_; simp only [trustquorumref02_check.f, h1, true_or, Option.bind_some, ↓reduceIte, Bool.false_eq_true, reduceCtorEq, decide_eq_true_eq, Go.Proofs.YtkjlcbfjllpcnaaW.PrintWords.rd, rd_T32, rd_T34])
      (refine Ev.shift ?_; simp only [trustquorumref02_check.j0, Option.bind_some, ↓reduceIte, Bool.false_eq_true, reduceCtorEq, decide_eq_true_eq, Go.Proofs.YtkjlcbfjllpcnaaW.PrintWords.rd, rd_T32, rd_T34])
      exact Ev.now _
    by_cases h2 : t.f0 > ((t.f1.length + t.f2.length : Nat) : Int)
    · (refine Ev.shift ?_; simp only [trustquorumref02_check.f, h1, h2, el, or_true, decide_true, Option.bind_some, ↓reduceIte, Bool.false_eq_true, reduceCtorEq, decide_eq_true_eq, Go.Proofs.YtkjlcbfjllpcnaaW.PrintWords.rd, rd_T32, rd_T34])
      (refine Ev.shift ?_; simp only [trustquorumref02_check.j0, Option.bind_some, ↓reduceIte, Bool.false_eq_true, reduceCtorEq, decide_eq_true_eq, Go.Proofs.YtkjlcbfjllpcnaaW.PrintWords.rd, rd_T32, rd_T34])
      exact Ev.now _
    (refine Ev.shift ?_; simp only [trustquorumref02_check.f, h1, h2, el, or_false, decide_false, Option.bind_some, ↓reduceIte, Bool.false_eq_true, reduceCtorEq, decide_eq_true_eq, Go.Proofs.YtkjlcbfjllpcnaaW.PrintWords.rd, rd_T32, rd_T34])
    (refine Ev.shift ?_; simp only [trustquorumref02_check.j0, Option.bind_some, ↓reduceIte, Bool.false_eq_true, reduceCtorEq, decide_eq_true_eq, Go.Proofs.YtkjlcbfjllpcnaaW.PrintWords.rd, rd_T32, rd_T34])
    have l1 : Ev (fun k => trustquorumref02_check.l1 k t.f2 (t.f2.length : Int) 0) (chkL t.f2) := by
        refine Ev.fold (L := fun (c : Unit) i k => trustquorumref02_check.l1 k t.f2 (t.f2.length : Int) i) (by omega) (fun pre ys c => chkL ys = chkL t.f2) ?_ ?_ () rfl
        · intro c i hI hi
          rw [chkL] at hI
          (refine Ev.shift ?_; simp only [trustquorumref02_check.l1, hi, Option.bind_some, ↓reduceIte, Bool.false_eq_true, reduceCtorEq, decide_eq_true_eq, Go.Proofs.YtkjlcbfjllpcnaaW.PrintWords.rd, rd_T32, rd_T34])
          rw [← hI]
          exact Ev.now _
        · intro pre y ys c i e hI hi h0 hlt hw hrd
          rw [chkL] at hI
          have hy := ref_level_ev n y (by have := wt_mem (show y ∈ t.f2 by rw [e]; simp); omega) (by omega)
          by_cases h4 : chk y = 0
          · refine Or.inl ⟨(), by rw [← hI, if_pos h4], fun k => ?_⟩
            (refine Ev.shift ?_; simp only [trustquorumref02_check.l1, h0, hlt, hw, hrd, Option.bind_some, ↓reduceIte, Bool.false_eq_true, reduceCtorEq, decide_eq_true_eq, Go.Proofs.YtkjlcbfjllpcnaaW.PrintWords.rd, rd_T32, rd_T34])
            refine Ev.bind1 hy ?_
            simp only [h4, if_true]
            exact k
          · refine Or.inr ?_
            rw [← hI, if_neg h4]
            (refine Ev.shift ?_; simp only [trustquorumref02_check.l1, h0, hlt, hw, hrd, Option.bind_some, ↓reduceIte, Bool.false_eq_true, reduceCtorEq, decide_eq_true_eq, Go.Proofs.YtkjlcbfjllpcnaaW.PrintWords.rd, rd_T32, rd_T34])
            refine Ev.bind1 hy ?_
            simp only [h4, if_false]
            exact Ev.now _
    generalize hT : (if (t.f1.any noNode) = true then 5 else if (ofS 0 t.f1).2 = 0 then chkL t.f2 else (ofS 0 t.f1).2) = T
    refine Ev.fold (L := fun (c : Unit) i k => trustquorumref02_check.l0 k t.f1 (t.f1.length : Int) i t.f0 t.f1 t.f2) (by omega) (fun pre ys c => (if (ys.any noNode) = true then 5 else if (ofS 0 t.f1).2 = 0 then chkL t.f2 else (ofS 0 t.f1).2) = T) ?_ ?_ () hT
    · intro c i hI hi
      simp only [List.any_nil, Bool.false_eq_true, if_false] at hI
      (refine Ev.shift ?_; simp only [trustquorumref02_check.l0, hi, Option.bind_some, ↓reduceIte, Bool.false_eq_true, reduceCtorEq, decide_eq_true_eq, Go.Proofs.YtkjlcbfjllpcnaaW.PrintWords.rd, rd_T32, rd_T34])
      refine Ev.bind1 (ref_Of_ev t.f1 (by omega)) ?_
      rw [← hI]
      by_cases h3 : (ofS 0 t.f1).2 = 0
      · simp only [h3, if_true]
        exact l1
      · simp only [h3, if_false]
        exact Ev.now _
    · intro pre y ys c i e hI hi h0 hlt hw hrd
      rw [List.any_cons] at hI
      cases hn : noNode y
      · have hb := noNode_not hn
        have h3 : ¬ y < 0 := by omega
        have h4 : ¬ y ≥ 10 := by omega
        refine Or.inl ⟨(), by simpa [hn] using hI, fun k => ?_⟩
        (refine Ev.shift ?_; simp only [trustquorumref02_check.l0, h0, hlt, hw, hrd, h3, h4, Option.bind_some, ↓reduceIte, Bool.false_eq_true, reduceCtorEq, decide_eq_true_eq, Go.Proofs.YtkjlcbfjllpcnaaW.PrintWords.rd, rd_T32, rd_T34])
        exact k
      · refine Or.inr ?_
        simp only [hn, Bool.true_or, if_true] at hI
        rw [← hI]
        by_cases h3 : y < 0
        · (refine Ev.shift ?_; simp only [trustquorumref02_check.l0, h0, hlt, hw, hrd, h3, Option.bind_some, ↓reduceIte, Bool.false_eq_true, reduceCtorEq, decide_eq_true_eq, Go.Proofs.YtkjlcbfjllpcnaaW.PrintWords.rd, rd_T32, rd_T34])
          exact Ev.now _
        · have h4 : y ≥ 10 := by simp [noNode] at hn; omega
          (refine Ev.shift ?_; simp only [trustquorumref02_check.l0, h0, hlt, hw, hrd, h3, h4, Option.bind_some, ↓reduceIte, Bool.false_eq_true, reduceCtorEq, decide_eq_true_eq, Go.Proofs.YtkjlcbfjllpcnaaW.PrintWords.rd, rd_T32, rd_T34])
          exact Ev.now _
theorem ref_Valid_ev (t : S32) (h : wt t < 1000000) : Ev (fun k => trustquorumref02_Valid.f k t.f0 t.f1 t.f2) (validT t) := by
  simp only [trustquorumref02_Valid.f, validT, Option.bind_some, ↓reduceIte, Bool.false_eq_true, reduceCtorEq, decide_eq_true_eq, Go.Proofs.YtkjlcbfjllpcnaaW.PrintWords.rd, rd_T32, rd_T34]
  refine Ev.bind1 (ref_Depth_ev 1000000 t h (by decide)) ?_
  by_cases h1 : dep t > 4
  · have : (dep t : Int) > 4 := by omega
    simp only [h1, this, Option.bind_some, ↓reduceIte, Bool.false_eq_true, reduceCtorEq, decide_eq_true_eq, Go.Proofs.YtkjlcbfjllpcnaaW.PrintWords.rd, rd_T32, rd_T34]
    exact Ev.now _
  have h2 : ¬ (dep t : Int) > 4 := by omega
  simp only [h1, h2, Option.bind_some, ↓reduceIte, Bool.false_eq_true, reduceCtorEq, decide_eq_true_eq, Go.Proofs.YtkjlcbfjllpcnaaW.PrintWords.rd, rd_T32, rd_T34]
  refine Ev.bind1 (ref_Size_ev 1000000 t h (by decide)) ?_
  by_cases h3 : siz t > 200
  · have : (siz t : Int) > 200 := by omega
    simp only [h3, this, Option.bind_some, ↓reduceIte, Bool.false_eq_true, reduceCtorEq, decide_eq_true_eq, Go.Proofs.YtkjlcbfjllpcnaaW.PrintWords.rd, rd_T32, rd_T34]
    exact Ev.now _
  have h4 : ¬ (siz t : Int) > 200 := by omega
  simp only [h3, h4, Option.bind_some, ↓reduceIte, Bool.false_eq_true, reduceCtorEq, decide_eq_true_eq, Go.Proofs.YtkjlcbfjllpcnaaW.PrintWords.rd, rd_T32, rd_T34]
  refine Ev.bind1 (ref_level_ev 1000000 t h (by decide)) ?_
  exact Ev.now _
def EvP {α : Type} (g : Nat → Option α) (P : α → Prop) : Prop := ∃ r, P r ∧ Ev g r
theorem EvP.now {α : Type} {P : α → Prop} {r : α} (h : P r) : EvP (fun _ => some r) P := ⟨r, h, Ev.now r⟩
theorem EvP.shift {α : Type} {g : Nat → Option α} {P : α → Prop} (h : EvP (fun k => g (k + 1)) P) : EvP g P := by
  obtain ⟨r, h1, h2⟩ := h
  exact ⟨r, h1, Ev.shift h2⟩
theorem EvP.bind {α β : Type} {g : Nat → Option α} {f : Nat → α → Option β} {P : α → Prop} {Q : β → Prop} (h : EvP g P) (k : ∀ a, P a → EvP (fun n => f n a) Q) : EvP (fun n => (g n).bind (f n)) Q := by
  obtain ⟨a, h1, h2⟩ := h
  obtain ⟨r, k1, k2⟩ := k a h1
  exact ⟨r, k1, Ev.bind h2 k2⟩
theorem EvP.imp {α : Type} {g : Nat → Option α} {P Q : α → Prop} (h : EvP g P) (k : ∀ a, P a → Q a) : EvP g Q := by
  obtain ⟨r, h1, h2⟩ := h
  exact ⟨r, k r h1, h2⟩
theorem EvP.ofEv {α : Type} {g : Nat → Option α} {r : α} (h : Ev g r) : EvP g (fun x => x = r) := ⟨r, rfl, h⟩
theorem EvP.loop {σ ρ : Type} {L : σ → Nat → Option ρ} {Q : ρ → Prop} (I : σ → Prop) (m : σ → Nat)
    (hstep : ∀ c, I c → (∀ c', I c' → m c' < m c → EvP (L c') Q) → EvP (L c) Q) (c0 : σ) (h0 : I c0) : EvP (L c0) Q := by
  have key : ∀ n c, m c < n → I c → EvP (L c) Q := by
    intro n
    induction n with
    | zero => intro c h; exact absurd h (by omega)
    | succ n ih => intro c h hc; exact hstep c hc fun c' h' hm => ih c' (by omega) h'
  exact key (m c0 + 1) c0 (by omega) h0
theorem tN {s : List Int} (hs : s.length < 4611686018427387904) {s1 a : Int} (h1 : 0 ≤ s1) (ha : 0 < a) (ha2 : a < 4611686018427387904) :
    EvP (fun _ => trustquorummake_Tape_N.f s s1 a) (fun r => (0 ≤ r.1 ∧ r.1 < a) ∧ 0 ≤ r.2) := by
  unfold trustquorummake_Tape_N.f
  by_cases h : s1 ≥ (s.length : Int)
  · simp only [h, if_true]
    exact EvP.now ⟨⟨by simp, by simpa using ha⟩, h1⟩
  have h2 : s1 < (s.length : Int) := by omega
  have h3 : ¬ a = 0 := by omega
  have hb1 := Int.tmod_lt_of_pos (rd s s1) ha
  have hb2 : - a < Int.tmod (rd s s1) a := by
    have := Int.lt_tmod_of_pos (rd s s1) ha
    omega
  simp only [h, if_false, h1, if_true, h2, h3]
  by_cases h4 : Int.tmod (rd s s1) a < 0
  · simp only [h4, if_true]
    refine EvP.now ?_
    show (0 ≤ wrap64 _ ∧ wrap64 _ < a) ∧ 0 ≤ wrap64 _
    rw [w64 (by omega) (by omega), w64 (by omega) (by omega)]
    omega
  · simp only [h4, if_false]
    refine EvP.now ?_
    show (0 ≤ Int.tmod (rd s s1) a ∧ Int.tmod (rd s s1) a < a) ∧ 0 ≤ wrap64 _
    rw [w64 (by omega) (by omega)]
    omega
theorem tRange {s : List Int} (hs : s.length < 4611686018427387904) {s1 a b : Int} (h1 : 0 ≤ s1) (ha : 0 ≤ a) (hb : a ≤ b) (hb2 : b < 4611686018427387) :
    EvP (fun _ => trustquorummake_Tape_Range.f s s1 a b) (fun r => (a ≤ r.1 ∧ r.1 ≤ b) ∧ 0 ≤ r.2) := by
  unfold trustquorummake_Tape_Range.f
  rw [w64 (n := b - a) (by omega) (by omega), w64 (by omega) (by omega)]
  refine EvP.bind (tN hs h1 (by omega) (by omega)) ?_
  rintro ⟨v, s'⟩ ⟨⟨h2, h3⟩, h4⟩
  refine EvP.now ?_
  show (a ≤ wrap64 _ ∧ wrap64 _ ≤ b) ∧ 0 ≤ s'
  simp only at h2 h3 h4 ⊢
  rw [w64 (by omega) (by omega)]
  omega
theorem tPick {s : List Int} (hs : s.length < 4611686018427387904) {s1 : Int} {l : List Int} (h1 : 0 ≤ s1) (ha : 0 < l.length) (hl : l.length < 4611686018427387904) :
    EvP (fun _ => trustquorummake_Tape_Pick.f s s1 l) (fun r => r.1 ∈ l ∧ 0 ≤ r.2) := by
  unfold trustquorummake_Tape_Pick.f
  refine EvP.bind (tN hs h1 (by omega) (by omega)) ?_
  rintro ⟨v, s'⟩ ⟨⟨h2, h3⟩, h4⟩
  simp only at h2 h3 h4 ⊢
  simp only [h2, h3, if_true]
  refine EvP.now ⟨?_, h4⟩
  simp only [rd]
  have h5 : v.toNat < l.length := by omega
  rw [List.getD_eq_getElem?_getD, List.getElem?_eq_getElem h5]
  exact List.getElem_mem h5
theorem tOrder {s : List Int} (hs : s.length < 4611686018427387904) {s1 : Int} {n : Nat} (h1 : 0 ≤ s1) (hn : n ≤ 1000) :
    EvP (fun k => trustquorummake_Tape_Order.f k s s1 (n : Int)) (fun r => (r.1.length = n ∧ ∀ x ∈ r.1, 0 ≤ x ∧ x < (n : Int)) ∧ 0 ≤ r.2) := by
  simp only [trustquorummake_Tape_Order.f]
  have l1 : ∀ (l : List Int) (i : Int) (s1 : Int), 0 ≤ s1 → l.length = n → (∀ x ∈ l, 0 ≤ x ∧ x < (n : Int)) → i < n →
      EvP (fun k => trustquorummake_Tape_Order.l1 k l i s s1) (fun r => (r.1.length = n ∧ ∀ x ∈ r.1, 0 ≤ x ∧ x < (n : Int)) ∧ 0 ≤ r.2) := by
    intro l i s1 h1 hl hx hi
    refine EvP.loop (L := fun (c : List Int × Int × Int) k => trustquorummake_Tape_Order.l1 k c.1 c.2.1 s c.2.2) (fun c => 0 ≤ c.2.2 ∧ c.1.length = n ∧ (∀ x ∈ c.1, 0 ≤ x ∧ x < (n : Int)) ∧ c.2.1 < n) (fun c => c.2.1.toNat) ?_ (l, i, s1) ⟨h1, hl, hx, hi⟩
    rintro ⟨l, i, s1⟩ ⟨h1, hl, hx, hi⟩ ih
    simp only at h1 hl hx hi ih ⊢
    by_cases h0 : i > 0
    · have e1 : wrap64 (i + 1) = i + 1 := w64 (by omega) (by omega)
      have e2 : wrap64 (i - 1) = i - 1 := w64 (by omega) (by omega)
      have h3 : 0 ≤ i := by omega
      have h4 : i < (l.length : Int) := by omega
      (refine EvP.shift ?_; simp only [trustquorummake_Tape_Order.l1, h0, e1, e2, h3, h4, Option.bind_some, ↓reduceIte, Bool.false_eq_true, reduceCtorEq, decide_eq_true_eq, Go.Proofs.YtkjlcbfjllpcnaaW.PrintWords.rd, rd_T32, rd_T34])
      refine EvP.bind (tN hs h1 (by omega) (by omega)) ?_
      rintro ⟨v, s'⟩ ⟨⟨h5, h6⟩, h7⟩
      simp only at h5 h6 h7 ⊢
      have h8 : v < (l.length : Int) := by omega
      simp only [h5, h8, if_true]
      have hm : ∀ j : Nat, j < l.length → l.getD j 0 ∈ l := fun j hj => by
        rw [List.getD_eq_getElem?_getD, List.getElem?_eq_getElem hj]; exact List.getElem_mem hj
      refine ih (_, i - 1, s') ⟨h7, by simpa using hl, ?_, by show i - 1 < n; omega⟩ (by show (i - 1).toNat < i.toNat; omega)
      intro x hx'
      rcases List.mem_or_eq_of_mem_set hx' with h | h
      · rcases List.mem_or_eq_of_mem_set h with h | h
        · exact hx x h
        · rw [h]; exact hx _ (hm _ (by omega))
      · rw [h]; exact hx _ (hm _ (by omega))
    · (refine EvP.shift ?_; simp only [trustquorummake_Tape_Order.l1, h0, Option.bind_some, ↓reduceIte, Bool.false_eq_true, reduceCtorEq, decide_eq_true_eq, Go.Proofs.YtkjlcbfjllpcnaaW.PrintWords.rd, rd_T32, rd_T34])
      exact EvP.now ⟨⟨hl, hx⟩, h1⟩
  refine EvP.loop (L := fun (c : List Int × Int) k => trustquorummake_Tape_Order.l0 k (n : Int) c.1 c.2 s s1) (fun c => c.2 = (c.1.length : Int) ∧ c.2 ≤ n ∧ (∀ x ∈ c.1, 0 ≤ x ∧ x < (n : Int))) (fun c => n - c.1.length) ?_ ([], 0) ⟨rfl, by show (0 : Int) ≤ n; omega, by simp⟩
  rintro ⟨l, i⟩ ⟨h2, h3, hx⟩ ih
  simp only at h2 h3 hx ih ⊢
  by_cases h0 : i < (n : Int)
  · have e1 : wrap64 (i + 1) = i + 1 := w64 (by omega) (by omega)
    have h4 : l.length < 17592186044416 := by omega
    (refine EvP.shift ?_; simp only [trustquorummake_Tape_Order.l0, h0, e1, h4, Option.bind_some, ↓reduceIte, Bool.false_eq_true, reduceCtorEq, decide_eq_true_eq, Go.Proofs.YtkjlcbfjllpcnaaW.PrintWords.rd, rd_T32, rd_T34])
    refine ih (l ++ [i], i + 1) ⟨by simp; omega, by show i + 1 ≤ n; omega, ?_⟩ (by simp; omega)
    intro x hx'
    rcases List.mem_append.1 hx' with h | h
    · exact hx x h
    · rw [List.mem_singleton.1 h]; omega
  · (refine EvP.shift ?_; simp only [trustquorummake_Tape_Order.l0, h0, Option.bind_some, ↓reduceIte, Bool.false_eq_true, reduceCtorEq, decide_eq_true_eq, Go.Proofs.YtkjlcbfjllpcnaaW.PrintWords.rd, rd_T32, rd_T34])
    exact l1 l _ s1 h1 (by omega) hx (by rw [w64 (by omega) (by omega)]; omega)
def foldU (l : List Int) (a : Nat) : Nat := l.foldl (fun a x => if noNode x = true then a else a ||| 2 ^ x.toNat) a
theorem foldU_lt {n : Nat} (hn : n ≤ 10) : ∀ (l : List Int) (a : Nat), a < 2 ^ n → (∀ x ∈ l, 0 ≤ x ∧ x < (n : Int)) → foldU l a < 2 ^ n := by
  intro l
  induction l with
  | nil => intro a h _; exact h
  | cons x xs ih =>
    intro a h hx
    have h1 := hx x (by simp)
    show foldU xs (if noNode x = true then a else a ||| 2 ^ x.toNat) < 2 ^ n
    refine ih _ ?_ fun y hy => hx y (by simp [hy])
    split
    · exact h
    · exact or_lt h (Nat.pow_lt_pow_right (by decide) (by omega))
theorem useL_lt2 {n : Nat} : ∀ (l : List S32), (∀ t ∈ l, uses t < 2 ^ n) → useL l < 2 ^ n
  | [], _ => by rw [useL]; exact Nat.two_pow_pos n
  | t :: ts, h => by rw [useL]; exact or_lt (h t (by simp)) (useL_lt2 ts fun y hy => h y (by simp [hy]))
theorem wtL_le {b : Nat} : ∀ (l : List S32), (∀ t ∈ l, wt t ≤ b) → wtL l ≤ l.length * b
  | [], _ => by rw [wtL]; omega
  | t :: ts, h => by
    rw [wtL, List.length_cons, Nat.add_mul]
    have := h t (by simp)
    have := wtL_le ts fun y hy => h y (by simp [hy])
    omega
def In (n b : Nat) (t : S32) : Prop := wt t ≤ b ∧ uses t < 2 ^ n
theorem In_mk {n b : Nat} (hn : n ≤ 10) {v : Int} {l : List Int} {ts : List S32} (h2 : ∀ x ∈ l, 0 ≤ x ∧ x < (n : Int)) (h4 : ∀ t ∈ ts, In n b t) (B : Nat) (hB : 1 + l.length + ts.length * b ≤ B) : In n B ⟨v, l, ts⟩ := by
  constructor
  · rw [wt_eq]
    have := wtL_le ts fun t ht => (h4 t ht).1
    simp only
    omega
  · rw [uses_eq]
    exact or_lt (foldU_lt hn l 0 (Nat.two_pow_pos n) h2) (useL_lt2 ts fun t ht => (h4 t ht).2)
abbrev toT (r : Int × List Int × List S32 × Int) : S32 := ⟨r.1, r.2.1, r.2.2.1⟩
theorem trust_row {s : List Int} (hs : s.length < 4611686018427387904) {n b : Nat} (hn : n ≤ 10) (hn1 : 1 ≤ n) (hb : b ≤ 100) (a2 : Int) (h2 : a2 ≤ 10)
    (hrec : a2 > 1 → ∀ s1, 0 ≤ s1 → EvP (fun k => trustquorummake_trust.f k s s1 (n : Int) (wrap64 (a2 - 1))) (fun r => In n b (toT r) ∧ 0 ≤ r.2.2.2)) {s1 : Int} (h1 : 0 ≤ s1) :
    EvP (fun k => trustquorummake_trust.f k s s1 (n : Int) a2) (fun r => In n (6 + 3 * b) (toT r) ∧ 0 ≤ r.2.2.2) := by
  have fin : ∀ (v : Int) (l : List Int) (ts : List S32), l.length ≤ 5 → (∀ x ∈ l, 0 ≤ x ∧ x < (n : Int)) → ts.length ≤ 3 → (∀ t ∈ ts, In n b t) → In n (6 + 3 * b) ⟨v, l, ts⟩ := by
    intro v l ts h1 h2 h3 h4
    refine In_mk hn h2 h4 _ ?_
    have : ts.length * b ≤ 3 * b := Nat.mul_le_mul_right b h3
    omega
  have fine : ∀ (v : Int) (l : List Int) (ts : List S32) (s2 : Int), l.length ≤ 5 → (∀ x ∈ l, 0 ≤ x ∧ x < (n : Int)) → ts.length ≤ 3 → (∀ t ∈ ts, In n b t) → 0 ≤ s2 → EvP (fun _ => some (v, l, ts, s2)) (fun r => In n (6 + 3 * b) (toT r) ∧ 0 ≤ r.2.2.2) :=
    fun v l ts s2 h1 h2 h3 h4 h5 => EvP.now ⟨fin v l ts h1 h2 h3 h4, h5⟩
  clear fin
  generalize 6 + 3 * b = B at fine ⊢
  have L1 : ∀ (l : List Int), 1 ≤ l.length → l.length ≤ 5 → (∀ x ∈ l, 0 ≤ x ∧ x < (n : Int)) → a2 > 1 → ∀ (m : Nat), m ≤ 3 → ∀ (s1 : Int), 0 ≤ s1 →
      EvP (fun k => trustquorummake_trust.l1 k (n : Int) a2 (m : Int) s s1 0 l ([] : List S32)) (fun r => In n B (toT r) ∧ 0 ≤ r.2.2.2) := by
    intro l hl0 hl hx ha m hm s1 h1
    refine EvP.loop (L := fun (c : Nat × Int × List S32) k => trustquorummake_trust.l1 k (n : Int) a2 (c.1 : Int) s c.2.1 0 l c.2.2) (fun c => 0 ≤ c.2.1 ∧ c.1 + c.2.2.length ≤ 3 ∧ ∀ t ∈ c.2.2, In n b t) (fun c => c.1) ?_ (m, s1, []) ⟨h1, by simp; omega, by simp⟩
    rintro ⟨m, s1, ts⟩ ⟨h1, h3, h4⟩ ih
    simp only at h1 h3 h4 ih ⊢
    by_cases h0 : (m : Int) > 0
    · have e1 : wrap64 ((m : Int) - 1) = ((m - 1 : Nat) : Int) := by rw [w64 (by omega) (by omega)]; omega
      have h6 : ts.length < 2513169434916 := by omega
      (refine EvP.shift ?_; simp only [trustquorummake_trust.l1, h0, e1, h6, Option.bind_some, ↓reduceIte, Bool.false_eq_true, reduceCtorEq, decide_eq_true_eq, Go.Proofs.YtkjlcbfjllpcnaaW.PrintWords.rd, rd_T32, rd_T34])
      refine EvP.bind (hrec ha s1 h1) ?_
      rintro ⟨v, l', ts', s'⟩ ⟨h7, h8⟩
      refine ih (m - 1, s', ts ++ [⟨v, l', ts'⟩]) ⟨h8, by simp; omega, ?_⟩ (by show m - 1 < m; omega)
      intro t ht
      rcases List.mem_append.1 ht with h | h
      · exact h4 t h
      · rw [List.mem_singleton.1 h]; exact h7
    · clear ih
      have ew : wrap64 ((l.length : Int) + (ts.length : Int)) = (l.length : Int) + (ts.length : Int) := w64 (by omega) (by omega)
      by_cases h5 : (ts.length : Int) > 0
      · (refine EvP.shift ?_; simp only [trustquorummake_trust.l1, h0, h5, ew, Option.bind_some, ↓reduceIte, Bool.false_eq_true, reduceCtorEq, decide_eq_true_eq, Go.Proofs.YtkjlcbfjllpcnaaW.PrintWords.rd, rd_T32, rd_T34])
        clear ew
        refine EvP.bind (tN hs h1 (by omega) (by omega)) ?_
        rintro ⟨v, s'⟩ ⟨⟨h6, h7⟩, h8⟩
        simp only at h6 h7 h8 ⊢
        split
        · rw [show wrap64 ((([] : List Int).length : Int) + (ts.length : Int)) = (ts.length : Int) by rw [List.length_nil, w64 (by omega) (by omega)]; omega]
          refine EvP.bind (tRange hs h8 (by omega) (by omega) (by omega)) ?_
          rintro ⟨v2, s2⟩ ⟨h9, h10⟩
          exact fine v2 [] ts s2 (by simp) (by simp) (by omega) h4 h10
        · refine EvP.bind (tRange hs h8 (by omega) (by omega) (by omega)) ?_
          rintro ⟨v2, s2⟩ ⟨h9, h10⟩
          exact fine v2 l ts s2 hl hx (by omega) h4 h10
      · (refine EvP.shift ?_; simp only [trustquorummake_trust.l1, h0, h5, ew, Option.bind_some, ↓reduceIte, Bool.false_eq_true, reduceCtorEq, decide_eq_true_eq, Go.Proofs.YtkjlcbfjllpcnaaW.PrintWords.rd, rd_T32, rd_T34])
        clear ew
        refine EvP.bind (tRange hs h1 (by omega) (by omega) (by omega)) ?_
        rintro ⟨v2, s2⟩ ⟨h9, h10⟩
        exact fine v2 l ts s2 hl hx (by omega) h4 h10
  have mnv : mn (n : Int) 5 ≤ n ∧ 1 ≤ mn (n : Int) 5 ∧ mn (n : Int) 5 ≤ 5 := by unfold mn; split <;> omega
  (refine EvP.shift ?_; simp only [trustquorummake_trust.f, Option.bind_some, ↓reduceIte, Bool.false_eq_true, reduceCtorEq, decide_eq_true_eq, Go.Proofs.YtkjlcbfjllpcnaaW.PrintWords.rd, rd_T32, rd_T34])
  refine EvP.bind (tOrder hs h1 (by omega)) ?_
  rintro ⟨o, s2⟩ ⟨⟨ho, hox⟩, h2'⟩
  simp only at ho hox h2' ⊢
  refine EvP.bind (tRange hs h2' (by omega) mnv.2.1 (by omega)) ?_
  rintro ⟨q, s3⟩ ⟨⟨hq1, hq2⟩, h3'⟩
  simp only at hq1 hq2 h3' ⊢
  have hq3 : 0 ≤ q := by omega
  have hq4 : q ≤ (o.length : Int) := by omega
  simp only [hq3, hq4, if_true, Option.bind_some]
  generalize hy : o.take q.toNat = y
  have hyl : y.length = q.toNat := by rw [← hy, List.length_take]; omega
  have hyx : ∀ x ∈ y, 0 ≤ x ∧ x < (n : Int) := fun x hx => hox x (by rw [← hy] at hx; exact List.mem_of_mem_take hx)
  refine EvP.loop (L := fun (c : List Int × Int) k => trustquorummake_trust.l0 k (n : Int) a2 y (y.length : Int) c.2 s s3 0 c.1) (fun c => c.2 = (c.1.length : Int) ∧ c.1.length ≤ y.length ∧ (∀ x ∈ c.1, 0 ≤ x ∧ x < (n : Int))) (fun c => y.length - c.1.length) ?_ ([], 0) ⟨rfl, by simp, by simp⟩
  rintro ⟨l, i⟩ ⟨h3, h4, hx⟩ ih
  simp only at h3 h4 hx ih ⊢
  by_cases h0 : i < (y.length : Int)
  · have e1 : wrap64 (i + 1) = i + 1 := w64 (by omega) (by omega)
    have h6 : l.length < 17592186044416 := by omega
    have h7 : 0 ≤ i := by omega
    (refine EvP.shift ?_; simp only [trustquorummake_trust.l0, h0, e1, h6, h7, Option.bind_some, ↓reduceIte, Bool.false_eq_true, reduceCtorEq, decide_eq_true_eq, Go.Proofs.YtkjlcbfjllpcnaaW.PrintWords.rd, rd_T32, rd_T34])
    refine ih (l ++ [y.getD i.toNat 0], i + 1) ⟨by simp; omega, by simp; omega, ?_⟩ (by simp; omega)
    intro x hx'
    rcases List.mem_append.1 hx' with h | h
    · exact hx x h
    · rw [List.mem_singleton.1 h, List.getD_eq_getElem?_getD, List.getElem?_eq_getElem (show i.toNat < y.length by omega)]
      exact hyx _ (List.getElem_mem _)
  · by_cases ha : a2 > 1
    · (refine EvP.shift ?_; simp only [trustquorummake_trust.l0, h0, ha, Option.bind_some, ↓reduceIte, Bool.false_eq_true, reduceCtorEq, decide_eq_true_eq, Go.Proofs.YtkjlcbfjllpcnaaW.PrintWords.rd, rd_T32, rd_T34])
      refine EvP.bind (tPick hs h3' (by decide) (by decide)) ?_
      rintro ⟨p, s4⟩ ⟨hp, h4'⟩
      simp only at hp h4' ⊢
      have hp2 : 0 ≤ p ∧ p ≤ 3 := by
        simp only [List.mem_cons, List.not_mem_nil, or_false] at hp
        omega
      have := L1 l (by omega) (by omega) hx ha p.toNat (by omega) s4 h4'
      rw [show ((p.toNat : Nat) : Int) = p by omega] at this
      exact this
    · (refine EvP.shift ?_; simp only [trustquorummake_trust.l0, h0, ha, Option.bind_some, ↓reduceIte, Bool.false_eq_true, reduceCtorEq, decide_eq_true_eq, Go.Proofs.YtkjlcbfjllpcnaaW.PrintWords.rd, rd_T32, rd_T34])
      rw [show wrap64 ((l.length : Int) + (([] : List S32).length : Int)) = (l.length : Int) by rw [List.length_nil, w64 (by omega) (by omega)]; omega]
      refine EvP.bind (tRange hs h3' (by omega) (by omega) (by omega)) ?_
      rintro ⟨v2, s2⟩ ⟨h9, h10⟩
      exact fine v2 l [] s2 (by omega) hx (by simp) (by simp) h10
theorem trust_ev {s : List Int} (hs : s.length < 4611686018427387904) {n : Nat} (hn : n ≤ 10) (hn1 : 1 ≤ n) {s1 : Int} (h1 : 0 ≤ s1) :
    EvP (fun k => trustquorummake_trust.f k s s1 (n : Int) 2) (fun r => In n 24 (toT r) ∧ 0 ≤ r.2.2.2) :=
  trust_row hs (b := 6) hn hn1 (by decide) 2 (by decide) (fun _ s1 h1 => by
    rw [show wrap64 ((2 : Int) - 1) = 1 from w64 (by decide) (by decide)]
    exact trust_row hs (b := 0) hn hn1 (by decide) 1 (by decide) (fun h => absurd h (by decide)) h1) h1
def Okt (n : Nat) (t : S32) : Prop := validT t = 0 ∧ In n 100 t
theorem one_ok {n : Nat} {v : Int} (h0 : 0 ≤ v) (h1 : v < (n : Int)) (hn : n ≤ 10) : Okt n ⟨1, [v], []⟩ := by
  constructor
  · have hv : noNode v = false := by simp [noNode]; omega
    have : (ofS 0 [v]).2 = 0 := by
      rw [ofS, hv, ofS]; simp [inS]
    simp [validT, dep, siz, depL, sizL, chk, chkL, hv, this]
  · exact In_mk hn (b := 0) (by simp; omega) (by simp) _ (by simp)
theorem Trust_ev {s : List Int} (hs : s.length < 4611686018427387904) {n : Nat} (hn : n ≤ 10) (hn1 : 1 ≤ n) {s1 : Int} (h1 : 0 ≤ s1) :
    EvP (fun k => trustquorummake_Trust.f k s s1 (n : Int) 2) (fun r => Okt n (toT r) ∧ 0 ≤ r.2.2.2) := by
  simp only [trustquorummake_Trust.f]
  refine EvP.bind (trust_ev hs hn hn1 h1) ?_
  rintro ⟨v, l, ts, s'⟩ ⟨h2, h3⟩
  simp only at h2 h3 ⊢
  refine EvP.bind (EvP.ofEv (ref_Valid_ev (toT (v, l, ts, s')) (by have := h2.1; omega))) ?_
  rintro r rfl
  by_cases h : validT (toT (v, l, ts, s')) = 0
  · simp only [h, if_true]
    exact EvP.now ⟨⟨h, Nat.le_trans h2.1 (by decide), h2.2⟩, h3⟩
  · simp only [h, if_false]
    refine EvP.bind (tN hs h3 (by omega) (by omega)) ?_
    rintro ⟨v, s'⟩ ⟨⟨h2, h3⟩, h4⟩
    exact EvP.now ⟨one_ok h2 h3 hn, h4⟩
theorem ofS_snoc (l : List Int) (x : Int) : ∀ a, (ofS a l).2 = 0 → ofS a (l ++ [x]) = if noNode x = true then (0, 5) else if inS (ofS a l).1 x = true then (0, 6) else ((ofS a l).1 ||| 2 ^ x.toNat, 0) := by
  induction l with
  | nil => intro a _; rw [List.nil_append, ofS, ofS, ofS]
  | cons y ys ih =>
    intro a h
    rw [List.cons_append, ofS]
    rw [ofS] at h ⊢
    split at h
    · cases h
    · split at h
      · cases h
      · rename_i h1 h2
        simp only [h1, h2, if_false]
        exact ih _ h
def Asc (n : Nat) (l : List Int) : Prop := l.length ≤ n ∧ (ofS 0 l).2 = 0 ∧ (ofS 0 l).1 < 2 ^ n ∧ ∀ x ∈ l, 0 ≤ x ∧ x < (n : Int)
theorem Asc_nil (n : Nat) : Asc n [] := ⟨by simp, rfl, Nat.two_pow_pos n, by simp⟩
theorem Asc_snoc {n m : Nat} {l : List Int} (h : Asc n l) (hm : m ≤ 10) (hnm : n < m) : Asc m (l ++ [(n : Int)]) := by
  obtain ⟨h1, h2, h3, h4⟩ := h
  have hv : noNode (n : Int) = false := by simp [noNode]; omega
  have hi : inS (ofS 0 l).1 (n : Int) = false := by rw [inS_nat _ _ (by omega)]; exact bit_lt h3 (Nat.le_refl _)
  have e := ofS_snoc l (n : Int) 0 h2
  rw [hv, hi] at e
  simp only [Bool.false_eq_true, if_false] at e
  refine ⟨by simp; omega, by rw [e], ?_, ?_⟩
  · rw [e]
    exact or_lt (Nat.lt_of_lt_of_le h3 (Nat.pow_le_pow_right (by decide) (by omega))) (by rw [Int.toNat_natCast]; exact Nat.pow_lt_pow_right (by decide) hnm)
  · intro x hx
    rcases List.mem_append.1 hx with h | h
    · have := h4 x h; omega
    · rw [List.mem_singleton.1 h]; omega
theorem Asc.mono {n m : Nat} {l : List Int} (h : Asc n l) (hnm : n ≤ m) : Asc m l := by
  obtain ⟨h1, h2, h3, h4⟩ := h
  exact ⟨by omega, h2, Nat.lt_of_lt_of_le h3 (Nat.pow_le_pow_right (by decide) hnm), fun x hx => by have := h4 x hx; omega⟩
theorem Asc.any {n : Nat} {l : List Int} (h : Asc n l) (hn : n ≤ 10) : l.any noNode = false := by
  rw [List.any_eq_false]
  intro x hx
  have := h.2.2.2 x hx
  simp [noNode]; omega
def Flat (n : Nat) (t : S32) : Prop := Asc n t.f1 ∧ t.f2 = [] ∧ 1 ≤ t.f0 ∧ t.f0 ≤ (t.f1.length : Int)
theorem flat_chk {n : Nat} {t : S32} (hn : n ≤ 10) (h : Flat n t) : chk t = 0 := by
  obtain ⟨h1, h2, h3, h4⟩ := h
  rw [chk_eq, h2, h1.any hn, h1.2.1, if_neg (by simp; omega)]
  simp [chkL]
theorem flat_in {n : Nat} {t : S32} (hn : n ≤ 10) (h : Flat n t) : In n 11 t := by
  obtain ⟨h1, h2, h3, h4⟩ := h
  have e : t = ⟨t.f0, t.f1, []⟩ := by cases t; simp only at h2; subst h2; rfl
  rw [e]
  have := h1.1
  exact In_mk hn (b := 0) h1.2.2.2 (by simp) _ (by simp; omega)
theorem flat_ok {n : Nat} {t : S32} (hn : n ≤ 10) (h : Flat n t) : Okt n t := by
  constructor
  · have := h.1.1
    rw [validT, dep_eq, siz_eq, h.2.1, flat_chk hn h, depL, sizL]
    simp; omega
  · have := flat_in hn h
    exact ⟨Nat.le_trans this.1 (by decide), this.2⟩
theorem most_ev {s : List Int} (hs : s.length < 4611686018427387904) {n : Nat} (hn : n ≤ 10) (hn1 : 1 ≤ n) {s1 : Int} (h1 : 0 ≤ s1) :
    EvP (fun k => trustquorummake_most.f k s s1 (n : Int)) (fun r => Okt n (toT r) ∧ 0 ≤ r.2.2.2) := by
  simp only [trustquorummake_most.f]
  have thr : ∀ (l : List Int) (d : Int), 1 ≤ l.length → l.length ≤ 10 → -1 ≤ d ∧ d ≤ 1 → 1 ≤ mn (l.length : Int) (mx 1 (wrap64 ((wrap64 (Int.tdiv (wrap64 ((wrap64 (2 * (l.length : Int))) + 2)) 3)) + d))) ∧ mn (l.length : Int) (mx 1 (wrap64 ((wrap64 (Int.tdiv (wrap64 ((wrap64 (2 * (l.length : Int))) + 2)) 3)) + d))) ≤ (l.length : Int) := by
    intro l d h1 h2 h3
    unfold mn mx
    split <;> split <;> omega
  have pk : ∀ d ∈ ([0, 0, 0, 1, (-1)] : List Int), -1 ≤ d ∧ d ≤ 1 := by decide
  refine EvP.loop (L := fun (c : Nat × Int × List Int) k => trustquorummake_most.l0 k (n : Int) (c.1 : Int) s c.2.1 0 c.2.2) (fun c => 0 ≤ c.2.1 ∧ c.1 ≤ n ∧ Asc c.1 c.2.2) (fun c => n - c.1) ?_ (0, s1, []) ⟨h1, by simp, Asc_nil 0⟩
  rintro ⟨i, s1, l⟩ ⟨h1, h3, h4⟩ ih
  simp only at h1 h3 h4 ih ⊢
  have hl := h4.1
  by_cases h0 : (i : Int) < (n : Int)
  · have e1 : wrap64 ((i : Int) + 1) = ((i + 1 : Nat) : Int) := w64 (by omega) (by omega)
    have h6 : l.length < 17592186044416 := by omega
    (refine EvP.shift ?_; simp only [trustquorummake_most.l0, h0, e1, h6, Option.bind_some, ↓reduceIte, Bool.false_eq_true, reduceCtorEq, decide_eq_true_eq, Go.Proofs.YtkjlcbfjllpcnaaW.PrintWords.rd, rd_T32, rd_T34])
    refine EvP.bind (tN hs h1 (by omega) (by omega)) ?_
    rintro ⟨v, s'⟩ ⟨⟨h7, h8⟩, h9⟩
    simp only at h7 h8 h9 ⊢
    split
    · exact ih (i + 1, s', l ++ [(i : Int)]) ⟨h9, by show i + 1 ≤ n; omega, Asc_snoc h4 (by omega) (by omega)⟩ (by show n - (i + 1) < n - i; omega)
    · exact ih (i + 1, s', l) ⟨h9, by show i + 1 ≤ n; omega, h4.mono (by omega)⟩ (by show n - (i + 1) < n - i; omega)
  · have e : i = n := by omega
    subst e
    by_cases h5 : (l.length : Int) = 0
    · (refine EvP.shift ?_; simp only [trustquorummake_most.l0, h0, h5, Option.bind_some, ↓reduceIte, Bool.false_eq_true, reduceCtorEq, decide_eq_true_eq, Go.Proofs.YtkjlcbfjllpcnaaW.PrintWords.rd, rd_T32, rd_T34])
      refine EvP.bind (tPick hs h1 (by decide) (by decide)) ?_
      rintro ⟨d, s'⟩ ⟨h7, h8⟩
      simp only at h7 h8 ⊢
      have ht := thr [0] d (by decide) (by decide) (pk d h7)
      refine EvP.now ⟨flat_ok hn ⟨?_, rfl, ht.1, ht.2⟩, h8⟩
      exact (Asc_snoc (Asc_nil 0) (by decide) (show 0 < 1 by decide)).mono hn1
    · (refine EvP.shift ?_; simp only [trustquorummake_most.l0, h0, h5, Option.bind_some, ↓reduceIte, Bool.false_eq_true, reduceCtorEq, decide_eq_true_eq, Go.Proofs.YtkjlcbfjllpcnaaW.PrintWords.rd, rd_T32, rd_T34])
      refine EvP.bind (tPick hs h1 (by decide) (by decide)) ?_
      rintro ⟨d, s'⟩ ⟨h7, h8⟩
      simp only at h7 h8 ⊢
      have ht := thr l d (by omega) (by omega) (pk d h7)
      exact EvP.now ⟨flat_ok hn ⟨h4, rfl, ht.1, ht.2⟩, h8⟩
theorem depL_flat {n : Nat} : ∀ (l : List S32), (∀ t ∈ l, Flat n t) → depL l ≤ 1
  | [], _ => by rw [depL]; omega
  | t :: ts, h => by
    rw [depL, dep_eq, (h t (by simp)).2.1, depL]
    have := depL_flat ts fun y hy => h y (by simp [hy])
    omega
theorem sizL_flat {n : Nat} : ∀ (l : List S32), (∀ t ∈ l, Flat n t) → sizL l ≤ l.length * n
  | [], _ => by rw [sizL]; omega
  | t :: ts, h => by
    have := sizL_flat ts fun y hy => h y (by simp [hy])
    have h1 := (h t (by simp)).1.1
    rw [sizL, siz_eq, (h t (by simp)).2.1, List.length_cons, Nat.add_mul, sizL, List.length_nil]
    omega
theorem chkL_flat {n : Nat} (hn : n ≤ 10) : ∀ (l : List S32), (∀ t ∈ l, Flat n t) → chkL l = 0
  | [], _ => by rw [chkL]
  | t :: ts, h => by rw [chkL, if_pos (flat_chk hn (h t (by simp)))]; exact chkL_flat hn ts fun y hy => h y (by simp [hy])
theorem group_ok {n : Nat} (hn : n ≤ 10) {v : Int} {ts : List S32} (h1 : 1 ≤ v) (h2 : v ≤ (ts.length : Int)) (h3 : ts.length ≤ 3) (h4 : ∀ t ∈ ts, Flat n t) : Okt n ⟨v, [], ts⟩ := by
  constructor
  · have hd := depL_flat ts h4
    have hs := sizL_flat ts h4
    have : ts.length * n ≤ 3 * 10 := Nat.mul_le_mul h3 hn
    rw [validT, dep_eq, siz_eq, chk_eq]
    simp only [List.length_nil, List.any_nil, ofS, chkL_flat hn ts h4]
    rw [if_neg (by omega), if_neg (by omega), if_neg (by omega)]
    simp
  · refine In_mk hn (b := 11) (by simp) (fun t ht => flat_in hn (h4 t ht)) _ ?_
    have : ts.length * 11 ≤ 3 * 11 := Nat.mul_le_mul_right 11 h3
    simp only [List.length_nil]; omega
theorem getD_mem' {α : Type} {l : List α} {i : Nat} (d : α) (h : i < l.length) : l.getD i d ∈ l := by
  rw [List.getD_eq_getElem?_getD, List.getElem?_eq_getElem h]; exact List.getElem_mem h
theorem group_ev {s : List Int} (hs : s.length < 4611686018427387904) {n : Nat} (hn : n ≤ 10) (hn1 : 1 ≤ n) {s1 : Int} (h1 : 0 ≤ s1) (i : Nat) (hi : i < 1000) :
    EvP (fun k => trustquorummake_group.f k s s1 (n : Int) (i : Int)) (fun r => Okt n (toT r) ∧ 0 ≤ r.2.2.2) := by
  simp only [trustquorummake_group.f]
  refine EvP.loop (L := fun (c : Nat × Int × List S32) k => trustquorummake_group.l0 k (n : Int) (i : Int) c.2.2 (c.1 : Int) s c.2.1) (fun c => 0 ≤ c.2.1 ∧ c.1 ≤ 3 ∧ c.2.2.length ≤ c.1 ∧ (1 ≤ c.1 → 1 ≤ c.2.2.length) ∧ ∀ t ∈ c.2.2, Flat n t) (fun c => 3 - c.1) ?_ (0, s1, []) ⟨h1, by simp, by simp, by simp, by simp⟩
  clear h1 s1
  rintro ⟨g, s1, ts⟩ ⟨h1, h2, h3, h4, h5⟩ ih
  simp only at h1 h2 h3 h4 h5 ih ⊢
  by_cases h0 : (g : Int) < 3
  · (refine EvP.shift ?_; simp only [trustquorummake_group.l0, h0, Option.bind_some, ↓reduceIte, Bool.false_eq_true, reduceCtorEq, decide_eq_true_eq, Go.Proofs.YtkjlcbfjllpcnaaW.PrintWords.rd, rd_T32, rd_T34])
    refine EvP.loop (L := fun (c : Nat × List Int) k => trustquorummake_group.l1 k (n : Int) (i : Int) ts (g : Int) (c.1 : Int) s s1 1 c.2) (fun c => Asc (min c.1 n) c.2 ∧ (c.1 = g ∧ c.2 = [] ∨ 1 ≤ c.2.length) ∧ (c.1 = g ∨ g + 3 ≤ c.1) ∧ c.1 ≤ 100) (fun c => n - c.1) ?_ (g, []) ⟨(Asc_nil 0).mono (by omega), Or.inl ⟨rfl, rfl⟩, Or.inl rfl, by show g ≤ 100; omega⟩
    rintro ⟨j, l⟩ ⟨h6, h7, h8, h9⟩ ih2
    simp only at h6 h7 h8 h9 ih2 ⊢
    have hl := h6.1
    by_cases hj : (j : Int) < (n : Int)
    · have e1 : wrap64 ((j : Int) + 3) = ((j + 3 : Nat) : Int) := w64 (by omega) (by omega)
      have h10 : l.length < 17592186044416 := by omega
      (refine EvP.shift ?_; simp only [trustquorummake_group.l1, hj, e1, h10, Option.bind_some, ↓reduceIte, Bool.false_eq_true, reduceCtorEq, decide_eq_true_eq, Go.Proofs.YtkjlcbfjllpcnaaW.PrintWords.rd, rd_T32, rd_T34])
      clear e1
      refine ih2 (j + 3, l ++ [(j : Int)]) ⟨?_, Or.inr (by simp), Or.inr (by show g + 3 ≤ j + 3; omega), by show j + 3 ≤ 100; omega⟩ (by show n - (j + 3) < n - j; omega)
      rw [show min j n = j by omega] at h6
      exact (Asc_snoc h6 (m := j + 1) (by omega) (by omega)).mono (by show j + 1 ≤ min (j + 3) n; omega)
    · rw [show min j n = n by omega] at h6 hl
      have ew : wrap64 ((g : Int) + 1) = ((g + 1 : Nat) : Int) := w64 (by omega) (by omega)
      by_cases h10 : (l.length : Int) > 0
      · have h11 : ts.length < 2513169434916 := by omega
        (refine EvP.shift ?_; simp only [trustquorummake_group.l1, hj, h10, ew, h11, Option.bind_some, ↓reduceIte, Bool.false_eq_true, reduceCtorEq, decide_eq_true_eq, Go.Proofs.YtkjlcbfjllpcnaaW.PrintWords.rd, rd_T32, rd_T34])
        clear ew
        refine EvP.bind (tRange hs h1 (by omega) (by omega) (by omega)) ?_
        rintro ⟨v, s'⟩ ⟨⟨h12, h13⟩, h14⟩
        simp only at h12 h13 h14 ⊢
        refine ih (g + 1, s', ts ++ [⟨v, l, []⟩]) ⟨h14, by show g + 1 ≤ 3; omega, by simp; omega, by simp, ?_⟩ (by show 3 - (g + 1) < 3 - g; omega)
        intro t ht
        rcases List.mem_append.1 ht with h | h
        · exact h5 t h
        · rw [List.mem_singleton.1 h]; exact ⟨h6, rfl, h12, h13⟩
      · (refine EvP.shift ?_; simp only [trustquorummake_group.l1, hj, h10, ew, Option.bind_some, ↓reduceIte, Bool.false_eq_true, reduceCtorEq, decide_eq_true_eq, Go.Proofs.YtkjlcbfjllpcnaaW.PrintWords.rd, rd_T32, rd_T34])
        clear ew
        refine ih (g + 1, s1, ts) ⟨h1, by show g + 1 ≤ 3; omega, by show ts.length ≤ g + 1; omega, fun _ => ?_, h5⟩ (by show 3 - (g + 1) < 3 - g; omega)
        show 1 ≤ ts.length
        by_cases hg : 1 ≤ g
        · exact h4 hg
        · exfalso; omega
  · (refine EvP.shift ?_; simp only [trustquorummake_group.l0, h0, Option.bind_some, ↓reduceIte, Bool.false_eq_true, reduceCtorEq, decide_eq_true_eq, Go.Proofs.YtkjlcbfjllpcnaaW.PrintWords.rd, rd_T32, rd_T34])
    refine EvP.bind (tN hs h1 (by omega) (by omega)) ?_
    rintro ⟨v, s'⟩ ⟨⟨h6, h7⟩, h8⟩
    simp only at h6 h7 h8 ⊢
    have h9 : 1 ≤ ts.length := h4 (by omega)
    split
    · have h10 : ¬ (ts.length : Int) = 0 := by omega
      have h11 : 0 ≤ Int.tmod (i : Int) (ts.length : Int) := Int.tmod_nonneg _ (by omega)
      have h12 : Int.tmod (i : Int) (ts.length : Int) < (ts.length : Int) := Int.tmod_lt_of_pos _ (by omega)
      simp only [h10, if_false, h11, if_true, h12]
      have hf := flat_ok hn (h5 _ (getD_mem' (l := ts) z32 (show (Int.tmod (i : Int) (ts.length : Int)).toNat < ts.length by omega)))
      generalize ts.getD (Int.tmod (i : Int) (ts.length : Int)).toNat z32 = t at hf ⊢
      cases t
      exact EvP.now ⟨hf, h8⟩
    · have ew : wrap64 ((ts.length : Int) - 1) = (ts.length : Int) - 1 := w64 (by omega) (by omega)
      rw [ew]
      clear ew
      have hm : 1 ≤ mx 1 ((ts.length : Int) - 1) ∧ mx 1 ((ts.length : Int) - 1) ≤ (ts.length : Int) := by unfold mx; split <;> omega
      refine EvP.bind (tRange hs h8 (by omega) (by omega) (by omega)) ?_
      rintro ⟨v, s'⟩ ⟨⟨h12, h13⟩, h14⟩
      simp only at h12 h13 h14 ⊢
      exact EvP.now ⟨group_ok hn (show 1 ≤ v by omega) h13 (show ts.length ≤ 3 by omega) h5, h14⟩
def OkM (n : Nat) (m : S34) : Prop := if m.f0 = true then Okt n m.f1 else m.f1 = ⟨0, [], []⟩
def OkC (c : List S34) : Prop := 1 ≤ c.length ∧ c.length ≤ 10 ∧ ∀ m ∈ c, OkM c.length m
theorem Config_ev {s : List Int} (hs : s.length < 4611686018427387904) {a : Int} (ha : 1 ≤ a) (ha2 : a ≤ 10) {s1 : Int} (h1 : 0 ≤ s1) :
    EvP (fun k => trustquorummake_Config.f k s s1 a) (fun r => (OkC r.1 ∧ (r.1.length : Int) ≤ a) ∧ 0 ≤ r.2) := by
  simp only [trustquorummake_Config.f]
  refine EvP.bind (tRange hs h1 (by omega) ha (by omega)) ?_
  rintro ⟨N, s2⟩ ⟨⟨h2, h3⟩, h4⟩
  simp only at h2 h3 h4 ⊢
  refine EvP.bind (tN hs h4 (by omega) (by omega)) ?_
  rintro ⟨g, s3⟩ ⟨⟨h5, h6⟩, h7⟩
  simp only at h5 h6 h7 ⊢
  obtain ⟨n, rfl⟩ := Int.eq_ofNat_of_zero_le (show 0 ≤ N by omega)
  have hn : n ≤ 10 := by omega
  have hn1 : 1 ≤ n := by omega
  clear h1 h4
  refine EvP.loop (L := fun (c : Nat × Int × List S34) k => trustquorummake_Config.l0 k (n : Int) g (c.1 : Int) s c.2.1 c.2.2) (fun c => 0 ≤ c.2.1 ∧ c.1 ≤ n ∧ c.2.2.length = c.1 ∧ ∀ m ∈ c.2.2, OkM n m) (fun c => n - c.1) ?_ (0, s3, []) ⟨h7, by simp, by simp, by simp⟩
  rintro ⟨i, s1, c⟩ ⟨h1, h8, h9, h10⟩ ih
  simp only at h1 h8 h9 h10 ih ⊢
  by_cases h0 : (i : Int) < (n : Int)
  · have h11 : c.length < 2199023255552 := by omega
    have nxt : ∀ (m : S34) (s' : Int), 0 ≤ s' → OkM n m → EvP (fun k => trustquorummake_Config.l0 k (n : Int) g ((i + 1 : Nat) : Int) s s' (c ++ [m])) (fun r => (OkC r.1 ∧ (r.1.length : Int) ≤ a) ∧ 0 ≤ r.2) := by
      intro m s' hs' hm
      refine ih (i + 1, s', c ++ [m]) ⟨hs', by show i + 1 ≤ n; omega, by simp; omega, ?_⟩ (by show n - (i + 1) < n - i; omega)
      intro x hx
      rcases List.mem_append.1 hx with h | h
      · exact h10 x h
      · rw [List.mem_singleton.1 h]; exact hm
    have e1 : wrap64 ((i : Int) + 1) = ((i + 1 : Nat) : Int) := w64 (by omega) (by omega)
    by_cases c1 : g = 0
    · (refine EvP.shift ?_; simp only [trustquorummake_Config.l0, h0, e1, h11, c1, Option.bind_some, ↓reduceIte, Bool.false_eq_true, reduceCtorEq, decide_eq_true_eq, Go.Proofs.YtkjlcbfjllpcnaaW.PrintWords.rd, rd_T32, rd_T34])
      rw [c1] at nxt
      clear e1
      refine EvP.bind (Trust_ev hs hn hn1 h1) ?_
      rintro ⟨v, l, ts, s'⟩ ⟨h12, h13⟩
      simp only at h12 h13 ⊢
      refine EvP.bind (tN hs h13 (by omega) (by omega)) ?_
      rintro ⟨v2, s2⟩ ⟨_, h14⟩
      simp only at h14 ⊢
      split
      · exact nxt ⟨false, ⟨0, [], []⟩⟩ s2 h14 rfl
      · exact nxt ⟨true, ⟨v, l, ts⟩⟩ s2 h14 h12
    by_cases c2 : g = 1
    · have c3 : ¬ (1 : Int) = 0 := by decide
      (refine EvP.shift ?_; simp only [trustquorummake_Config.l0, h0, e1, h11, c2, c3, Option.bind_some, ↓reduceIte, Bool.false_eq_true, reduceCtorEq, decide_eq_true_eq, Go.Proofs.YtkjlcbfjllpcnaaW.PrintWords.rd, rd_T32, rd_T34])
      rw [c2] at nxt
      clear e1
      refine EvP.bind (most_ev hs hn hn1 h1) ?_
      rintro ⟨v, l, ts, s'⟩ ⟨h12, h13⟩
      simp only at h12 h13 ⊢
      refine EvP.bind (tN hs h13 (by omega) (by omega)) ?_
      rintro ⟨v2, s2⟩ ⟨_, h14⟩
      simp only at h14 ⊢
      split
      · exact nxt ⟨false, ⟨0, [], []⟩⟩ s2 h14 rfl
      · exact nxt ⟨true, ⟨v, l, ts⟩⟩ s2 h14 h12
    · (refine EvP.shift ?_; simp only [trustquorummake_Config.l0, h0, e1, h11, c1, c2, Option.bind_some, ↓reduceIte, Bool.false_eq_true, reduceCtorEq, decide_eq_true_eq, Go.Proofs.YtkjlcbfjllpcnaaW.PrintWords.rd, rd_T32, rd_T34])
      clear e1
      refine EvP.bind (group_ev hs hn hn1 h1 i (by omega)) ?_
      rintro ⟨v, l, ts, s'⟩ ⟨h12, h13⟩
      simp only at h12 h13 ⊢
      refine EvP.bind (tN hs h13 (by omega) (by omega)) ?_
      rintro ⟨v2, s2⟩ ⟨_, h14⟩
      simp only at h14 ⊢
      split
      · exact nxt ⟨false, ⟨0, [], []⟩⟩ s2 h14 rfl
      · exact nxt ⟨true, ⟨v, l, ts⟩⟩ s2 h14 h12
  · (refine EvP.shift ?_; simp only [trustquorummake_Config.l0, h0, Option.bind_some, ↓reduceIte, Bool.false_eq_true, reduceCtorEq, decide_eq_true_eq, Go.Proofs.YtkjlcbfjllpcnaaW.PrintWords.rd, rd_T32, rd_T34])
    have e : c.length = n := by omega
    refine EvP.now ⟨⟨⟨?_, ?_, ?_⟩, ?_⟩, h1⟩
    · show 1 ≤ c.length; omega
    · show c.length ≤ 10; omega
    · show ∀ m ∈ c, OkM c.length m
      rw [e]; exact h10
    · show (c.length : Int) ≤ a; omega
theorem New_ev (l0 : List Int) (h : l0.length < 4611686018427387904) : ∃ s, s.length < 4611686018427387904 ∧ trustquorummake_New.f l0 = some (s, 0) := by
  unfold trustquorummake_New.f
  have h1 : 0 ≤ mn (l0.length : Int) 400 := by unfold mn; split <;> omega
  have h2 : mn (l0.length : Int) 400 ≤ (l0.length : Int) := by unfold mn; split <;> omega
  rw [if_pos h1, if_pos h2]
  refine ⟨_, ?_, rfl⟩
  rw [List.length_take]
  omega
theorem inS_mono {s t : Nat} (h : Sub s t) {x : Int} (hx : inS s x = true) : inS t x = true := by
  simp only [inS, Bool.and_eq_true] at hx ⊢
  exact ⟨hx.1, h _ hx.2⟩
def declF (i a : Nat) : List S34 → Nat
  | [] => a
  | m :: ms => declF (i + 1) (if m.f0 = true ∧ i < 10 then a ||| 2 ^ i else a) ms
def decl (c : List S34) : Nat := declF 0 0 c
theorem declF_bit : ∀ (ms : List S34) (i a j : Nat), (declF i a ms).testBit j = (a.testBit j || (decide (i ≤ j) && decide (j < 10) && (ms.getD (j - i) z34).f0)) := by
  intro ms
  induction ms with
  | nil => intro i a j; simp [declF, z34]
  | cons m ms ih =>
    intro i a j
    rw [declF, ih]
    by_cases h : j = i
    · subst h
      have e : decide (j + 1 ≤ j) = false := by simp
      have e2 : decide (j ≤ j) = true := by simp
      rw [e, e2, Nat.sub_self]
      by_cases h2 : j < 10 <;> cases hm : m.f0 <;> simp [h2, hm]
    · have e : (if m.f0 = true ∧ i < 10 then a ||| 2 ^ i else a).testBit j = a.testBit j := by
        split
        · rw [or_bit, two_bit]; simp; intro h2; omega
        · rfl
      rw [e]
      by_cases h2 : i ≤ j
      · obtain ⟨d, rfl⟩ : ∃ d, j = i + 1 + d := ⟨j - (i + 1), by omega⟩
        have h3 : i + 1 + d - i = d + 1 := by omega
        have h4 : i + 1 + d - (i + 1) = d := by omega
        rw [h3, h4, List.getD_cons_succ]
        simp [h2]
      · have h3 : ¬ i + 1 ≤ j := by omega
        simp [h2, h3]
theorem decl_bit (c : List S34) (j : Nat) : (decl c).testBit j = (decide (j < 10) && (c.getD j z34).f0) := by
  rw [decl, declF_bit]; simp
theorem decl_lt (c : List S34) : decl c < 1024 := lt_of_bits (n := 10) fun i hi => by rw [decl_bit]; simp; omega
theorem decl_len {c : List S34} {j : Nat} (h : (decl c).testBit j = true) : j < c.length := by
  rw [decl_bit] at h
  by_cases hj : j < c.length
  · exact hj
  · rw [List.getD_eq_getElem?_getD, List.getElem?_eq_none (by omega)] at h
    simp [z34] at h
def nodesL (s : Nat) : List Int := ((List.range 10).filter fun i => s.testBit i).map Int.ofNat
theorem nodesL_mem {s : Nat} {x : Int} : x ∈ nodesL s ↔ inS s x = true := by
  simp only [nodesL, List.mem_map, List.mem_filter, List.mem_range, inS, Bool.and_eq_true, decide_eq_true_eq]
  constructor
  · rintro ⟨i, ⟨h1, h2⟩, rfl⟩
    exact ⟨⟨by simp, by simp; omega⟩, by simpa using h2⟩
  · rintro ⟨⟨h1, h2⟩, h3⟩
    exact ⟨x.toNat, ⟨by omega, h3⟩, by simp; omega⟩
theorem nodesL_len (s : Nat) : (nodesL s).length ≤ 10 := by
  rw [nodesL, List.length_map]
  have := List.length_filter_le (fun i => s.testBit i) (List.range 10)
  simpa using this
def Light (c : List S34) : Prop := c.length < 1000000 ∧ ∀ m ∈ c, wt m.f1 < 1000000
theorem OkC.light {c : List S34} (h : OkC c) : Light c := by
  refine ⟨by have := h.2.1; omega, fun m hm => ?_⟩
  have := h.2.2 m hm
  unfold OkM at this
  split at this
  · have := this.2.1; omega
  · rw [this]; decide
theorem Light.at {c : List S34} (h : Light c) (j : Nat) : wt (c.getD j z34).f1 < 1000000 := by
  by_cases hj : j < c.length
  · exact h.2 _ (getD_mem' z34 hj)
  · rw [List.getD_eq_getElem?_getD, List.getElem?_eq_none (by omega)]; decide
def blk (c : List S34) (s : Nat) (j : Int) : Bool := inS (decl c) j && !(sat (dif 1023 s ||| 2 ^ j.toNat) (c.getD j.toNat z34).f1)
theorem inS_iff {s : Nat} {x : Int} : inS s x = true ↔ ∃ i : Nat, x = (i : Int) ∧ i < 10 ∧ s.testBit i = true := by
  simp only [inS, Bool.and_eq_true, decide_eq_true_eq]
  constructor
  · rintro ⟨⟨h1, h2⟩, h3⟩
    exact ⟨x.toNat, by omega, by omega, h3⟩
  · rintro ⟨i, rfl, h1, h2⟩
    exact ⟨⟨by omega, by omega⟩, by simpa using h2⟩
theorem and_nat' {a b : Nat} (ha : a < 1024) (hb : b < 1024) : Go.bits .and .i64 (a : Int) (b : Int) = ((a &&& b : Nat) : Int) := and_nat (by omega) (by omega)
theorem or_nat' {a b : Nat} (ha : a < 1024) (hb : b < 1024) : Go.bits .or .i64 (a : Int) (b : Int) = ((a ||| b : Nat) : Int) := or_nat (by omega) (by omega)
theorem shl_nat' {k : Nat} (h : k < 10) : shl .i64 1 (k : Int) = ((2 ^ k : Nat) : Int) := shl_nat (by omega)
theorem Declared_ev {c : List S34} (hc : c.length < 1000000) : Ev (fun k => configuration_Declared.f k c) (decl c : Int) := by
  simp only [configuration_Declared.f]
  refine Ev.fold (xs := c) (L := fun (a : Nat) i k => configuration_Declared.l0 k (a : Int) c (c.length : Int) i) (by omega) (fun pre ys a => declF pre.length a ys = decl c ∧ a < 1024) ?_ ?_ 0 ⟨rfl, by decide⟩
  · rintro a i ⟨hI, ha⟩ hi
    rw [declF] at hI
    (refine Ev.shift ?_; simp only [configuration_Declared.l0, hi, Option.bind_some, ↓reduceIte, Bool.false_eq_true, reduceCtorEq, decide_eq_true_eq, Go.Proofs.YtkjlcbfjllpcnaaW.PrintWords.rd, rd_T32, rd_T34])
    rw [hI]
    exact Ev.now _
  · rintro pre y ys a i e ⟨hI, ha⟩ hi h0 hlt hw hrd
    subst hi
    rw [declF] at hI
    by_cases h10 : pre.length < 10
    · have h10' : (pre.length : Int) < 10 := by omega
      have h2 := two_lt10 h10
      cases hy : y.f0
      · refine Or.inl ⟨a, ⟨by simpa [hy] using hI, ha⟩, fun k => ?_⟩
        (refine Ev.shift ?_; simp only [configuration_Declared.l0, h0, hlt, hw, hrd, hy, h10', Option.bind_some, ↓reduceIte, Bool.false_eq_true, reduceCtorEq, decide_eq_true_eq, Go.Proofs.YtkjlcbfjllpcnaaW.PrintWords.rd, rd_T32, rd_T34])
        exact k
      · refine Or.inl ⟨a ||| 2 ^ pre.length, ⟨by simpa [hy, h10] using hI, or_lt10 ha h2⟩, fun k => ?_⟩
        (refine Ev.shift ?_; simp only [configuration_Declared.l0, h0, hlt, hw, hrd, hy, h10', Option.bind_some, ↓reduceIte, Bool.false_eq_true, reduceCtorEq, decide_eq_true_eq, Go.Proofs.YtkjlcbfjllpcnaaW.PrintWords.rd, rd_T32, rd_T34])
        rw [shl_nat' h10, or_nat' ha h2]
        exact k
    · have h10' : ¬ (pre.length : Int) < 10 := by omega
      refine Or.inl ⟨a, ⟨by simpa [h10] using hI, ha⟩, fun k => ?_⟩
      cases hy : y.f0
      · (refine Ev.shift ?_; simp only [configuration_Declared.l0, h0, hlt, hw, hrd, hy, h10', Option.bind_some, ↓reduceIte, Bool.false_eq_true, reduceCtorEq, decide_eq_true_eq, Go.Proofs.YtkjlcbfjllpcnaaW.PrintWords.rd, rd_T32, rd_T34])
        exact k
      · (refine Ev.shift ?_; simp only [configuration_Declared.l0, h0, hlt, hw, hrd, hy, h10', Option.bind_some, ↓reduceIte, Bool.false_eq_true, reduceCtorEq, decide_eq_true_eq, Go.Proofs.YtkjlcbfjllpcnaaW.PrintWords.rd, rd_T32, rd_T34])
        exact k
theorem Nodes_ev {s : Nat} (hs : s < 1024) : Ev (fun k => nodeset_Nodes.f k (s : Int)) (nodesL s) := by
  simp only [nodeset_Nodes.f]
  refine Ev.count (L := fun (l : List Int) i k => nodeset_Nodes.l0 k (s : Int) l i) 10 (by decide) (fun i l => l = ((List.range i).filter fun i => s.testBit i).map Int.ofNat) ?_ ?_ [] rfl
  · rintro l rfl
    have h : ¬ ((10 : Nat) : Int) < 10 := by decide
    (refine Ev.shift ?_; simp only [nodeset_Nodes.l0, h, Option.bind_some, ↓reduceIte, Bool.false_eq_true, reduceCtorEq, decide_eq_true_eq, Go.Proofs.YtkjlcbfjllpcnaaW.PrintWords.rd, rd_T32, rd_T34])
    exact Ev.now _
  · rintro i l hi hl hw
    have h : (i : Int) < 10 := by omega
    have hlen : l.length < 17592186044416 := by
      rw [hl, List.length_map]
      have := List.length_filter_le (fun i => s.testBit i) (List.range i)
      simp at this ⊢; omega
    cases hb : s.testBit i
    · refine Or.inl ⟨l, ?_, fun k => ?_⟩
      · rw [hl, List.range_succ, List.filter_append]; simp [hb]
      · (refine Ev.shift ?_; simp only [nodeset_Nodes.l0, h, Has_eq hs, inS_nat s i (by omega), hb, hw, Option.bind_some, ↓reduceIte, Bool.false_eq_true, reduceCtorEq, decide_eq_true_eq, Go.Proofs.YtkjlcbfjllpcnaaW.PrintWords.rd, rd_T32, rd_T34])
        exact k
    · refine Or.inl ⟨l ++ [(i : Int)], ?_, fun k => ?_⟩
      · rw [hl, List.range_succ, List.filter_append]; simp [hb]
      · (refine Ev.shift ?_; simp only [nodeset_Nodes.l0, h, Has_eq hs, inS_nat s i (by omega), hb, hw, hlen, Option.bind_some, ↓reduceIte, Bool.false_eq_true, reduceCtorEq, decide_eq_true_eq, Go.Proofs.YtkjlcbfjllpcnaaW.PrintWords.rd, rd_T32, rd_T34])
        exact k
def nxt (c : List S34) (s : Nat) : Option Int := (nodesL (dif (decl c) s)).find? fun j => blk c s j
theorem Sub.or {a b c : Nat} (h : Sub a c) (k : Sub b c) : Sub (a ||| b) c := fun i hi => by
  rw [or_bit, Bool.or_eq_true] at hi
  exact hi.elim (h i) (k i)
theorem Sub.orl (a b : Nat) : Sub a (a ||| b) := fun i hi => by rw [or_bit, hi]; rfl
theorem Sub.orr (a b : Nat) : Sub b (a ||| b) := fun i hi => by rw [or_bit, hi]; simp
theorem Sub.two {i s : Nat} (h : s.testBit i = true) : Sub (2 ^ i) s := fun j hj => by
  rw [two_bit, decide_eq_true_eq] at hj; subst hj; exact h
theorem pcn_lt {s i : Nat} (hi : i < 10) (h : s.testBit i = false) : pcn s < pcn (s ||| 2 ^ i) := by
  unfold pcn
  have key : ∀ n, (List.range n).countP (fun k => s.testBit k) + (if i < n then 1 else 0) ≤ (List.range n).countP fun k => (s ||| 2 ^ i).testBit k := by
    intro n
    induction n with
    | zero => simp
    | succ n ih =>
      rw [List.range_succ, List.countP_append, List.countP_append, List.countP_singleton, List.countP_singleton, or_bit, two_bit]
      generalize (List.range n).countP (fun k => (s ||| 2 ^ i).testBit k) = B at ih ⊢
      generalize (List.range n).countP (fun k => s.testBit k) = A at ih ⊢
      by_cases e : i = n
      · subst e
        rw [h, if_neg (Nat.lt_irrefl i)] at *
        simp
        omega
      · by_cases hin : i < n
        · rw [if_pos hin] at ih
          rw [if_pos (show i < n + 1 by omega)]
          cases hb : s.testBit n <;> simp [e] <;> omega
        · rw [if_neg hin] at ih
          rw [if_neg (show ¬ i < n + 1 by omega)]
          cases hb : s.testBit n <;> simp [e] <;> omega
  have := key 10
  rw [if_pos hi] at this
  omega
theorem pcn_le (s : Nat) : pcn s ≤ 10 := by
  have : (List.range 10).countP (fun k => s.testBit k) ≤ (List.range 10).length := List.countP_le_length
  simpa [pcn] using this
def quo (c : List S34) (x : Nat) : Bool := decide (x ≠ 0) && decide (x &&& decl c = x) && (nodesL x).all fun j => sat x (c.getD j.toNat z34).f1
theorem quo_iff {c : List S34} {x : Nat} (hx : x < 1024) : quo c x = true ↔ x ≠ 0 ∧ Sub x (decl c) ∧ ∀ i, x.testBit i = true → sat x (c.getD i z34).f1 = true := by
  unfold quo
  rw [Bool.and_eq_true, Bool.and_eq_true, decide_eq_true_eq, decide_eq_true_eq, List.all_eq_true, sub_and]
  constructor
  · rintro ⟨⟨h1, h2⟩, h3⟩
    refine ⟨h1, h2, fun i hi => ?_⟩
    have h10 : i < 10 := by
      rcases Nat.lt_or_ge i 10 with h | h
      · exact h
      · rw [bit_lt (n := 10) hx h] at hi; cases hi
    have := h3 (i : Int) (nodesL_mem.2 (inS_iff.2 ⟨i, rfl, h10, hi⟩))
    rwa [Int.toNat_natCast] at this
  · rintro ⟨h1, h2, h3⟩
    refine ⟨⟨h1, h2⟩, fun j hj => ?_⟩
    obtain ⟨i, rfl, h10, hi⟩ := inS_iff.1 (nodesL_mem.1 hj)
    rw [Int.toNat_natCast]
    exact h3 i hi
end Go.Proofs.Ytkjlcbfjllpcnaa.X
namespace Go.Proofs.Ytkjlcbfjllpcnaa.X
open Go.RowKit Go.Proofs.YtkjlcbfjllpcnaaW.PrintWords Go.Proofs.YtkjlcbfjllpcnaaW.PrintLast Go.Proofs.YtkjlcbfjllpcnaaW.PrintMore
attribute [local go_sem] max2_int min2_int max_two min_two max_three min_three max_four min_four
set_option linter.unusedVariables false
set_option linter.unusedSimpArgs false
end Go.Proofs.Ytkjlcbfjllpcnaa.X
