/- Proof of the statement BlockingMeets: part 5 of 7, what it computes and why that answers true. -/
import Derived.Test.YtkjlcbfjllpcnaaKBM4
import Derived.Sort.OwnSortedInts
import Derived.Laws.CopyOwn
set_option linter.unusedVariables false
set_option linter.unusedSimpArgs false
namespace Go.Proofs.Ytkjlcbfjllpcnaa.X
open Go.RowKit Go.Proofs.YtkjlcbfjllpcnaaW.PrintWords Go.Proofs.YtkjlcbfjllpcnaaW.PrintLast Go.Proofs.YtkjlcbfjllpcnaaW.PrintMore
attribute [local go_sem] max2_int min2_int max_two min_two max_three min_three max_four min_four
set_option linter.unusedVariables false
set_option linter.unusedSimpArgs false
def configuration_member.f (k:Nat) (a0_0:Bool) (a0_1:Int) (l0_2:List Int) (l0_3:List (S32)) (a1:Int):Option (Int):=if a0_0=true then ((threshold_Valid.f k a0_1 l0_2 l0_3).bind fun t279=>(if t279=0 then ((threshold_Uses.f k a0_1 l0_2 l0_3).bind fun t280=>(if 0≤a1 then (if t280 ≥ (shl .i64 1 a1) then (some 5) else (some 0)) else (none))) else (some t279))) else ((configuration_blank.f a0_1 l0_2 l0_3).bind fun t278=>(if t278=true then (some 0) else (some 1)))
set_option maxHeartbeats 8000000 in
set_option maxRecDepth 100000 in
theorem configuration_member.calls (k:Nat) (a0_0:Bool) (a0_1:Int) (A0_2:Option Addr) (c0_2:Nat) (l0_2:List Int) (A0_3:Option Addr) (c0_3:Nat) (l0_3:List (S32)) (a1:Int) (r:Int) (w:World) (hr0_2:Kd.C (Kd.int .i64) w A0_2 l0_2.length l0_2) (hc0_2:l0_2.length≤c0_2) (hr0_3:Kd.C k32 w A0_3 l0_3.length l0_3) (hc0_3:l0_3.length≤c0_3) (h:configuration_member.f k a0_0 a0_1 l0_2 l0_3 a1=some r) :
  Calls Try.prog 92 #[.agg #[.bool a0_0,.int .i64 a0_1,.slice A0_2 l0_2.length c0_2,.slice A0_3 l0_3.length c0_3],.int .i64 a1] w fun e w'=>e=.returned (.int .i64 r)∧Below w.heap.size w w':=by
 have hu34:=Try.underlying34
 have hu32:=Try.underlying32
 have HR0_2:=Z hr0_2
 have HC0_2:=Z hc0_2
 clear hr0_2 hc0_2
 have HR0_3:=Z hr0_3
 have HC0_3:=Z hc0_3
 clear hr0_3 hc0_3
 have HB:=Z (Below.refl w.heap.size w)
 have H:(if a0_0=true then ((threshold_Valid.f k a0_1 l0_2 l0_3).bind fun t279=>(if t279=0 then ((threshold_Uses.f k a0_1 l0_2 l0_3).bind fun t280=>(if 0≤a1 then (if t280 ≥ (shl .i64 1 a1) then (some 5) else (some 0)) else (none))) else (some t279))) else ((configuration_blank.f a0_1 l0_2 l0_3).bind fun t278=>(if t278=true then (some 0) else (some 1))))=some r:=h
 clear h
 by_cases c3:a0_0=true
 ·subst c3
  rw [if_pos rfl] at H
  replace H:=Option.bind_eq_some_iff.mp H
  obtain ⟨t279,A40,H⟩:=H
  try dsimp only at H
  have A4:=Z A40
  clear A40
  by_cases c5:t279=0
  ·rw [if_pos c5] at H
   have c5b0:(t279 == 0)=true:=beq_iff_eq.mpr c5
   have c5b1:(t279 != 0)=false:=bne_eq_false_iff_eq.mpr c5
   clear c5
   replace H:=Option.bind_eq_some_iff.mp H
   obtain ⟨t280,A60,H⟩:=H
   try dsimp only at H
   have A6:=Z A60
   clear A60
   by_cases c7:0≤a1
   ·rw [if_pos c7] at H
    have c7b0:=eq_true c7
    have c7b1:decide (0≤a1)=true:=decide_eq_true c7
    clear c7
    obtain ⟨ji8,hji8⟩:∃ j_:Int,(shl .i64 1 a1)=j_:=⟨_,rfl⟩
    replace H:(if t280 ≥ (ji8) then (some 5) else (some 0))=some r:=by first|(rw [hji8] at H;exact H)|(simp only [hji8] at H ⊢;exact H)
    (try rw [hji8] at A4)
    (try rw [hji8] at A6)
    have hji8_:(IntKind.i64.wrap (1 * 2 ^ min a1.toNat 64))=ji8:=hji8
    have hji8z:a1≤64→(IntKind.i64.wrap (1 * 2 ^ a1.toNat))=ji8:=shl_small hji8
    have hji8u:(IntKind.i64.wrap (2 ^ min a1.toNat 64))=ji8:=by have h_:=hji8_;rw [Int.one_mul] at h_;exact h_
    have hji8v:a1≤64→(IntKind.i64.wrap (2 ^ a1.toNat))=ji8:=fun hle_=>by have h_:=hji8z hle_;rw [Int.one_mul] at h_;exact h_
    have hji8y:(wrap64 (1 * 2 ^ min a1.toNat 64))=ji8:=(i64_w _).symm.trans hji8_
    have hji8x:a1≤64→(wrap64 (1 * 2 ^ a1.toNat))=ji8:=fun h_=>(i64_w _).symm.trans (hji8z h_)
    by_cases c9:t280 ≥ (ji8)
    ·rw [if_pos c9] at H
     have c9b0:decide ((ji8)≤t280)=true:=decide_eq_true c9
     clear c9
     obtain rfl:=Option.some.inj H
     go_enter Try.func92,Try.ntmps92
     try go_wp2_with (first|((with_reducible refine gate_dst (N:=2) rfl ?_);refine box_event ?hg (N:=2) ?hd (cs:=#[.bool true,.int .i64 a0_1,.slice A0_2 l0_2.length c0_2,.slice A0_3 l0_3.length c0_3]) (t:=34) ?hr ?_;(case hd=>rfl);(case hg=>rfl);(case hr=>first|(go_simp;done)|(go_simp;rfl));intro gb277 hg w10 hbox hb;have n0_:=Z (below_step pB hb);have n1_:=Z (hbox);have n2_:=Z ((pT hg:w.heap.size≤gb277));have n3_:=Z ((pT hg:w.heap.size≤gb277));clear HB;have HB:=n0_;have BK277:=n1_;have GW277:=n2_;have GE277:=n3_;clear n0_ n1_ n2_ n3_;clear hb hbox hg;have hcz11_0:w10.cell? ⟨gb277,0,none⟩=some (.bool true):=(kC BK277.out 0).trans rfl;have hcz11_1:w10.cell? ⟨gb277,1,none⟩=some (.int .i64 a0_1):=(kC BK277.out 1).trans rfl;have hcz11_2:w10.cell? ⟨gb277,2,none⟩=some (.slice A0_2 l0_2.length c0_2):=(kC BK277.out 2).trans rfl;have hcz11_3:w10.cell? ⟨gb277,3,none⟩=some (.slice A0_3 l0_3.length c0_3):=(kC BK277.out 3).trans rfl;have hfz11_0:=kF BK277.out 0;have hfz11_1:=kF BK277.out 1;have hfz11_2:=kF BK277.out 2;have hfz11_3:=kF BK277.out 3)|((with_reducible refine gate_callee (f:=111) rfl ?_);refine goesL_ (some 15) rfl rfl Try.func111 (by kernel_rfl) rfl #[.agg #[.int .i64 a0_1,.slice A0_2 l0_2.length c0_2,.slice A0_3 l0_3.length c0_3]] rfl pG ?_;(with_reducible refine (threshold_Valid.calls k a0_1 _ _ l0_2 _ _ l0_3 t279 _ ?side1 ?side2 ?side3 ?side4 A4.out).mono ?_);(case side1=>repeat (first|exact (Kd.C_below HR0_2.out HB.out)|(with_reducible refine Kd.C_alloc ?_ _)|(with_reducible refine Kd.C_drewN ?_ _)|(with_reducible refine Kd.C_drew ?_)));(case side2=>exact HC0_2.out);(case side3=>repeat (first|exact (Kd.C_below HR0_3.out HB.out)|(with_reducible refine Kd.C_alloc ?_ _)|(with_reducible refine Kd.C_drewN ?_ _)|(with_reducible refine Kd.C_drew ?_)));(case side4=>exact HC0_3.out);rintro e w12 ⟨rfl,hb⟩;refine ⟨_,rfl,?_⟩;have n0_:=Z (blk_below (g:=gb277) (o:=.cells #[.bool true,.int .i64 a0_1,.slice A0_2 l0_2.length c0_2,.slice A0_3 l0_3.length c0_3] 34 (0,0)) (pK BK277) hb);have n1_:=Z (below_step pB hb);clear BK277;clear HB;have BK277:=n0_;have HB:=n1_;clear n0_ n1_;(try clear hb);(try clear hb2);(try clear hk);(try clear hi)))
     have n0_:=Z (kD BK277.out)
     have n1_:=Z (wD HB.out)
     clear BK277
     clear HB
     have BK277:=n0_
     have HB:=n1_
     clear n0_ n1_
     refine start_ (n:=6) (S:=fun w'=>w'.cell? ⟨gb277,0,none⟩=some (.bool true)∧w'.cell? ⟨gb277,1,none⟩=some (.int .i64 a0_1)∧w'.cell? ⟨gb277,2,none⟩=some (.slice A0_2 l0_2.length c0_2)∧w'.cell? ⟨gb277,3,none⟩=some (.slice A0_3 l0_3.length c0_3)) (ds:=[]) #[false,false,false,false,false,false] (by kernel_rfl) rfl rfl ⟨(kC BK277.out 0).trans rfl,(kC BK277.out 1).trans rfl,(kC BK277.out 2).trans rfl,(kC BK277.out 3).trans rfl⟩ (fun hHeld=>?_)
     generalize w12.drew=w13 at BK277 HB hHeld ⊢
     refine pure_ (i:=0) (N:=some 19) (v:=?_) (a':=?_) #[true,false,false,false,false,false] rfl rfl (by kernel_rfl) (fun _ _ _ h=>h) (Or.inl ⟨by rfl,?_⟩) ?_ ?_
     rotate_left
     ·intro w'
      go_simp
      with_reducible rfl
     rotate_left
     ·simp only [Act.put,List.setIfInBounds_toArray,List.set_cons_zero,List.set_cons_succ,i64_w,i32_w]
      rfl
     refine pure_ (i:=3) (N:=some 22) (v:=?_) (a':=?_) #[true,false,false,true,false,false] rfl rfl (by kernel_rfl) (fun _ _ _ h=>h) (Or.inl ⟨by rfl,?_⟩) ?_ ?_
     rotate_left
     ·intro w'
      go_simp
      with_reducible rfl
     rotate_left
     ·simp only [Act.put,List.setIfInBounds_toArray,List.set_cons_zero,List.set_cons_succ,i64_w,i32_w]
      rfl
     refine pure_ (i:=4) (N:=some 23) (v:=?_) (a':=?_) #[true,false,false,true,true,false] rfl rfl (by kernel_rfl) (fun _ _ _ h=>h) (Or.inl ⟨by rfl,?_⟩) ?_ ?_
     rotate_left
     ·intro w'
      go_simp
      with_reducible rfl
     rotate_left
     ·simp only [Act.put,List.setIfInBounds_toArray,List.set_cons_zero,List.set_cons_succ,i64_w,i32_w]
      rfl
     refine take_ (i:=1) (N:=some 20) (v:=?_) (a':=?_) #[true,true,false,true,true,false] rfl rfl (by kernel_rfl) (fun _ _ _ h=>h) (Or.inl ⟨by rfl,?_⟩) hHeld ?_ ?_
     rotate_left
     ·rintro w' ⟨s0,s1,s2,s3⟩
      go_simp
      with_reducible rfl
     rotate_left
     ·simp only [Act.put,List.setIfInBounds_toArray,List.set_cons_zero,List.set_cons_succ,i64_w,i32_w]
      rfl
     refine one_ (i:=2) (N:=some 21) #[true,true,true,true,true,false] rfl rfl (by kernel_rfl) (by decide) (fun K hK=>?_)
     refine goes_ Try.func65 (by kernel_rfl) rfl #[.agg #[.int .i64 a0_1,.slice A0_2 l0_2.length c0_2,.slice A0_3 l0_3.length c0_3]] (by rfl) rfl rfl pG ?_
     with_reducible refine (threshold_Uses.calls k a0_1 _ _ l0_2 _ _ l0_3 t280 _ ?side1 ?side2 ?side3 ?side4 A6.out).mono ?_
     (case side1=>repeat (first|exact (Kd.C_below HR0_2.out HB.out)|(with_reducible refine Kd.C_alloc ?_ _)|(with_reducible refine Kd.C_drewN ?_ _)|(with_reducible refine Kd.C_drew ?_)))
     (case side2=>exact HC0_2.out)
     (case side3=>repeat (first|exact (Kd.C_below HR0_3.out HB.out)|(with_reducible refine Kd.C_alloc ?_ _)|(with_reducible refine Kd.C_drewN ?_ _)|(with_reducible refine Kd.C_drew ?_)))
     (case side4=>exact HC0_3.out)
     rintro e w14 ⟨rfl,hb⟩
     refine ⟨_,rfl,?_⟩
     have n0_:=Z (blk_below (g:=gb277) (o:=.cells #[.bool true,.int .i64 a0_1,.slice A0_2 l0_2.length c0_2,.slice A0_3 l0_3.length c0_3] 34 (0,0)) (pK BK277) hb)
     have n1_:=Z (below_step pB hb)
     clear BK277
     clear HB
     have BK277:=n0_
     have HB:=n1_
     clear n0_ n1_
     (try clear hb)
     (try clear hb2)
     (try clear hk)
     (try clear hi)
     refine hK.out _ _ ⟨(kC BK277.out 0).trans rfl,(kC BK277.out 1).trans rfl,(kC BK277.out 2).trans rfl,(kC BK277.out 3).trans rfl⟩ (fun hHeld=>?_)
     clear hK K
     refine norm_ (a':=?_) ?_ ?_
     rotate_left
     ·show Act.put _ (some 21) _=_
      simp only [Act.put,List.setIfInBounds_toArray,List.set_cons_zero,List.set_cons_succ,i64_w,i32_w]
      rfl
     refine pure_ (i:=5) (N:=some 24) (v:=?_) (a':=?_) #[true,true,true,true,true,true] rfl rfl (by kernel_rfl) (fun _ _ _ h=>h) (Or.inl ⟨by rfl,?_⟩) ?_ ?_
     rotate_left
     ·intro w'
      go_simp
      with_reducible rfl
     rotate_left
     ·simp only [Act.put,List.setIfInBounds_toArray,List.set_cons_zero,List.set_cons_succ,i64_w,i32_w]
      rfl
     refine done_ (by kernel_rfl) ?_
     try go_wp2
     go_ret
     exact ⟨by first|rfl|(simp [errW_none,errW_some] <;> rfl)|(simp only [← hji8];first|rfl|(simp [errW_none,errW_some] <;> rfl))|(simp [*,errW_none,errW_some] <;> rfl),pB⟩
    ·rw [if_neg c9] at H
     have c9b0:decide ((ji8)≤t280)=false:=decide_eq_false c9
     clear c9
     obtain rfl:=Option.some.inj H
     go_enter Try.func92,Try.ntmps92
     try go_wp2_with (first|((with_reducible refine gate_dst (N:=2) rfl ?_);refine box_event ?hg (N:=2) ?hd (cs:=#[.bool true,.int .i64 a0_1,.slice A0_2 l0_2.length c0_2,.slice A0_3 l0_3.length c0_3]) (t:=34) ?hr ?_;(case hd=>rfl);(case hg=>rfl);(case hr=>first|(go_simp;done)|(go_simp;rfl));intro gb277 hg w15 hbox hb;have n0_:=Z (below_step pB hb);have n1_:=Z (hbox);have n2_:=Z ((pT hg:w.heap.size≤gb277));have n3_:=Z ((pT hg:w.heap.size≤gb277));clear HB;have HB:=n0_;have BK277:=n1_;have GW277:=n2_;have GE277:=n3_;clear n0_ n1_ n2_ n3_;clear hb hbox hg;have hcz16_0:w15.cell? ⟨gb277,0,none⟩=some (.bool true):=(kC BK277.out 0).trans rfl;have hcz16_1:w15.cell? ⟨gb277,1,none⟩=some (.int .i64 a0_1):=(kC BK277.out 1).trans rfl;have hcz16_2:w15.cell? ⟨gb277,2,none⟩=some (.slice A0_2 l0_2.length c0_2):=(kC BK277.out 2).trans rfl;have hcz16_3:w15.cell? ⟨gb277,3,none⟩=some (.slice A0_3 l0_3.length c0_3):=(kC BK277.out 3).trans rfl;have hfz16_0:=kF BK277.out 0;have hfz16_1:=kF BK277.out 1;have hfz16_2:=kF BK277.out 2;have hfz16_3:=kF BK277.out 3)|((with_reducible refine gate_callee (f:=111) rfl ?_);refine goesL_ (some 15) rfl rfl Try.func111 (by kernel_rfl) rfl #[.agg #[.int .i64 a0_1,.slice A0_2 l0_2.length c0_2,.slice A0_3 l0_3.length c0_3]] rfl pG ?_;(with_reducible refine (threshold_Valid.calls k a0_1 _ _ l0_2 _ _ l0_3 t279 _ ?side1 ?side2 ?side3 ?side4 A4.out).mono ?_);(case side1=>repeat (first|exact (Kd.C_below HR0_2.out HB.out)|(with_reducible refine Kd.C_alloc ?_ _)|(with_reducible refine Kd.C_drewN ?_ _)|(with_reducible refine Kd.C_drew ?_)));(case side2=>exact HC0_2.out);(case side3=>repeat (first|exact (Kd.C_below HR0_3.out HB.out)|(with_reducible refine Kd.C_alloc ?_ _)|(with_reducible refine Kd.C_drewN ?_ _)|(with_reducible refine Kd.C_drew ?_)));(case side4=>exact HC0_3.out);rintro e w17 ⟨rfl,hb⟩;refine ⟨_,rfl,?_⟩;have n0_:=Z (blk_below (g:=gb277) (o:=.cells #[.bool true,.int .i64 a0_1,.slice A0_2 l0_2.length c0_2,.slice A0_3 l0_3.length c0_3] 34 (0,0)) (pK BK277) hb);have n1_:=Z (below_step pB hb);clear BK277;clear HB;have BK277:=n0_;have HB:=n1_;clear n0_ n1_;(try clear hb);(try clear hb2);(try clear hk);(try clear hi)))
     have n0_:=Z (kD BK277.out)
     have n1_:=Z (wD HB.out)
     clear BK277
     clear HB
     have BK277:=n0_
     have HB:=n1_
     clear n0_ n1_
     refine start_ (n:=6) (S:=fun w'=>w'.cell? ⟨gb277,0,none⟩=some (.bool true)∧w'.cell? ⟨gb277,1,none⟩=some (.int .i64 a0_1)∧w'.cell? ⟨gb277,2,none⟩=some (.slice A0_2 l0_2.length c0_2)∧w'.cell? ⟨gb277,3,none⟩=some (.slice A0_3 l0_3.length c0_3)) (ds:=[]) #[false,false,false,false,false,false] (by kernel_rfl) rfl rfl ⟨(kC BK277.out 0).trans rfl,(kC BK277.out 1).trans rfl,(kC BK277.out 2).trans rfl,(kC BK277.out 3).trans rfl⟩ (fun hHeld=>?_)
     generalize w17.drew=w18 at BK277 HB hHeld ⊢
     refine pure_ (i:=0) (N:=some 19) (v:=?_) (a':=?_) #[true,false,false,false,false,false] rfl rfl (by kernel_rfl) (fun _ _ _ h=>h) (Or.inl ⟨by rfl,?_⟩) ?_ ?_
     rotate_left
     ·intro w'
      go_simp
      with_reducible rfl
     rotate_left
     ·simp only [Act.put,List.setIfInBounds_toArray,List.set_cons_zero,List.set_cons_succ,i64_w,i32_w]
      rfl
     refine pure_ (i:=3) (N:=some 22) (v:=?_) (a':=?_) #[true,false,false,true,false,false] rfl rfl (by kernel_rfl) (fun _ _ _ h=>h) (Or.inl ⟨by rfl,?_⟩) ?_ ?_
     rotate_left
     ·intro w'
      go_simp
      with_reducible rfl
     rotate_left
     ·simp only [Act.put,List.setIfInBounds_toArray,List.set_cons_zero,List.set_cons_succ,i64_w,i32_w]
      rfl
     refine pure_ (i:=4) (N:=some 23) (v:=?_) (a':=?_) #[true,false,false,true,true,false] rfl rfl (by kernel_rfl) (fun _ _ _ h=>h) (Or.inl ⟨by rfl,?_⟩) ?_ ?_
     rotate_left
     ·intro w'
      go_simp
      with_reducible rfl
     rotate_left
     ·simp only [Act.put,List.setIfInBounds_toArray,List.set_cons_zero,List.set_cons_succ,i64_w,i32_w]
      rfl
     refine take_ (i:=1) (N:=some 20) (v:=?_) (a':=?_) #[true,true,false,true,true,false] rfl rfl (by kernel_rfl) (fun _ _ _ h=>h) (Or.inl ⟨by rfl,?_⟩) hHeld ?_ ?_
     rotate_left
     ·rintro w' ⟨s0,s1,s2,s3⟩
      go_simp
      with_reducible rfl
     rotate_left
     ·simp only [Act.put,List.setIfInBounds_toArray,List.set_cons_zero,List.set_cons_succ,i64_w,i32_w]
      rfl
     refine one_ (i:=2) (N:=some 21) #[true,true,true,true,true,false] rfl rfl (by kernel_rfl) (by decide) (fun K hK=>?_)
     refine goes_ Try.func65 (by kernel_rfl) rfl #[.agg #[.int .i64 a0_1,.slice A0_2 l0_2.length c0_2,.slice A0_3 l0_3.length c0_3]] (by rfl) rfl rfl pG ?_
     with_reducible refine (threshold_Uses.calls k a0_1 _ _ l0_2 _ _ l0_3 t280 _ ?side1 ?side2 ?side3 ?side4 A6.out).mono ?_
     (case side1=>repeat (first|exact (Kd.C_below HR0_2.out HB.out)|(with_reducible refine Kd.C_alloc ?_ _)|(with_reducible refine Kd.C_drewN ?_ _)|(with_reducible refine Kd.C_drew ?_)))
     (case side2=>exact HC0_2.out)
     (case side3=>repeat (first|exact (Kd.C_below HR0_3.out HB.out)|(with_reducible refine Kd.C_alloc ?_ _)|(with_reducible refine Kd.C_drewN ?_ _)|(with_reducible refine Kd.C_drew ?_)))
     (case side4=>exact HC0_3.out)
     rintro e w19 ⟨rfl,hb⟩
     refine ⟨_,rfl,?_⟩
     have n0_:=Z (blk_below (g:=gb277) (o:=.cells #[.bool true,.int .i64 a0_1,.slice A0_2 l0_2.length c0_2,.slice A0_3 l0_3.length c0_3] 34 (0,0)) (pK BK277) hb)
     have n1_:=Z (below_step pB hb)
     clear BK277
     clear HB
     have BK277:=n0_
     have HB:=n1_
     clear n0_ n1_
     (try clear hb)
     (try clear hb2)
     (try clear hk)
     (try clear hi)
     refine hK.out _ _ ⟨(kC BK277.out 0).trans rfl,(kC BK277.out 1).trans rfl,(kC BK277.out 2).trans rfl,(kC BK277.out 3).trans rfl⟩ (fun hHeld=>?_)
     clear hK K
     refine norm_ (a':=?_) ?_ ?_
     rotate_left
     ·show Act.put _ (some 21) _=_
      simp only [Act.put,List.setIfInBounds_toArray,List.set_cons_zero,List.set_cons_succ,i64_w,i32_w]
      rfl
     refine pure_ (i:=5) (N:=some 24) (v:=?_) (a':=?_) #[true,true,true,true,true,true] rfl rfl (by kernel_rfl) (fun _ _ _ h=>h) (Or.inl ⟨by rfl,?_⟩) ?_ ?_
     rotate_left
     ·intro w'
      go_simp
      with_reducible rfl
     rotate_left
     ·simp only [Act.put,List.setIfInBounds_toArray,List.set_cons_zero,List.set_cons_succ,i64_w,i32_w]
      rfl
     refine done_ (by kernel_rfl) ?_
     try go_wp2
     go_ret
     exact ⟨by first|rfl|(simp [errW_none,errW_some] <;> rfl)|(simp only [← hji8];first|rfl|(simp [errW_none,errW_some] <;> rfl))|(simp [*,errW_none,errW_some] <;> rfl),pB⟩
   ·rw [if_neg c7] at H
    exact absurd H (by simp)
  ·rw [if_neg c5] at H
   have c5b0:(t279 == 0)=false:=beq_eq_false_iff_ne.mpr c5
   have c5b1:(t279 != 0)=true:=bne_iff_ne.mpr c5
   obtain rfl:=Option.some.inj H
   go_enter Try.func92,Try.ntmps92
   go_wp2_with (first|((with_reducible refine gate_dst (N:=2) rfl ?_);refine box_event ?hg (N:=2) ?hd (cs:=#[.bool true,.int .i64 a0_1,.slice A0_2 l0_2.length c0_2,.slice A0_3 l0_3.length c0_3]) (t:=34) ?hr ?_;(case hd=>rfl);(case hg=>rfl);(case hr=>first|(go_simp;done)|(go_simp;rfl));intro gb277 hg w20 hbox hb;have n0_:=Z (below_step pB hb);have n1_:=Z (hbox);have n2_:=Z ((pT hg:w.heap.size≤gb277));have n3_:=Z ((pT hg:w.heap.size≤gb277));clear HB;have HB:=n0_;have BK277:=n1_;have GW277:=n2_;have GE277:=n3_;clear n0_ n1_ n2_ n3_;clear hb hbox hg;have hcz21_0:w20.cell? ⟨gb277,0,none⟩=some (.bool true):=(kC BK277.out 0).trans rfl;have hcz21_1:w20.cell? ⟨gb277,1,none⟩=some (.int .i64 a0_1):=(kC BK277.out 1).trans rfl;have hcz21_2:w20.cell? ⟨gb277,2,none⟩=some (.slice A0_2 l0_2.length c0_2):=(kC BK277.out 2).trans rfl;have hcz21_3:w20.cell? ⟨gb277,3,none⟩=some (.slice A0_3 l0_3.length c0_3):=(kC BK277.out 3).trans rfl;have hfz21_0:=kF BK277.out 0;have hfz21_1:=kF BK277.out 1;have hfz21_2:=kF BK277.out 2;have hfz21_3:=kF BK277.out 3)|((with_reducible refine gate_callee (f:=111) rfl ?_);refine goesL_ (some 15) rfl rfl Try.func111 (by kernel_rfl) rfl #[.agg #[.int .i64 a0_1,.slice A0_2 l0_2.length c0_2,.slice A0_3 l0_3.length c0_3]] rfl pG ?_;(with_reducible refine (threshold_Valid.calls k a0_1 _ _ l0_2 _ _ l0_3 t279 _ ?side1 ?side2 ?side3 ?side4 A4.out).mono ?_);(case side1=>repeat (first|exact (Kd.C_below HR0_2.out HB.out)|(with_reducible refine Kd.C_alloc ?_ _)|(with_reducible refine Kd.C_drewN ?_ _)|(with_reducible refine Kd.C_drew ?_)));(case side2=>exact HC0_2.out);(case side3=>repeat (first|exact (Kd.C_below HR0_3.out HB.out)|(with_reducible refine Kd.C_alloc ?_ _)|(with_reducible refine Kd.C_drewN ?_ _)|(with_reducible refine Kd.C_drew ?_)));(case side4=>exact HC0_3.out);rintro e w22 ⟨rfl,hb⟩;refine ⟨_,rfl,?_⟩;have n0_:=Z (blk_below (g:=gb277) (o:=.cells #[.bool true,.int .i64 a0_1,.slice A0_2 l0_2.length c0_2,.slice A0_3 l0_3.length c0_3] 34 (0,0)) (pK BK277) hb);have n1_:=Z (below_step pB hb);clear BK277;clear HB;have BK277:=n0_;have HB:=n1_;clear n0_ n1_;(try clear hb);(try clear hb2);(try clear hk);(try clear hi)))
   go_ret
   exact ⟨pF,pB⟩
 ·replace c3:=Bool.eq_false_iff.mpr c3
  subst c3
  rw [if_neg (show ¬ (false=true) by decide)] at H
  replace H:=Option.bind_eq_some_iff.mp H
  obtain ⟨t278,A230,H⟩:=H
  try dsimp only at H
  have A23:=Z A230
  clear A230
  by_cases c24:t278=true
  ·subst c24
   rw [if_pos rfl] at H
   obtain rfl:=Option.some.inj H
   go_enter Try.func92,Try.ntmps92
   go_wp2_with (first|((with_reducible refine gate_dst (N:=2) rfl ?_);refine box_event ?hg (N:=2) ?hd (cs:=#[.bool false,.int .i64 a0_1,.slice A0_2 l0_2.length c0_2,.slice A0_3 l0_3.length c0_3]) (t:=34) ?hr ?_;(case hd=>rfl);(case hg=>rfl);(case hr=>first|(go_simp;done)|(go_simp;rfl));intro gb277 hg w25 hbox hb;have n0_:=Z (below_step pB hb);have n1_:=Z (hbox);have n2_:=Z ((pT hg:w.heap.size≤gb277));have n3_:=Z ((pT hg:w.heap.size≤gb277));clear HB;have HB:=n0_;have BK277:=n1_;have GW277:=n2_;have GE277:=n3_;clear n0_ n1_ n2_ n3_;clear hb hbox hg;have hcz26_0:w25.cell? ⟨gb277,0,none⟩=some (.bool false):=(kC BK277.out 0).trans rfl;have hcz26_1:w25.cell? ⟨gb277,1,none⟩=some (.int .i64 a0_1):=(kC BK277.out 1).trans rfl;have hcz26_2:w25.cell? ⟨gb277,2,none⟩=some (.slice A0_2 l0_2.length c0_2):=(kC BK277.out 2).trans rfl;have hcz26_3:w25.cell? ⟨gb277,3,none⟩=some (.slice A0_3 l0_3.length c0_3):=(kC BK277.out 3).trans rfl;have hfz26_0:=kF BK277.out 0;have hfz26_1:=kF BK277.out 1;have hfz26_2:=kF BK277.out 2;have hfz26_3:=kF BK277.out 3)|((with_reducible refine gate_callee (f:=110) rfl ?_);refine goesL_ (some 11) rfl rfl Try.func110 (by kernel_rfl) rfl #[.agg #[.int .i64 a0_1,.slice A0_2 l0_2.length c0_2,.slice A0_3 l0_3.length c0_3]] rfl pG ?_;(with_reducible refine (configuration_blank.calls a0_1 _ _ l0_2 _ _ l0_3 true _ ?side1 ?side2 ?side3 ?side4 A23.out).mono ?_);(case side1=>repeat (first|exact (Kd.C_below HR0_2.out HB.out)|(with_reducible refine Kd.C_alloc ?_ _)|(with_reducible refine Kd.C_drewN ?_ _)|(with_reducible refine Kd.C_drew ?_)));(case side2=>exact HC0_2.out);(case side3=>repeat (first|exact (Kd.C_below HR0_3.out HB.out)|(with_reducible refine Kd.C_alloc ?_ _)|(with_reducible refine Kd.C_drewN ?_ _)|(with_reducible refine Kd.C_drew ?_)));(case side4=>exact HC0_3.out);rintro e w27 ⟨rfl,hb⟩;refine ⟨_,rfl,?_⟩;have n0_:=Z (blk_below (g:=gb277) (o:=.cells #[.bool false,.int .i64 a0_1,.slice A0_2 l0_2.length c0_2,.slice A0_3 l0_3.length c0_3] 34 (0,0)) (pK BK277) hb);have n1_:=Z (below_step pB hb);clear BK277;clear HB;have BK277:=n0_;have HB:=n1_;clear n0_ n1_;(try clear hb);(try clear hb2);(try clear hk);(try clear hi)))
   go_ret
   exact ⟨pF,pB⟩
  ·replace c24:=Bool.eq_false_iff.mpr c24
   subst c24
   rw [if_neg (show ¬ (false=true) by decide)] at H
   obtain rfl:=Option.some.inj H
   go_enter Try.func92,Try.ntmps92
   go_wp2_with (first|((with_reducible refine gate_dst (N:=2) rfl ?_);refine box_event ?hg (N:=2) ?hd (cs:=#[.bool false,.int .i64 a0_1,.slice A0_2 l0_2.length c0_2,.slice A0_3 l0_3.length c0_3]) (t:=34) ?hr ?_;(case hd=>rfl);(case hg=>rfl);(case hr=>first|(go_simp;done)|(go_simp;rfl));intro gb277 hg w28 hbox hb;have n0_:=Z (below_step pB hb);have n1_:=Z (hbox);have n2_:=Z ((pT hg:w.heap.size≤gb277));have n3_:=Z ((pT hg:w.heap.size≤gb277));clear HB;have HB:=n0_;have BK277:=n1_;have GW277:=n2_;have GE277:=n3_;clear n0_ n1_ n2_ n3_;clear hb hbox hg;have hcz29_0:w28.cell? ⟨gb277,0,none⟩=some (.bool false):=(kC BK277.out 0).trans rfl;have hcz29_1:w28.cell? ⟨gb277,1,none⟩=some (.int .i64 a0_1):=(kC BK277.out 1).trans rfl;have hcz29_2:w28.cell? ⟨gb277,2,none⟩=some (.slice A0_2 l0_2.length c0_2):=(kC BK277.out 2).trans rfl;have hcz29_3:w28.cell? ⟨gb277,3,none⟩=some (.slice A0_3 l0_3.length c0_3):=(kC BK277.out 3).trans rfl;have hfz29_0:=kF BK277.out 0;have hfz29_1:=kF BK277.out 1;have hfz29_2:=kF BK277.out 2;have hfz29_3:=kF BK277.out 3)|((with_reducible refine gate_callee (f:=110) rfl ?_);refine goesL_ (some 11) rfl rfl Try.func110 (by kernel_rfl) rfl #[.agg #[.int .i64 a0_1,.slice A0_2 l0_2.length c0_2,.slice A0_3 l0_3.length c0_3]] rfl pG ?_;(with_reducible refine (configuration_blank.calls a0_1 _ _ l0_2 _ _ l0_3 false _ ?side1 ?side2 ?side3 ?side4 A23.out).mono ?_);(case side1=>repeat (first|exact (Kd.C_below HR0_2.out HB.out)|(with_reducible refine Kd.C_alloc ?_ _)|(with_reducible refine Kd.C_drewN ?_ _)|(with_reducible refine Kd.C_drew ?_)));(case side2=>exact HC0_2.out);(case side3=>repeat (first|exact (Kd.C_below HR0_3.out HB.out)|(with_reducible refine Kd.C_alloc ?_ _)|(with_reducible refine Kd.C_drewN ?_ _)|(with_reducible refine Kd.C_drew ?_)));(case side4=>exact HC0_3.out);rintro e w30 ⟨rfl,hb⟩;refine ⟨_,rfl,?_⟩;have n0_:=Z (blk_below (g:=gb277) (o:=.cells #[.bool false,.int .i64 a0_1,.slice A0_2 l0_2.length c0_2,.slice A0_3 l0_3.length c0_3] 34 (0,0)) (pK BK277) hb);have n1_:=Z (below_step pB hb);clear BK277;clear HB;have BK277:=n0_;have HB:=n1_;clear n0_ n1_;(try clear hb);(try clear hb2);(try clear hk);(try clear hi)))
   go_ret
   exact ⟨pF,pB⟩
def configuration_Valid.l0:Nat→List (S34)→Int→Int→List (S34)→Option (Int)
 | 0,_,_,_,_=>none
 | k+1,x11,x12,x13,x282000=>if x13 < x12 then (if 0≤x13 then (if x13 < (x11.length:Int) then ((configuration_member.f k ((rd_T34 x11 x13).f0) ((rd_T34 x11 x13).f1.f0) ((rd_T34 x11 x13).f1.f1) ((rd_T34 x11 x13).f1.f2) (x282000.length:Int)).bind fun t284=>(if t284=0 then (configuration_Valid.l0 k x11 x12 (wrap64 (x13+1)) x282000) else (some t284))) else (none)) else (none)) else (some 0)
def configuration_Valid.f (k:Nat) (l0_0:List (S34)):Option (Int):=if (l0_0.length:Int) > 10 then (some 3) else (configuration_Valid.l0 k l0_0 (l0_0.length:Int) 0 l0_0)
set_option maxHeartbeats 8000000 in
set_option maxRecDepth 100000 in
theorem configuration_Valid.calls (k:Nat) (A0_0:Option Addr) (c0_0:Nat) (l0_0:List (S34)) (r:Int) (w:World) (hr0_0:Kd.C k34 w A0_0 l0_0.length l0_0) (hc0_0:l0_0.length≤c0_0) (h:configuration_Valid.f k l0_0=some r) :
  Calls Try.prog 63 #[.agg #[.slice A0_0 l0_0.length c0_0]] w fun e w'=>e=.returned (.int .i64 r)∧Below w.heap.size w w':=by
 have hu27:=Try.underlying27
 have hu34:=Try.underlying34
 have HR0_0:=Z hr0_0
 have HC0_0:=Z hc0_0
 clear hr0_0 hc0_0
 have HB:=Z (Below.refl w.heap.size w)
 have H:(if (l0_0.length:Int) > 10 then (some 3) else (configuration_Valid.l0 k l0_0 (l0_0.length:Int) 0 l0_0))=some r:=h
 clear h
 by_cases c2:(l0_0.length:Int) > 10
 ·rw [if_pos c2] at H
  have c2b0:decide (10 < (l0_0.length:Int))=true:=decide_eq_true c2
  have c2b1:decide (10 < l0_0.length)=true:=decide_eq_true (by omega)
  clear c2
  obtain rfl:=Option.some.inj H
  go_enter Try.func63,Try.ntmps63
  go_wp2_with (first|((with_reducible refine gate_dst (N:=1) rfl ?_);refine box_event ?hg (N:=1) ?hd (cs:=#[.slice A0_0 l0_0.length c0_0]) (t:=27) ?hr ?_;(case hd=>rfl);(case hg=>rfl);(case hr=>first|(go_simp;done)|(go_simp;rfl));intro gb281 hg w3 hbox hb;have n0_:=Z (below_step pB hb);have n1_:=Z (hbox);have n2_:=Z ((pT hg:w.heap.size≤gb281));have n3_:=Z ((pT hg:w.heap.size≤gb281));clear HB;have HB:=n0_;have BK281:=n1_;have GW281:=n2_;have GE281:=n3_;clear n0_ n1_ n2_ n3_;clear hb hbox hg;have hcz4_0:w3.cell? ⟨gb281,0,none⟩=some (.slice A0_0 l0_0.length c0_0):=(kC BK281.out 0).trans rfl;have hfz4_0:=kF BK281.out 0))
  go_ret
  exact ⟨pF,pB⟩
 ·rw [if_neg c2] at H
  have c2b0:decide (10 < (l0_0.length:Int))=false:=decide_eq_false c2
  have c2b1:decide (10 < l0_0.length)=false:=decide_eq_false (by omega)
  clear c2
  have H':=Z H
  clear H
  go_enter Try.func63,Try.ntmps63
  go_wp2_with (first|((with_reducible refine gate_dst (N:=1) rfl ?_);refine box_event ?hg (N:=1) ?hd (cs:=#[.slice A0_0 l0_0.length c0_0]) (t:=27) ?hr ?_;(case hd=>rfl);(case hg=>rfl);(case hr=>first|(go_simp;done)|(go_simp;rfl));intro gb281 hg w5 hbox hb;have n0_:=Z (below_step pB hb);have n1_:=Z (hbox);have n2_:=Z ((pT hg:w.heap.size≤gb281));have n3_:=Z ((pT hg:w.heap.size≤gb281));clear HB;have HB:=n0_;have BK281:=n1_;have GW281:=n2_;have GE281:=n3_;clear n0_ n1_ n2_ n3_;clear hb hbox hg;have hcz6_0:w5.cell? ⟨gb281,0,none⟩=some (.slice A0_0 l0_0.length c0_0):=(kC BK281.out 0).trans rfl;have hfz6_0:=kF BK281.out 0))
  go_loopg [13] k (fun kq v13 w'=>∃ (x13_1:Int),v13=.int .i64 x13_1∧Aside0 (configuration_Valid.l0 kq l0_0 (l0_0.length:Int) x13_1 l0_0=some r)∧Aside0 (kq≤k)∧Aside0 (w'.heap[gb281]?=some (.cells #[(.slice A0_0 l0_0.length c0_0)] 27 (0,0)))∧Aside0 (Below w.heap.size w w'))
  case atStart=>exact ⟨(0),pE,H',⟨Nat.le_refl _⟩,⟨pK BK281⟩,⟨pB⟩⟩
  case round =>
   clear H'
   try clear c2
   try clear c2b0
   try clear c2b1
   try clear p2
   try clear c6
   try clear hcz4_0
   try clear hcz6_0
   try clear hfz4_0
   try clear hfz6_0
   obtain ⟨x13_1,rfl,HA,HK1,BK281,HB⟩:=hrel
   cases gk with
   | zero=>exact absurd HA.out (by simp [configuration_Valid.l0])
   | succ k1 =>
    have H:=HA.out
    clear HA
    simp only [configuration_Valid.l0] at H
    by_cases c7:x13_1 < (l0_0.length:Int)
    ·rw [if_pos c7] at H
     have c7b0:decide (x13_1 < (l0_0.length:Int))=true:=decide_eq_true c7
     clear c7
     by_cases c8:0≤x13_1
     ·rw [if_pos c8] at H
      have c8b0:decide (0≤x13_1)=true:=decide_eq_true c8
      clear c8
      by_cases c9:x13_1 < (l0_0.length:Int)
      ·rw [if_pos c9] at H
       have c9b0:decide (x13_1 < (l0_0.length:Int))=true:=decide_eq_true c9
       clear c9
       replace H:=Option.bind_eq_some_iff.mp H
       obtain ⟨t284,A100,H⟩:=H
       try dsimp only at H
       have A10:=Z A100
       clear A100
       by_cases c11:t284=0
       ·rw [if_pos c11] at H
        have c11b0:(t284 == 0)=true:=beq_iff_eq.mpr c11
        have c11b1:(t284 != 0)=false:=bne_eq_false_iff_eq.mpr c11
        clear c11
        have H':=Z H
        clear H
        have p282:0≤(x13_1:Int):=of_decide_eq_true (by first|(with_reducible assumption)|assumption)
        have q282:x13_1 < (l0_0.length:Int):=of_decide_eq_true (by first|(with_reducible assumption)|assumption)
        obtain ⟨ad282,A282_2,c282_2,A282_3,c282_3,e282,hx282_0,hx282_1,hx282_2,hx282_3,hl282_2,hi282_2,hl282_3,hi282_3⟩:=at_T34 HR0_0.out x13_1 p282 q282
        cases e282
        replace hx282_0:=(HB.out.cell (World.block_lt_of_cell? w _ hx282_0)).trans hx282_0
        replace hx282_1:=(HB.out.cell (World.block_lt_of_cell? w _ hx282_1)).trans hx282_1
        replace hx282_2:=(HB.out.cell (World.block_lt_of_cell? w _ hx282_2)).trans hx282_2
        replace hx282_3:=(HB.out.cell (World.block_lt_of_cell? w _ hx282_3)).trans hx282_3
        have HR282_2:=Z hi282_2
        have HC282_2:=Z hl282_2
        clear hi282_2 hl282_2
        have HR282_3:=Z hi282_3
        have HC282_3:=Z hl282_3
        clear hi282_3 hl282_3
        replace p282:=eq_true p282
        replace q282:=eq_true q282
        go_wp2_with (first|((with_reducible refine gate_dst (N:=4) rfl ?_);refine box_event ?hg (N:=4) ?hd (cs:=#[.bool false,.int .i64 0,.slice none 0 0,.slice none 0 0]) (t:=34) ?hr ?_;(case hd=>rfl);(case hg=>rfl);(case hr=>first|(go_simp;done)|(go_simp;rfl));intro gb283 hg w12 hbox hb;have n0_:=Z (blk_below (g:=gb281) (o:=.cells #[.slice (some ad282) l0_0.length c0_0] 27 (0,0)) (pK BK281) hb);have n1_:=Z (below_step pB hb);have n2_:=Z (hbox);have n3_:=Z ((pT hg:w.heap.size≤gb283));have n4_:=Z ((pT hg:w.heap.size≤gb283));have n5_:=Z ((pL hg (pK BK281):gb281 ≠ gb283));have n6_:=Z ((pM hg (pK BK281):gb283 ≠ gb281));clear BK281;clear HB;have BK281:=n0_;have HB:=n1_;have BK283:=n2_;have GW283:=n3_;have GE283:=n4_;have NB281_283:=n5_;have NB283_281:=n6_;clear n0_ n1_ n2_ n3_ n4_ n5_ n6_;clear hb hbox hg;have hnb13:=NB283_281.out;have hnc13:=NB281_283.out;have hcz14_0:w12.cell? ⟨gb283,0,none⟩=some (.bool false):=(kC BK283.out 0).trans rfl;have hcz14_1:w12.cell? ⟨gb283,1,none⟩=some (.int .i64 0):=(kC BK283.out 1).trans rfl;have hcz14_2:w12.cell? ⟨gb283,2,none⟩=some (.slice none 0 0):=(kC BK283.out 2).trans rfl;have hcz14_3:w12.cell? ⟨gb283,3,none⟩=some (.slice none 0 0):=(kC BK283.out 3).trans rfl;have hfz14_0:=kF BK283.out 0;have hfz14_1:=kF BK283.out 1;have hfz14_2:=kF BK283.out 2;have hfz14_3:=kF BK283.out 3;have hcz15_0:w12.cell? ⟨gb281,0,none⟩=some (.slice (some ad282) l0_0.length c0_0):=(kC BK281.out 0).trans rfl;have hfz15_0:=kF BK281.out 0)|((with_reducible refine gate_callee (f:=92) rfl ?_);refine goesL_ (some 21) rfl rfl Try.func92 (by kernel_rfl) rfl #[.agg #[.bool ((rd_T34 l0_0 x13_1).f0),.int .i64 ((rd_T34 l0_0 x13_1).f1.f0),.slice A282_2 ((rd_T34 l0_0 x13_1).f1.f1).length c282_2,.slice A282_3 ((rd_T34 l0_0 x13_1).f1.f2).length c282_3],.int .i64 (l0_0.length:Int)] rfl pG ?_;(with_reducible refine (configuration_member.calls k1 ((rd_T34 l0_0 x13_1).f0) ((rd_T34 l0_0 x13_1).f1.f0) _ _ ((rd_T34 l0_0 x13_1).f1.f1) _ _ ((rd_T34 l0_0 x13_1).f1.f2) (l0_0.length:Int) t284 _ ?side1 ?side2 ?side3 ?side4 A10.out).mono ?_);(case side1=>exact Kd.C_below HR282_2.out pB);(case side2=>exact HC282_2.out);(case side3=>exact Kd.C_below HR282_3.out pB);(case side4=>exact HC282_3.out);rintro e w16 ⟨rfl,hb⟩;refine ⟨_,rfl,?_⟩;have n0_:=Z (blk_below (g:=gb281) (o:=.cells #[.slice (some ad282) l0_0.length c0_0] 27 (0,0)) (by (with_reducible repeat (first|refine kN ?_ _|refine kD ?_|refine kA ?_ _));refine blk_far ?_ NB281_283.out _;(with_reducible repeat (first|refine kN ?_ _|refine kD ?_|refine kA ?_ _));refine blk_far ?_ NB281_283.out _;(with_reducible repeat (first|refine kN ?_ _|refine kD ?_|refine kA ?_ _));refine blk_far ?_ NB281_283.out _;(with_reducible repeat (first|refine kN ?_ _|refine kD ?_|refine kA ?_ _));refine blk_far ?_ NB281_283.out _;(with_reducible repeat (first|refine kN ?_ _|refine kD ?_|refine kA ?_ _));exact BK281.out) hb);have n1_:=Z (blk_below (g:=gb283) (o:=.cells #[.bool ((rd_T34 l0_0 x13_1).f0),.int .i64 ((rd_T34 l0_0 x13_1).f1.f0),.slice A282_2 ((rd_T34 l0_0 x13_1).f1.f1).length c282_2,.slice A282_3 ((rd_T34 l0_0 x13_1).f1.f2).length c282_3] 34 (0,0)) (by (with_reducible repeat (first|refine kN ?_ _|refine kD ?_|refine kA ?_ _));refine blk_put (cs:=#[.bool ((rd_T34 l0_0 x13_1).f0),.int .i64 ((rd_T34 l0_0 x13_1).f1.f0),.slice A282_2 ((rd_T34 l0_0 x13_1).f1.f1).length c282_2,.slice none 0 0]) ?_ 3 _ rfl;(with_reducible repeat (first|refine kN ?_ _|refine kD ?_|refine kA ?_ _));refine blk_put (cs:=#[.bool ((rd_T34 l0_0 x13_1).f0),.int .i64 ((rd_T34 l0_0 x13_1).f1.f0),.slice none 0 0,.slice none 0 0]) ?_ 2 _ rfl;(with_reducible repeat (first|refine kN ?_ _|refine kD ?_|refine kA ?_ _));refine blk_put (cs:=#[.bool ((rd_T34 l0_0 x13_1).f0),.int .i64 0,.slice none 0 0,.slice none 0 0]) ?_ 1 _ rfl;(with_reducible repeat (first|refine kN ?_ _|refine kD ?_|refine kA ?_ _));refine blk_put (cs:=#[.bool false,.int .i64 0,.slice none 0 0,.slice none 0 0]) ?_ 0 _ rfl;(with_reducible repeat (first|refine kN ?_ _|refine kD ?_|refine kA ?_ _));exact BK283.out) hb);have n2_:=Z (below_step pB hb);clear BK281;clear BK283;clear HB;have BK281:=n0_;have BK283:=n1_;have HB:=n2_;clear n0_ n1_ n2_;(try clear hb);(try clear hb2);(try clear hk);(try clear hi)))
        go_roundg k1
        case measure=>have:=HK1.out;omega
        case rel=>exact ⟨(wrap64 (x13_1+1)),pE,H',⟨by have:=HK1.out;omega⟩,⟨pK BK281⟩,⟨pB⟩⟩
       ·rw [if_neg c11] at H
        have c11b0:(t284 == 0)=false:=beq_eq_false_iff_ne.mpr c11
        have c11b1:(t284 != 0)=true:=bne_iff_ne.mpr c11
        obtain rfl:=Option.some.inj H
        have p282:0≤(x13_1:Int):=of_decide_eq_true (by first|(with_reducible assumption)|assumption)
        have q282:x13_1 < (l0_0.length:Int):=of_decide_eq_true (by first|(with_reducible assumption)|assumption)
        obtain ⟨ad282,A282_2,c282_2,A282_3,c282_3,e282,hx282_0,hx282_1,hx282_2,hx282_3,hl282_2,hi282_2,hl282_3,hi282_3⟩:=at_T34 HR0_0.out x13_1 p282 q282
        cases e282
        replace hx282_0:=(HB.out.cell (World.block_lt_of_cell? w _ hx282_0)).trans hx282_0
        replace hx282_1:=(HB.out.cell (World.block_lt_of_cell? w _ hx282_1)).trans hx282_1
        replace hx282_2:=(HB.out.cell (World.block_lt_of_cell? w _ hx282_2)).trans hx282_2
        replace hx282_3:=(HB.out.cell (World.block_lt_of_cell? w _ hx282_3)).trans hx282_3
        have HR282_2:=Z hi282_2
        have HC282_2:=Z hl282_2
        clear hi282_2 hl282_2
        have HR282_3:=Z hi282_3
        have HC282_3:=Z hl282_3
        clear hi282_3 hl282_3
        replace p282:=eq_true p282
        replace q282:=eq_true q282
        go_wp2_with (first|((with_reducible refine gate_dst (N:=4) rfl ?_);refine box_event ?hg (N:=4) ?hd (cs:=#[.bool false,.int .i64 0,.slice none 0 0,.slice none 0 0]) (t:=34) ?hr ?_;(case hd=>rfl);(case hg=>rfl);(case hr=>first|(go_simp;done)|(go_simp;rfl));intro gb283 hg w17 hbox hb;have n0_:=Z (blk_below (g:=gb281) (o:=.cells #[.slice (some ad282) l0_0.length c0_0] 27 (0,0)) (pK BK281) hb);have n1_:=Z (below_step pB hb);have n2_:=Z (hbox);have n3_:=Z ((pT hg:w.heap.size≤gb283));have n4_:=Z ((pT hg:w.heap.size≤gb283));have n5_:=Z ((pL hg (pK BK281):gb281 ≠ gb283));have n6_:=Z ((pM hg (pK BK281):gb283 ≠ gb281));clear BK281;clear HB;have BK281:=n0_;have HB:=n1_;have BK283:=n2_;have GW283:=n3_;have GE283:=n4_;have NB281_283:=n5_;have NB283_281:=n6_;clear n0_ n1_ n2_ n3_ n4_ n5_ n6_;clear hb hbox hg;have hnb18:=NB283_281.out;have hnc18:=NB281_283.out;have hcz19_0:w17.cell? ⟨gb283,0,none⟩=some (.bool false):=(kC BK283.out 0).trans rfl;have hcz19_1:w17.cell? ⟨gb283,1,none⟩=some (.int .i64 0):=(kC BK283.out 1).trans rfl;have hcz19_2:w17.cell? ⟨gb283,2,none⟩=some (.slice none 0 0):=(kC BK283.out 2).trans rfl;have hcz19_3:w17.cell? ⟨gb283,3,none⟩=some (.slice none 0 0):=(kC BK283.out 3).trans rfl;have hfz19_0:=kF BK283.out 0;have hfz19_1:=kF BK283.out 1;have hfz19_2:=kF BK283.out 2;have hfz19_3:=kF BK283.out 3;have hcz20_0:w17.cell? ⟨gb281,0,none⟩=some (.slice (some ad282) l0_0.length c0_0):=(kC BK281.out 0).trans rfl;have hfz20_0:=kF BK281.out 0)|((with_reducible refine gate_callee (f:=92) rfl ?_);refine goesL_ (some 21) rfl rfl Try.func92 (by kernel_rfl) rfl #[.agg #[.bool ((rd_T34 l0_0 x13_1).f0),.int .i64 ((rd_T34 l0_0 x13_1).f1.f0),.slice A282_2 ((rd_T34 l0_0 x13_1).f1.f1).length c282_2,.slice A282_3 ((rd_T34 l0_0 x13_1).f1.f2).length c282_3],.int .i64 (l0_0.length:Int)] rfl pG ?_;(with_reducible refine (configuration_member.calls k1 ((rd_T34 l0_0 x13_1).f0) ((rd_T34 l0_0 x13_1).f1.f0) _ _ ((rd_T34 l0_0 x13_1).f1.f1) _ _ ((rd_T34 l0_0 x13_1).f1.f2) (l0_0.length:Int) t284 _ ?side1 ?side2 ?side3 ?side4 A10.out).mono ?_);(case side1=>exact Kd.C_below HR282_2.out pB);(case side2=>exact HC282_2.out);(case side3=>exact Kd.C_below HR282_3.out pB);(case side4=>exact HC282_3.out);rintro e w21 ⟨rfl,hb⟩;refine ⟨_,rfl,?_⟩;have n0_:=Z (blk_below (g:=gb281) (o:=.cells #[.slice (some ad282) l0_0.length c0_0] 27 (0,0)) (by (with_reducible repeat (first|refine kN ?_ _|refine kD ?_|refine kA ?_ _));refine blk_far ?_ NB281_283.out _;(with_reducible repeat (first|refine kN ?_ _|refine kD ?_|refine kA ?_ _));refine blk_far ?_ NB281_283.out _;(with_reducible repeat (first|refine kN ?_ _|refine kD ?_|refine kA ?_ _));refine blk_far ?_ NB281_283.out _;(with_reducible repeat (first|refine kN ?_ _|refine kD ?_|refine kA ?_ _));refine blk_far ?_ NB281_283.out _;(with_reducible repeat (first|refine kN ?_ _|refine kD ?_|refine kA ?_ _));exact BK281.out) hb);have n1_:=Z (blk_below (g:=gb283) (o:=.cells #[.bool ((rd_T34 l0_0 x13_1).f0),.int .i64 ((rd_T34 l0_0 x13_1).f1.f0),.slice A282_2 ((rd_T34 l0_0 x13_1).f1.f1).length c282_2,.slice A282_3 ((rd_T34 l0_0 x13_1).f1.f2).length c282_3] 34 (0,0)) (by (with_reducible repeat (first|refine kN ?_ _|refine kD ?_|refine kA ?_ _));refine blk_put (cs:=#[.bool ((rd_T34 l0_0 x13_1).f0),.int .i64 ((rd_T34 l0_0 x13_1).f1.f0),.slice A282_2 ((rd_T34 l0_0 x13_1).f1.f1).length c282_2,.slice none 0 0]) ?_ 3 _ rfl;(with_reducible repeat (first|refine kN ?_ _|refine kD ?_|refine kA ?_ _));refine blk_put (cs:=#[.bool ((rd_T34 l0_0 x13_1).f0),.int .i64 ((rd_T34 l0_0 x13_1).f1.f0),.slice none 0 0,.slice none 0 0]) ?_ 2 _ rfl;(with_reducible repeat (first|refine kN ?_ _|refine kD ?_|refine kA ?_ _));refine blk_put (cs:=#[.bool ((rd_T34 l0_0 x13_1).f0),.int .i64 0,.slice none 0 0,.slice none 0 0]) ?_ 1 _ rfl;(with_reducible repeat (first|refine kN ?_ _|refine kD ?_|refine kA ?_ _));refine blk_put (cs:=#[.bool false,.int .i64 0,.slice none 0 0,.slice none 0 0]) ?_ 0 _ rfl;(with_reducible repeat (first|refine kN ?_ _|refine kD ?_|refine kA ?_ _));exact BK283.out) hb);have n2_:=Z (below_step pB hb);clear BK281;clear BK283;clear HB;have BK281:=n0_;have BK283:=n1_;have HB:=n2_;clear n0_ n1_ n2_;(try clear hb);(try clear hb2);(try clear hk);(try clear hi)))
        go_ret
        exact ⟨pF,pB⟩
      ·rw [if_neg c9] at H
       exact absurd H (by simp)
     ·rw [if_neg c8] at H
      exact absurd H (by simp)
    ·rw [if_neg c7] at H
     have c7b0:decide (x13_1 < (l0_0.length:Int))=false:=decide_eq_false c7
     clear c7
     obtain rfl:=Option.some.inj H
     go_wp2
     go_ret
     exact ⟨pF,pB⟩
end Go.Proofs.Ytkjlcbfjllpcnaa.X
namespace Go.Proofs.Ytkjlcbfjllpcnaa.X
open Go.RowKit Go.Lib Go.Sort Go.Proofs.YtkjlcbfjllpcnaaW.PrintWords Go.Proofs.YtkjlcbfjllpcnaaW.PrintLast Go.Proofs.YtkjlcbfjllpcnaaW.PrintMore
set_option linter.unusedVariables false
theorem C_lit (W:World) (xs:List Int) (hm:xs.length≤9223372036854775807):(Kd.int .i64).C (W.alloc (.cells (nums .i64 xs).toArray 3)) (some ⟨W.heap.size,0,none⟩) xs.length xs:=by
 obtain ⟨A,c,hv,hr⟩:=own_reads (own_lit W 0 3 .i64 xs (Nat.zero_le _) hm)
 injection hv with hA hn hc
 subst hA
 exact Kd.C_of_reads (d:=(0:Int)) (h1:=fun _=>rfl) hr
theorem rank_calls (a:Int) (w:World):Calls Try.prog 116 #[.int .i64 a] w fun e w'=>e=.returned (.int .i64 (rank a))∧Drawn0 w w':=nodeset_rank.calls a (rank a) w (rank_eq a)
theorem cmpI_calls (a b:Int) (w:World):Calls Try.prog 115 #[.int .i64 a,.int .i64 b] w fun e w'=>e=.returned (.int .i64 (cmpI a b))∧Drawn0 w w':=cmp_Compare_int.calls a b (cmpI a b) w (cmpI_eq a b)
theorem alloc_grow (W:World) (a b:Nat) (o:Obj):((W.drewN a).alloc o).drewN b=grow (W.drewN (a+b)) #[o]:=by
 simp [grow,World.alloc,World.drewN,Nat.add_assoc]
theorem compare_grow (x y : Int) (W : World) : Calls Try.prog 94 #[.int .i64 x, .int .i64 y] W fun e w' => e = .returned (.int .i64 (cmpS x y)) ∧ ∃ q os', w' = grow (W.drewN q) os' := by
  go_enter Try.func94, Try.ntmps94
  go_wp2_with (first
    | (go_at_call 116; refine (rank_calls _ _).mono ?_; rintro e w' ⟨rfl, ⟨nd, rfl⟩⟩)
    | (go_at_call 115; refine (cmpI_calls _ _ _).mono ?_; rintro e w' ⟨rfl, ⟨nd, rfl⟩⟩)
    | (go_at_call 114; refine (cmp_Or_int.calls 4 _ 2 [_, _] _ _ (C_lit _ [_, _] (by simp)) (by simp) (or2_eq _ _)).mono ?_; rintro e w' ⟨rfl, ⟨nd, rfl⟩⟩))
  go_ret
  exact ⟨rfl, _, #[_], alloc_grow _ _ _ _⟩
abbrev RI (w:World) (base:Nat) (ok:Nat→Prop) (v:Value) (xs:List Int):Prop:=(Kd.int .i64).R 3 w base ok v xs
theorem take1 {α:Type} {l:List α} {j:Nat} (h:j < l.length):(l.drop j).take 1=[l[j]]:=by rw [List.drop_eq_getElem_cons h];rfl
theorem reps_ints {w:World} {base:Nat} {ok:Nat→Prop} (xs:List Int):Reps ((Kd.int .i64).M w base ok) 1 xs (xs.map (Value.int .i64)):=by
 refine ⟨by simp,fun j p hj=>?_⟩
 obtain ⟨hl,rfl⟩:=List.getElem?_eq_some_iff.1 hj
 show List.take 1 (List.drop (j * 1) _)=[_]
 rw [Nat.mul_one,take1 (by simpa using hl)]
 simp
theorem ints_reps {w:World} {base:Nat} {ok:Nat→Prop} {xs:List Int} {cs:List Value} (h:Reps ((Kd.int .i64).M w base ok) 1 xs cs):cs=xs.map (Value.int .i64):=by
 obtain ⟨hl,h2⟩:=h
 apply List.ext_getElem (by simpa using hl)
 intro j h3 h4
 have h5:j < xs.length:=by simpa using h4
 have h6:(cs.drop (j * 1)).take 1=[.int .i64 xs[j]]:=h2 j xs[j] (List.getElem?_eq_getElem h5)
 rw [Nat.mul_one,take1 h3] at h6
 simpa using h6
theorem R_of_own {w:World} {base:Nat} {ok:Nat→Prop} {v:Value} {xs:List Int} (hok:∀ k,v.ownBlock=some k→ok k) (h:w.ownsRow base 3 1 v xs.length (xs.map (Value.int .i64))):RI w base ok v xs :=
 ⟨hok,_,h,reps_ints xs⟩
theorem own_of_R {w:World} {base:Nat} {ok:Nat→Prop} {v:Value} {xs:List Int} (h:RI w base ok v xs):w.ownsRow base 3 1 v xs.length (xs.map (Value.int .i64)):=by
 obtain ⟨_,inner,ho,hr⟩:=h
 rw [ints_reps hr] at ho
 exact ho
theorem cmpI_neg {a b:Int}:cmpI a b < 0 ↔ a < b:=by unfold cmpI;split <;> (try split) <;> omega
theorem cmpI_zero {a b:Int}:cmpI a b=0 ↔ a=b:=by unfold cmpI;split <;> (try split) <;> omega
def ltS (x y:Int):Prop:=rank x < rank y ∨ (rank x=rank y∧x < y)
theorem cmpS_neg {x y:Int}:cmpS x y < 0 ↔ ltS x y:=by
 unfold cmpS orI ltS
 split
 ·rename_i h;rw [cmpI_zero] at h;rw [cmpI_neg];omega
 ·rename_i h;rw [cmpI_neg];rw [cmpI_zero] at h;omega
theorem ltOf_iff {x y:Int}:ltOf cmpS x y=true ↔ ltS x y:=by simp [ltOf,cmpS_neg]
theorem ltOf_not {x y:Int}:ltOf cmpS x y=false ↔ ¬ ltS x y:=by rw [← ltOf_iff];simp
theorem ltS_swo:SWO (ltOf cmpS) where
 irrefl x:=by rw [ltOf_not];unfold ltS;omega
 trans x y z h1 h2:=by rw [ltOf_iff] at *;unfold ltS at *;omega
 ntrans x y z h1 h2:=by rw [ltOf_not] at *;unfold ltS at *;omega
theorem ltS_total (x y:Int) (h1:ltOf cmpS x y=false) (h2:ltOf cmpS y x=false):x=y:=by rw [ltOf_not] at *;unfold ltS at *;omega
def sortS (l:List Int):List Int:=l.mergeSort fun x y=>!(ltOf cmpS) y x
theorem sortS_length (l:List Int):(sortS l).length=l.length:=by simp [sortS]
theorem sort_row {w:World} {base:Nat} {ok:Nat→Prop} {v:Value} {l:List Int} (h:RI w base ok v l) (hl:l.length < 4611686018427387904) :
  Calls Try.prog 93 #[v,.func (.func 94) #[] #[]] w fun e w'=>e=.returned (.tuple #[])∧RI w' base ok v (sortS l)∧w.grownBy w' v.ownBlock:=by
 have ho:=own_of_R h
 rcases Nat.eq_zero_or_pos l.length with h0|h0
 ·obtain rfl:=List.eq_nil_of_length_eq_zero h0
  obtain ⟨A,c,rfl⟩:=own_slice ho
  refine (Try.slices_SortFunc_none (α:=Int) A c _ w).mono ?_
  rintro e w' ⟨rfl,rfl⟩
  exact ⟨rfl,by simpa [sortS] using h,grown_of_below (Below.refl _ _) _⟩
 ·rcases ho.2 with ⟨_,h1⟩|⟨g,cap,cur,rfl,hb,hh,h1,h2,h3,h4⟩
  ·omega
  ·have hH:=holds_of_blockI hh (by simpa using h4)
   refine (Try.slices_SortFunc_total (Value.int .i64) (fun _=>rfl) cmpS ltS_swo 94 #[] g 0 cap l.toArray w (enters_of Try.func94 (by kernel_rfl) rfl) (fun m os dk _ x y=>by simpa using compare_grow x y _) hH (Array.getElem?_eq_some_iff.1 hh).1 (by simpa using hl) ltS_total).mono ?_
   rintro e w' ⟨rfl,n,os,rfl⟩
   have hs:=sortS_length l
   refine ⟨rfl,R_of_own h.1 ?_,grownBy_sortedI _⟩
   rw [hs]
   exact ownsRow_sortedI hs hb hh h1 h2 h3
theorem clone_row {w:World} {A:Option Addr} {c:Nat} {l:List Int} (hr:Kd.C (Kd.int .i64) w A l.length l) (hl:l.length≤17592186044416) :
  Calls Try.prog 97 #[.slice A l.length c] w fun e w'=>∃ v,e=.returned v∧RI w' w.heap.size (fun _=>True) v l∧Below w.heap.size w w':=by
 rcases Nat.eq_zero_or_pos l.length with h0|h0
 ·obtain rfl:=List.eq_nil_of_length_eq_zero h0
  cases A with
  | none =>
   refine (Try.slices_Clone_int_nil _ c w).mono ?_
   rintro e w' ⟨rfl,rfl⟩
   exact ⟨_,rfl,Kd.R_nil _ _ _ _ _,Below.refl _ _⟩
  | some a =>
   refine (Try.slices_Clone_int_zero a c w).mono ?_
   rintro e w' ⟨v,rfl,ho,_,hb⟩
   exact ⟨v,rfl,R_of_own (fun _ _=>trivial) (by simpa using ho),hb⟩
 ·obtain ⟨b,off,rfl,_,hc⟩:=C_ints hr h0
  refine (Try.slices_Clone_int b off l.length c l w (Nat.le_refl _) (by omega) (fun j hj=>by rw [hc j hj];simp [List.getD,hj])).mono ?_
  rintro e w' ⟨v,rfl,ho,_,hb⟩
  exact ⟨v,rfl,R_of_own (fun _ _=>trivial) (by simpa using ho),hb⟩
theorem least1_calls (s:Int) (W:World):Calls Try.prog 98 #[.int .i64 s] W fun e w'=>e=.returned (.bool (!vld s))∧∃ q,w'=W.drewN q:=by
 go_enter Try.func98,Try.ntmps98
 go_wp2_with (go_at_call 59;(with_reducible refine (nodeset_Valid.calls s (vld s) _ (Valid_eq s)).mono ?_);rintro e w' ⟨rfl,⟨nd,rfl⟩⟩)
 go_ret
 exact ⟨rfl,_,rfl⟩
theorem delete_none (A:Option Addr) (c:Nat) (fv:Value) (w:World):Calls Try.prog 96 #[.slice A 0 c,fv] w fun e w'=>e=.returned (.slice A 0 c)∧w'=w:=by
 go_enter Try.func96,Try.ntmps96
 go_wp2_with (go_at_call 117;refine (Try.slices_IndexFunc_empty (α:=Int) A c fv _).mono ?_;rintro e w' ⟨rfl,rfl⟩)
 go_ret
 exact ⟨rfl,rfl⟩
theorem delete_row {w:World} {base:Nat} {ok:Nat→Prop} {v:Value} {l:List Int} (h:RI w base ok v l) (hl:l.length < 4611686018427387904) :
  Calls Try.prog 96 #[v,.func (.func 98) #[] #[]] w fun e w'=>∃ v',e=.returned v'∧RI w' base ok v' (l.filter vld)∧v'.ownBlock=v.ownBlock∧w.grownBy w' v.ownBlock:=by
 have ho:=own_of_R h
 rcases Nat.eq_zero_or_pos l.length with h0|h0
 ·obtain rfl:=List.eq_nil_of_length_eq_zero h0
  obtain ⟨A,c,rfl⟩:=own_slice ho
  refine (delete_none A c _ w).mono ?_
  rintro e w' ⟨rfl,rfl⟩
  exact ⟨_,rfl,by simpa using h,rfl,grown_of_below (Below.refl _ _) _⟩
 ·rcases ho.2 with ⟨_,h1⟩|⟨g,cap,cur,rfl,hb,hh,h1,h2,h3,h4⟩
  ·omega
  ·have hH:=holds_of_blockI hh (by simpa using h4)
   refine (Try.slices_DeleteFunc (Value.int .i64) (fun _=>rfl) (fun s=>!vld s) 98 #[] (enters_of Try.func98 (by kernel_rfl) rfl) 0 (fun _=>by kernel_rfl) g 0 cap l.toArray w (fun W x _=>by simpa [FnGives] using least1_calls x W) (fun n os dk x _=>by simpa [FnGives] using least1_calls x _) hH (by simp;unfold maxLen at h2;omega) (by simpa using h1)).mono ?_
   rintro e w' ⟨rfl,q,rfl⟩
   have hf:(l.toArray.toList.filter fun x=>!(!vld x))=l.filter vld:=by simp
   rw [hf]
   have hfl:=List.length_filter_le vld l
   have hgr:∀ d:Array Int,w.grownBy (putRow (Value.int .i64) (Sort.ahead w q) g 0 d) (some g):=fun d=>by
    have:=grownBy_sortedI (w:=w) (g:=g) (n:=q) (os:=#[]) d
    rwa [grow_empty] at this
   refine ⟨_,rfl,R_of_own (fun k hk=>h.1 k (by simpa [Value.ownBlock] using hk)) ?_,rfl,hgr _⟩
   have hz:((l.filter vld++List.replicate (l.toArray.size - (l.filter vld).length) (0:Int))).length=l.length:=by simp;omega
   have hs:=ownsRow_sortedI (n:=q) (os:=#[]) hz hb hh h1 h2 h3
   rw [grow_empty] at hs
   rcases hs.2 with ⟨hn,_⟩|⟨g',cap',cur',he,hb',hh',k1,k2,k3,k4⟩
   ·cases hn
   ·injection he with he1 he2 he3
    injection he1 with he1
    injection he1 with he1
    subst he1;subst he3
    refine ⟨by simp,.inr ⟨g,cap,cur',rfl,hb',hh',by omega,k2,k3,?_⟩⟩
    rw [Nat.mul_one] at k4 ⊢
    have h5:=congrArg (List.take (l.filter vld).length) k4
    rw [List.take_take,Nat.min_eq_left hfl,List.map_append,List.take_append_of_le_length (by simp)] at h5
    exact h5.trans (List.take_of_length_le (by simp))
def sub (t s:Int):Bool:=Go.bits .andNot .i64 t s == 0
def leastStep (out:List Int) (s:Int):List Int:=if (out.any fun t=>sub t s)=true then out else out++[s]
def leastFold (l:List Int):List Int:=l.foldl leastStep []
def leastS (l:List Int):List Int:=leastFold (sortS (l.filter vld))
def nodeset_Least.f (a0:List Int):Option (List Int):=if a0.length≤1048576 then some (leastS a0) else none
theorem leastFold_le (l:List Int):(leastFold l).length≤l.length:=by
 have h:∀ (l acc:List Int),(l.foldl leastStep acc).length≤acc.length+l.length:=by
  intro l
  induction l with
  | nil=>intro acc;simp
  | cons x r ih =>
   intro acc
   have:=ih (leastStep acc x)
   have h2:(leastStep acc x).length≤acc.length+1:=by unfold leastStep;split <;> simp
   simp only [List.foldl_cons,List.length_cons];omega
 simpa [leastFold] using h l []
theorem least2_calls (t s:Int) (B:Nat) (W:World) (hc:W.cell? ⟨B,0,none⟩=some (.int .i64 s)):Calls Try.prog 100 #[.int .i64 t,.pointer (some ⟨B,0,none⟩)] W fun e w'=>e=.returned (.bool (sub t s))∧∃ q,w'=W.drewN q:=by
 go_enter Try.func100,Try.ntmps100
 go_wp2
 go_ret
 exact ⟨rfl,0,rfl⟩
theorem contains_row {W:World} {A:Option Addr} {c:Nat} {l:List Int} {s:Int} {B:Nat} (hr:Kd.C (Kd.int .i64) W A l.length l) (hc:W.cell? ⟨B,0,none⟩=some (.int .i64 s)) :
  Calls Try.prog 99 #[.slice A l.length c,.func (.func 100) #[] #[.pointer (some ⟨B,0,none⟩)]] W fun e w'=>e=.returned (.bool (l.any fun t=>sub t s))∧∃ q,w'=W.drewN q:=by
 rcases Nat.eq_zero_or_pos l.length with h0|h0
 ·obtain rfl:=List.eq_nil_of_length_eq_zero h0
  refine (Try.slices_ContainsFunc_empty (α:=Int) A c _ W).mono ?_
  rintro e w' ⟨rfl,rfl⟩
  exact ⟨rfl,0,rfl⟩
 ·obtain ⟨b,off,rfl,_,hcc⟩:=C_ints hr h0
  have hB:=World.block_lt_of_cell? W _ hc
  refine (Try.slices_ContainsFunc (Value.int .i64) (fun t=>sub t s) 100 #[.pointer (some ⟨B,0,none⟩)] (enters_of Try.func100 (by kernel_rfl) rfl) b off l.length c l W (fun W' x hb=>least2_calls x s B W' ((hb.cell (p:=⟨B,0,none⟩) hB).trans hc)) (Nat.le_refl _) (C_max hr) hcc).mono ?_
  rintro e w' ⟨rfl,hq⟩
  rw [List.take_length]
  exact ⟨rfl,hq⟩
set_option maxHeartbeats 4000000 in
set_option maxRecDepth 100000 in
theorem nodeset_Least.calls (A0 : Option Addr) (c0 : Nat) (l0 : List Int) (r : List Int) (w : World) (hr0 : Kd.C (Kd.int .i64) w A0 l0.length l0) (hc0 : l0.length ≤ c0) (h : nodeset_Least.f l0 = some r) :
    Calls Try.prog 66 #[.slice A0 l0.length c0] w fun e w' => ∃ v0_ : Value, e = .returned (v0_) ∧ Kd.R (Kd.int .i64) 3 w' w.heap.size (fun _ => True) v0_ r ∧ Below w.heap.size w w' := by
  unfold nodeset_Least.f at h
  split at h
  case isFalse => cases h
  rename_i hlen
  obtain rfl := Option.some.inj h
  clear h
  have HL := Aside0.mk hlen
  have hfl := List.length_filter_le vld l0
  have HF : Aside0 ((l0.filter vld).length < 4611686018427387904) := ⟨by omega⟩
  have HR := Aside0.mk hr0
  clear hr0 hfl hlen
  unfold leastS
  obtain ⟨S, HS⟩ : ∃ S, Aside0 (S = sortS (l0.filter vld)) := ⟨_, ⟨rfl⟩⟩
  have HSl : Aside0 (S.length ≤ 1048576) := ⟨by rw [HS.out, sortS_length]; have := List.length_filter_le vld l0; have := HL.out; omega⟩
  rw [← HS.out]
  go_enter Try.func66, Try.ntmps66
  go_wp2_with (first
    | (go_at_call 97; refine (clone_row HR.out (by have := HL.out; omega)).mono ?_; rintro e w1 ⟨v1, rfl, h1, hb1⟩; have H1 := Aside0.mk h1; have B1 := Aside0.mk hb1; clear h1 hb1)
    | (go_at_call 96; refine (delete_row H1.out (by have := HL.out; omega)).mono ?_; rintro e w2 ⟨v2, rfl, h2, ho2, hg2⟩; have H2 := Aside0.mk h2; have B2 := Aside0.mk (B1.out.grown hg2 B1.out.size (own_base (own_of_R H1.out))); clear h2 ho2 hg2)
    | (go_at_call 93; refine (sort_row H2.out HF.out).mono ?_; rintro e w3 ⟨rfl, h3, hg3⟩; rw [← HS.out] at h3; have H3 := Aside0.mk h3; have B3 := Aside0.mk (B2.out.grown hg3 B2.out.size (own_base (own_of_R H2.out))); clear h3 hg3; obtain ⟨A2, c2, e2⟩ := Kd.R_slice H3.out; subst e2))
  have B1' := B1.out
  clear H1 H2 B1 B2 B1' HF HL HR
  go_loopw [3, 13] (fun o i wr => ∃ x : Int, i = .int .i64 x ∧ Aside0 (0 ≤ x ∧ x ≤ S.length) ∧ Aside0 (RI wr w.heap.size (fun _ => True) o (leastFold (S.take x.toNat))) ∧ Aside0 (RI wr w.heap.size (fun k => True ∧ some k ≠ o.ownBlock) (.slice A2 S.length c2) S) ∧ Aside0 (RowKit.Below w.heap.size w wr)) (fun _ i _ => S.length - (intOf i).toNat)
  case atStart => exact ⟨0, rfl, ⟨by omega⟩, ⟨Kd.R_nil _ _ _ _ _⟩, ⟨Kd.R_mono H3.out (fun k _ => ⟨trivial, by simp [Value.ownBlock]⟩)⟩, B3⟩
  case round =>
    obtain ⟨x, rfl, Hx, HO, HS3, HB⟩ := hrel
    clear H3 B3
    obtain ⟨ob, rfl⟩ : ∃ ob, ob = wr := ⟨_, rfl⟩
    by_cases hlt : x < S.length
    · have hd : decide (x < (S.length : Int)) = true := decide_eq_true hlt
      have p0 := Hx.out.1
      obtain ⟨F, HF⟩ : ∃ F, Aside0 (F = leastFold (S.take x.toNat)) := ⟨_, ⟨rfl⟩⟩
      rw [← HF.out] at HO
      obtain ⟨A, c, e0⟩ := Kd.R_slice HO.out
      subst e0
      obtain ⟨ad, ea, hx⟩ := Kd.at_int (Kd.R_reads' HS3.out).2.2 x p0 hlt
      cases ea
      obtain ⟨y, Hy⟩ : ∃ y, Aside0 (y = rd S x) := ⟨_, ⟨rfl⟩⟩
      rw [← Hy.out] at hx
      obtain ⟨b, Hb⟩ : ∃ b, Aside0 (b = F.any fun t => sub t y) := ⟨_, ⟨rfl⟩⟩
      have Hlt := Aside0.mk hlt
      have HFl : Aside0 (F.length ≤ 1048576) := ⟨by rw [HF.out]; have := leastFold_le (S.take x.toNat); have := HSl.out; simp at *; omega⟩
      have Hnext : Aside0 (leastFold (S.take (wrap64 (x + 1)).toNat) = leastStep F y ∧ wrap64 (x + 1) = x + 1) := by
        have h1 : wrap64 (x + 1) = x + 1 := by unfold wrap64; have := HSl.out; omega
        refine ⟨?_, h1⟩
        have h2 : (x + 1).toNat = x.toNat + 1 := by omega
        have h3 : x.toNat < S.length := by omega
        have h4 : Go.Proofs.YtkjlcbfjllpcnaaW.PrintWords.rd S x = S[x.toNat] := by simp [Go.Proofs.YtkjlcbfjllpcnaaW.PrintWords.rd, List.getD, h3]
        rw [h1, h2, HF.out, Hy.out, h4, List.take_succ_eq_append_getElem h3]
        unfold leastFold
        rw [List.foldl_append]
        rfl
      replace hlt := eq_true hlt
      replace p0 := eq_true p0
      cases b
      all_goals
        go_wp2_with (first
          | (go_at_call 99; refine (contains_row (s := y) (B := ob.heap.size) (Kd.R_reads' (Kd.R_alloc HO.out _)).2.2 (by simp)).mono ?_; rintro e w1 ⟨he, hq⟩; rw [← Hb.out] at he; subst he; have HO1 : Aside0 (RI w1 w.heap.size (fun _ => True) (.slice A F.length c) F) := (by obtain ⟨q, rfl⟩ := hq; exact ⟨Kd.R_drewN (Kd.R_alloc HO.out _) _⟩); have HS1 : Aside0 (RI w1 w.heap.size (fun k => True ∧ some k ≠ (Value.slice A F.length c).ownBlock) (.slice (some ad) S.length c2) S) := (by obtain ⟨q, rfl⟩ := hq; exact ⟨Kd.R_drewN (Kd.R_alloc HS3.out _) _⟩); have HB1 : Aside0 (RowKit.Below w.heap.size w w1) := (by obtain ⟨q, rfl⟩ := hq; exact ⟨wN (wA HB.out _) _⟩); have hcl : w1.cell? ⟨ob.heap.size, 0, none⟩ = some (.int .i64 y) := (by obtain ⟨q, rfl⟩ := hq; simp); clear hq)
          | (at_builtin; go_loud (refine Kd.R_append (Kd.int .i64) (w0 := w) w.heap.size rfl (.tmp 21) (.tmp 23) 22 3 (.int .i64 0) 8 rfl Try.underlying22 info3 rfl (by decide) (by omega) (.slice A F.length c) F y [.int .i64 y] (fun _ => True) (fun _ => False) rfl rfl ?aP (fun _ hk => hk.elim) (fun _ _ => trivial) ?aO ?aB ?aS ?aL ?_; (case aP => exact rfl); (case aO => exact HO1.out); (case aB => exact HB1.out); (case aS => exact HB1.out.size); (case aL => have := HFl.out; omega); intro v4 w4 h4 hb4 hg4 hat4; have H4 := Aside0.mk h4; have B4 := Aside0.mk hb4; have HS4 := Aside0.mk (Kd.R_after HS1.out hg4 hat4); clear h4 hb4 hg4 hat4)))
        go_roundw
        case rel =>
          first
          | exact ⟨wrap64 (x + 1), rfl, ⟨by have := Hnext.out.2; have := Hlt.out; have := Hx.out; omega⟩, ⟨by rw [Hnext.out.1]; unfold leastStep; rw [← Hb.out]; exact H4.out⟩, HS4, B4⟩
          | exact ⟨wrap64 (x + 1), rfl, ⟨by have := Hnext.out.2; have := Hlt.out; have := Hx.out; omega⟩, ⟨by rw [Hnext.out.1]; unfold leastStep; rw [← Hb.out]; exact HO1.out⟩, HS1, HB1⟩
        case measure => have h1 := Hnext.out.2; have := Hlt.out; have := Hx.out; simp only [intOf]; simp [h1]; omega
    · have hd : decide (x < (S.length : Int)) = false := decide_eq_false hlt
      have Hlt := Aside0.mk hlt
      clear hlt
      go_wp2
      go_ret
      have hx : x = S.length := by have := Hx.out; have := Hlt.out; omega
      rw [hx] at HO
      exact ⟨_, rfl, by simpa using HO.out, HB.out⟩
def subsBelow (s:Int) (m:Nat):List Int:=((List.range m).map Int.ofNat).filter fun t=>sub t s
def subsetsS (s:Int):List Int:=if vld s then sortS (subsBelow s (s.toNat+1)) else []
def nodeset_Subsets.f (a0:Int):Option (List Int):=some (subsetsS a0)
theorem subsBelow_le (s:Int) (m:Nat):(subsBelow s m).length≤m:=by
 unfold subsBelow
 have:=List.length_filter_le (fun t=>sub t s) ((List.range m).map Int.ofNat)
 simpa using this
theorem subsBelow_succ (s:Int) (m:Nat):subsBelow s (m+1)=if sub (m:Int) s=true then subsBelow s m++[(m:Int)] else subsBelow s m:=by
 unfold subsBelow
 rw [List.range_succ,List.map_append,List.filter_append]
 split
 ·rename_i h;simp [h]
 ·rename_i h;simp [h]
set_option maxHeartbeats 4000000 in
set_option maxRecDepth 100000 in
theorem nodeset_Subsets.calls (a0 : Int) (r : List Int) (w : World) (h : nodeset_Subsets.f a0 = some r) : Calls Try.prog 64 #[.int .i64 a0] w fun e w' => ∃ v0_ : Value, e = .returned (v0_) ∧ Kd.R (Kd.int .i64) 3 w' w.heap.size (fun _ => True) v0_ r ∧ Below w.heap.size w w' := by
  obtain rfl := Option.some.inj h
  clear h
  obtain ⟨b, Hb⟩ : ∃ b, Aside0 (b = vld a0) := ⟨_, ⟨rfl⟩⟩
  unfold subsetsS
  rw [← Hb.out]
  cases b with
  | false =>
    go_enter Try.func64, Try.ntmps64
    go_wp2
    go_loopw [3, 4] (fun o i wr => o = .slice none 0 0 ∧ i = .int .i64 0 ∧ Aside0 (RowKit.Below w.heap.size w wr)) (fun _ _ _ => 0)
    case atStart => exact ⟨rfl, rfl, ⟨Below.refl _ _⟩⟩
    case round =>
      obtain ⟨rfl, rfl, HB⟩ := hrel
      obtain ⟨ob, rfl⟩ : ∃ ob, ob = wr := ⟨_, rfl⟩
      go_wp2_with (first
        | (go_at_call 59; refine (nodeset_Valid.calls a0 false _ (by rw [Hb.out]; exact Valid_eq a0)).mono ?_; rintro e w1 ⟨rfl, ⟨q, rfl⟩⟩)
        | (go_at_call 93; refine (sort_row (base := w.heap.size) (ok := fun _ => True) (l := []) (Kd.R_nil _ _ _ _ _) (by simp)).mono ?_; rintro e w3 ⟨rfl, h3, hg3⟩))
      go_ret
      exact ⟨_, rfl, Kd.R_nil _ _ _ _ _, (wN HB.out _).grown hg3 (by have := HB.out.size; simpa using this) (by simp [Value.ownBlock])⟩
  | true =>
    simp only [if_true]
    have Hv : Aside0 (0 ≤ a0 ∧ a0 < 1024) := ⟨vld_iff.1 Hb.out.symm⟩
    go_enter Try.func64, Try.ntmps64
    go_wp2
    go_loopw [3, 4] (fun o i wr => ∃ x : Int, i = .int .i64 x ∧ Aside0 (0 ≤ x ∧ x ≤ a0 + 1) ∧ Aside0 (RI wr w.heap.size (fun _ => True) o (subsBelow a0 x.toNat)) ∧ Aside0 (RowKit.Below w.heap.size w wr)) (fun _ i _ => (a0 + 1 - intOf i).toNat)
    case atStart => exact ⟨0, rfl, ⟨by have := Hv.out; omega⟩, ⟨by exact Kd.R_nil _ _ _ _ _⟩, ⟨Below.refl _ _⟩⟩
    case round =>
      obtain ⟨x, rfl, Hx, HO, HB⟩ := hrel
      obtain ⟨ob, rfl⟩ : ∃ ob, ob = wr := ⟨_, rfl⟩
      obtain ⟨F, HF⟩ : ∃ F, Aside0 (F = subsBelow a0 x.toNat) := ⟨_, ⟨rfl⟩⟩
      rw [← HF.out] at HO
      have HFl : Aside0 (F.length ≤ 1025) := ⟨by rw [HF.out]; have := subsBelow_le a0 x.toNat; have := Hx.out; have := Hv.out; omega⟩
      have Hnext : Aside0 (wrap64 (x + 1) = x + 1 ∧ subsBelow a0 (x + 1).toNat = if sub x a0 = true then F ++ [x] else F) := ⟨by
        have h1 := Hx.out
        have h2 := Hv.out
        refine ⟨by unfold wrap64; omega, ?_⟩
        obtain ⟨m, rfl⟩ := Int.eq_ofNat_of_zero_le h1.1
        rw [HF.out, show ((m : Int) + 1).toNat = m + 1 from by omega, show (m : Int).toNat = m from by omega]
        exact subsBelow_succ a0 m⟩
      by_cases hlt : x ≤ a0
      · have hd : decide (x ≤ a0) = true := decide_eq_true hlt
        have Hlt := Aside0.mk hlt
        clear hlt
        obtain ⟨c, Hc⟩ : ∃ c, Aside0 (c = sub x a0) := ⟨_, ⟨rfl⟩⟩
        have hc : (Go.bits .andNot .i64 x a0 == 0) = c := by rw [Hc.out]; rfl
        cases c
        all_goals
          go_wp2_with (first
            | (go_at_call 59; refine (nodeset_Valid.calls a0 true _ (by rw [Hb.out]; exact Valid_eq a0)).mono ?_; rintro e w1 ⟨rfl, hq⟩; have HO1 := Aside0.mk (Kd.R_below HO.out hq.below); have HB1 := Aside0.mk (HB.out.trans (hq.below.mono HB.out.size)); clear hq)
            | (at_builtin; refine Kd.R_append (Kd.int .i64) (w0 := w) w.heap.size rfl (.tmp 18) (.tmp 20) 22 3 (.int .i64 0) 8 rfl Try.underlying22 info3 rfl (by decide) (by omega) _ F x [.int .i64 x] (fun _ => True) (fun _ => False) rfl rfl ?aP (fun _ hk => hk.elim) (fun _ _ => trivial) ?aO ?aB ?aS ?aL ?_; (case aP => exact rfl); (case aO => exact HO1.out); (case aB => exact HB1.out); (case aS => exact HB1.out.size); (case aL => have := HFl.out; omega); intro v4 w4 h4 hb4 hg4 hat4; have H4 := Aside0.mk h4; have B4 := Aside0.mk hb4; clear h4 hb4 hg4 hat4))
          go_roundw
          case rel =>
            first
            | exact ⟨wrap64 (x + 1), rfl, ⟨by have := Hnext.out.1; have := Hlt.out; have := Hx.out; omega⟩, ⟨by rw [Hnext.out.1, Hnext.out.2, ← Hc.out]; exact H4.out⟩, B4⟩
            | exact ⟨wrap64 (x + 1), rfl, ⟨by have := Hnext.out.1; have := Hlt.out; have := Hx.out; omega⟩, ⟨by rw [Hnext.out.1, Hnext.out.2, ← Hc.out]; exact HO1.out⟩, HB1⟩
          case measure => have h1 := Hnext.out.1; have := Hlt.out; have := Hx.out; simp [intOf, h1]; omega
      · have hd : decide (x ≤ a0) = false := decide_eq_false hlt
        have Hlt := Aside0.mk hlt
        clear hlt
        have hx : Aside0 (x.toNat = a0.toNat + 1) := ⟨by have := Hx.out; have := Hlt.out; have := Hv.out; omega⟩
        go_wp2_with (first
          | (go_at_call 59; refine (nodeset_Valid.calls a0 true _ (by rw [Hb.out]; exact Valid_eq a0)).mono ?_; rintro e w1 ⟨rfl, hq⟩; have HO1 := Aside0.mk (Kd.R_below HO.out hq.below); have HB1 := Aside0.mk (HB.out.trans (hq.below.mono HB.out.size)); clear hq)
          | (go_at_call 93; refine (sort_row HO1.out (by have := HFl.out; omega)).mono ?_; rintro e w3 ⟨rfl, h3, hg3⟩; have H3 := Aside0.mk h3; have B3 := Aside0.mk (HB1.out.grown hg3 HB1.out.size (own_base (own_of_R HO1.out))); clear h3 hg3))
        go_ret
        exact ⟨_, rfl, by rw [← hx.out, ← HF.out]; exact H3.out, B3.out⟩
end Go.Proofs.Ytkjlcbfjllpcnaa.X
namespace Go.Proofs.Ytkjlcbfjllpcnaa.X
open Go.RowKit Go.Proofs.YtkjlcbfjllpcnaaW.PrintWords Go.Proofs.YtkjlcbfjllpcnaaW.PrintLast Go.Proofs.YtkjlcbfjllpcnaaW.PrintMore
attribute [local go_sem] max2_int min2_int max_two min_two max_three min_three max_four min_four
set_option linter.unusedVariables false
set_option linter.unusedSimpArgs false
mutual
def blocking_Least.j0:Nat→Int→Bool→List (S34)→Option (List Int × Int)
 | 0,_,_,_=>none
 | k+1,x1,x23,x294000=>if x23=true then (some (([]:List Int),5)) else (if 0≤x1 then (if x1 < (x294000.length:Int) then (if ((rd_T34 x294000 x1).f0=true) then ((threshold_Uses.f k ((rd_T34 x294000 x1).f1.f0) ((rd_T34 x294000 x1).f1.f1) ((rd_T34 x294000 x1).f1.f2)).bind fun t297=>((nodeset_Subsets.f t297).bind fun t298=>(blocking_Least.l0 k x1 ([]:List Int) t298 (t298.length:Int) 0 x294000))) else (some (([]:List Int),10))) else (none)) else (none))
def blocking_Least.l0:Nat→Int→List Int→List Int→Int→Int→List (S34)→Option (List Int × Int)
 | 0,_,_,_,_,_,_=>none
 | k+1,x1,x7,x38,x39,x40,x294000=>if x40 < x39 then (if 0≤x40 then (if x40 < (x38.length:Int) then ((blocking_Blocks.f k x294000 x1 (rd x38 x40)).bind fun t302=>(if t302=true then (if x7.length < 17592186044416 then (blocking_Least.l0 k x1 (x7++[rd x38 x40]) x38 x39 (wrap64 (x40+1)) x294000) else (none)) else (blocking_Least.l0 k x1 x7 x38 x39 (wrap64 (x40+1)) x294000))) else (none)) else (none)) else ((nodeset_Least.f x7).bind fun t306=>(some (t306,0)))
end
def blocking_Least.f (k:Nat) (l0_0:List (S34)) (a1:Int):Option (List Int × Int):=(configuration_Valid.f k l0_0).bind fun t294=>(if t294=0 then (if a1 < 0 then (blocking_Least.j0 k a1 true l0_0) else (blocking_Least.j0 k a1 (decide (a1 ≥ (l0_0.length:Int))) l0_0)) else (some (([]:List Int),t294)))
set_option maxHeartbeats 8000000 in
set_option maxRecDepth 100000 in
theorem blocking_Least.calls (k:Nat) (A0_0:Option Addr) (c0_0:Nat) (l0_0:List (S34)) (a1:Int) (r1:List Int) (r2:Int) (w:World) (hr0_0:Kd.C k34 w A0_0 l0_0.length l0_0) (hc0_0:l0_0.length≤c0_0) (h:blocking_Least.f k l0_0 a1=some (r1,r2)) :
  Calls Try.prog 21 #[.agg #[.slice A0_0 l0_0.length c0_0],.int .i64 a1] w fun e w'=>∃ v0_:Value,e=.returned (.tuple #[v0_,.int .i64 r2])∧Kd.R (Kd.int .i64) 3 w' w.heap.size (fun _=>True) v0_ r1∧Below w.heap.size w w':=by
 have hu27:=Try.underlying27
 have hu32:=Try.underlying32
 have HR0_0:=Z hr0_0
 have HC0_0:=Z hc0_0
 clear hr0_0 hc0_0
 have HB:=Z (Below.refl w.heap.size w)
 have H:((configuration_Valid.f k l0_0).bind fun t294=>(if t294=0 then (if a1 < 0 then (blocking_Least.j0 k a1 true l0_0) else (blocking_Least.j0 k a1 (decide (a1 ≥ (l0_0.length:Int))) l0_0)) else (some (([]:List Int),t294))))=some (r1,r2):=h
 clear h
 replace H:=Option.bind_eq_some_iff.mp H
 obtain ⟨t294,A30,H⟩:=H
 try dsimp only at H
 have A3:=Z A30
 clear A30
 by_cases c4:t294=0
 ·rw [if_pos c4] at H
  have c4b0:(t294 == 0)=true:=beq_iff_eq.mpr c4
  have c4b1:(t294 != 0)=false:=bne_eq_false_iff_eq.mpr c4
  clear c4
  have HC5:=Z H
  clear H
  go_enter Try.func21,Try.ntmps21
  go_upto_region 4 with (first|((with_reducible refine gate_dst (N:=2) rfl ?_);(try (refine gate_guard (by rfl) ?_;dsimp only));refine box_event ?hg (N:=2) ?hd (cs:=#[.slice A0_0 l0_0.length c0_0]) (t:=27) ?hr ?_;(case hd=>rfl);(case hg=>rfl);(case hr=>first|(go_simp;done)|(go_simp;rfl));intro gb293 hg w6 hbox hb;have n0_:=Z (below_step pB hb);have n1_:=Z (hbox);have n2_:=Z ((pT hg:w.heap.size≤gb293));have n3_:=Z ((pT hg:w.heap.size≤gb293));clear HB;have HB:=n0_;have BK293:=n1_;have GW293:=n2_;have GE293:=n3_;clear n0_ n1_ n2_ n3_;clear hb hbox hg;have hcz7_0:w6.cell? ⟨gb293,0,none⟩=some (.slice A0_0 l0_0.length c0_0):=(kC BK293.out 0).trans rfl;have hfz7_0:=kF BK293.out 0)|((with_reducible refine gate_callee (f:=63) rfl ?_);refine goesL_ (some 11) rfl rfl Try.func63 (by kernel_rfl) rfl #[.agg #[.slice A0_0 l0_0.length c0_0]] rfl pG ?_;(with_reducible refine (configuration_Valid.calls k _ _ l0_0 t294 _ ?side1 ?side2 A3.out).mono ?_);(case side1=>repeat (first|exact (Kd.C_below HR0_0.out HB.out)|(with_reducible refine Kd.C_alloc ?_ _)|(with_reducible refine Kd.C_drewN ?_ _)|(with_reducible refine Kd.C_drew ?_)));(case side2=>exact HC0_0.out);rintro e w8 ⟨rfl,hb⟩;refine ⟨_,rfl,?_⟩;have n0_:=Z (blk_below (g:=gb293) (o:=.cells #[.slice A0_0 l0_0.length c0_0] 27 (0,0)) (pK BK293) hb);have n1_:=Z (below_step pB hb);clear BK293;clear HB;have BK293:=n0_;have HB:=n1_;clear n0_ n1_;(try clear hb);(try clear hb2);(try clear hk);(try clear hi)))
  (try simp only [Act.put,List.setIfInBounds_toArray,List.set_cons_zero,List.set_cons_succ])
  go_cut [23] (fun v23 wc=>∃ (kq:Nat) (x23_4:Bool),v23=.bool x23_4∧Aside0 (blocking_Least.j0 kq a1 x23_4 l0_0=some (r1,r2))∧Aside0 (kq≤k)∧Aside0 (wc.heap[gb293]?=some (.cells #[(.slice A0_0 l0_0.length c0_0)] 27 (0,0)))∧Aside0 (Below w.heap.size w wc))
  case first =>
   have H:=HC5.out
   clear HC5
   by_cases c9:a1 < 0
   ·rw [if_pos c9] at H
    have c9b0:decide (a1 < 0)=true:=decide_eq_true c9
    clear c9
    (first|rw [c9b0]|(simp only [i64_w,i32_w];rw [c9b0])|skip)
    have H':=Z H
    clear H
    go_wp2
    go_meet
    case rel=>exact ⟨_,(true),pE,H',⟨by first|omega|exact Nat.le_refl _⟩,⟨pK BK293⟩,⟨pB⟩⟩
   ·rw [if_neg c9] at H
    have c9b0:decide (a1 < 0)=false:=decide_eq_false c9
    clear c9
    (first|rw [c9b0]|(simp only [i64_w,i32_w];rw [c9b0])|skip)
    have H':=Z H
    clear H
    have hcz10_0:w8.cell? ⟨gb293,0,none⟩=some (.slice A0_0 l0_0.length c0_0):=(kC BK293.out 0).trans rfl
    have hfz10_0:=kF BK293.out 0
    go_wp2
    go_meet
    case rel=>exact ⟨_,(decide (a1 ≥ (l0_0.length:Int))),pE,H',⟨by first|omega|exact Nat.le_refl _⟩,⟨pK BK293⟩,⟨pB⟩⟩
  case rest =>
   clear HC5
   try clear c2
   try clear p2
   try clear c4
   try clear c4b0
   try clear c4b1
   try clear c6
   try clear c9
   try clear c9b0
   try clear hcz10_0
   try clear hcz7_0
   try clear hfz10_0
   try clear hfz7_0
   obtain ⟨kq,x23_4,rfl,HA,HJ4,BK293,HB⟩:=hcut
   cases kq with
   | zero=>exact absurd HA.out (by simp [blocking_Least.j0])
   | succ kj4 =>
    have H:=HA.out
    clear HA
    simp only [blocking_Least.j0] at H
    by_cases c11:x23_4=true
    ·subst c11
     rw [if_pos rfl] at H
     simp only [Option.some.injEq,Prod.mk.injEq] at H
     obtain ⟨rfl,rfl⟩:=H
     go_wp2
     go_ret2
     exact ⟨_,pF,pN,pB⟩
    ·replace c11:=Bool.eq_false_iff.mpr c11
     subst c11
     rw [if_neg (show ¬ (false=true) by decide)] at H
     by_cases c12:0≤a1
     ·rw [if_pos c12] at H
      have c12b0:decide (0≤a1)=true:=decide_eq_true c12
      clear c12
      by_cases c13:a1 < (l0_0.length:Int)
      ·rw [if_pos c13] at H
       have c13b0:decide (a1 < (l0_0.length:Int))=true:=decide_eq_true c13
       clear c13
       obtain ⟨bq14,hbq14⟩:∃ b_:Bool,b_=((rd_T34 l0_0 a1).f0):=⟨_,rfl⟩
       replace H:(if (bq14=true) then ((threshold_Uses.f kj4 ((rd_T34 l0_0 a1).f1.f0) ((rd_T34 l0_0 a1).f1.f1) ((rd_T34 l0_0 a1).f1.f2)).bind fun t297=>((nodeset_Subsets.f t297).bind fun t298=>(blocking_Least.l0 kj4 a1 ([]:List Int) t298 (t298.length:Int) 0 l0_0))) else (some (([]:List Int),10)))=some (r1,r2):=by rw [← hbq14] at H;exact H
       have Nbq14:=Z hbq14
       clear hbq14
       by_cases c15:(bq14=true)
       ·subst c15
        rw [if_pos rfl] at H
        replace H:=Option.bind_eq_some_iff.mp H
        obtain ⟨t297,A160,H⟩:=H
        try dsimp only at H
        have A16:=Z A160
        clear A160
        replace H:=Option.bind_eq_some_iff.mp H
        obtain ⟨t298,A170,H⟩:=H
        try dsimp only at H
        have A17:=Z A170
        clear A170
        have H':=Z H
        clear H
        have hcz18_0:wc.cell? ⟨gb293,0,none⟩=some (.slice A0_0 l0_0.length c0_0):=(kC BK293.out 0).trans rfl
        have hfz18_0:=kF BK293.out 0
        have p295:0≤(a1:Int):=of_decide_eq_true (by first|(with_reducible assumption)|assumption)
        have q295:a1 < (l0_0.length:Int):=of_decide_eq_true (by first|(with_reducible assumption)|assumption)
        obtain ⟨ad295,A295_2,c295_2,A295_3,c295_3,e295,hx295_0,hx295_1,hx295_2,hx295_3,hl295_2,hi295_2,hl295_3,hi295_3⟩:=at_T34 HR0_0.out a1 p295 q295
        (try rw [← Nbq14.out] at hx295_0)
        cases e295
        replace hx295_0:=(HB.out.cell (World.block_lt_of_cell? w _ hx295_0)).trans hx295_0
        replace hx295_1:=(HB.out.cell (World.block_lt_of_cell? w _ hx295_1)).trans hx295_1
        replace hx295_2:=(HB.out.cell (World.block_lt_of_cell? w _ hx295_2)).trans hx295_2
        replace hx295_3:=(HB.out.cell (World.block_lt_of_cell? w _ hx295_3)).trans hx295_3
        have HR295_2:=Z hi295_2
        have HC295_2:=Z hl295_2
        clear hi295_2 hl295_2
        have HR295_3:=Z hi295_3
        have HC295_3:=Z hl295_3
        clear hi295_3 hl295_3
        replace p295:=eq_true p295
        replace q295:=eq_true q295
        have p296:0≤(a1:Int):=of_decide_eq_true (by first|(with_reducible assumption)|assumption)
        have q296:a1 < (l0_0.length:Int):=of_decide_eq_true (by first|(with_reducible assumption)|assumption)
        obtain ⟨ad296,A296_2,c296_2,A296_3,c296_3,e296,hx296_0,hx296_1,hx296_2,hx296_3,hl296_2,hi296_2,hl296_3,hi296_3⟩:=at_T34 HR0_0.out a1 p296 q296
        (try rw [← Nbq14.out] at hx296_0)
        obtain rfl:ad295=ad296:=(by injection e296)
        replace hx296_0:=(HB.out.cell (World.block_lt_of_cell? w _ hx296_0)).trans hx296_0
        replace hx296_1:=(HB.out.cell (World.block_lt_of_cell? w _ hx296_1)).trans hx296_1
        replace hx296_2:=(HB.out.cell (World.block_lt_of_cell? w _ hx296_2)).trans hx296_2
        replace hx296_3:=(HB.out.cell (World.block_lt_of_cell? w _ hx296_3)).trans hx296_3
        have HR296_2:=Z hi296_2
        have HC296_2:=Z hl296_2
        clear hi296_2 hl296_2
        have HR296_3:=Z hi296_3
        have HC296_3:=Z hl296_3
        clear hi296_3 hl296_3
        replace p296:=eq_true p296
        replace q296:=eq_true q296
        have ea_:=Option.some.inj (hx295_2.symm.trans hx296_2)
        injection ea_ with ea_ en_ ec_
        subst ea_
        subst ec_
        clear en_
        have ea_:=Option.some.inj (hx295_3.symm.trans hx296_3)
        injection ea_ with ea_ en_ ec_
        subst ea_
        subst ec_
        clear en_
        go_wp2_with (first|((with_reducible refine gate_callee (f:=65) rfl ?_);refine goesL_ (some 37) rfl rfl Try.func65 (by kernel_rfl) rfl #[.agg #[.int .i64 ((rd_T34 l0_0 a1).f1.f0),.slice A295_2 ((rd_T34 l0_0 a1).f1.f1).length c295_2,.slice A295_3 ((rd_T34 l0_0 a1).f1.f2).length c295_3]] rfl pG ?_;(with_reducible refine (threshold_Uses.calls kj4 ((rd_T34 l0_0 a1).f1.f0) _ _ ((rd_T34 l0_0 a1).f1.f1) _ _ ((rd_T34 l0_0 a1).f1.f2) t297 _ ?side1 ?side2 ?side3 ?side4 A16.out).mono ?_);(case side1=>repeat (first|exact (Kd.C_below HR296_2.out HB.out)|(with_reducible refine Kd.C_alloc ?_ _)|(with_reducible refine Kd.C_drewN ?_ _)|(with_reducible refine Kd.C_drew ?_)));(case side2=>exact HC296_2.out);(case side3=>repeat (first|exact (Kd.C_below HR296_3.out HB.out)|(with_reducible refine Kd.C_alloc ?_ _)|(with_reducible refine Kd.C_drewN ?_ _)|(with_reducible refine Kd.C_drew ?_)));(case side4=>exact HC296_3.out);rintro e w19 ⟨rfl,hb⟩;refine ⟨_,rfl,?_⟩;have n0_:=Z (blk_below (g:=gb293) (o:=.cells #[.slice (some ad295) l0_0.length c0_0] 27 (0,0)) (pK BK293) hb);have n1_:=Z (below_step pB hb);clear BK293;clear HB;have BK293:=n0_;have HB:=n1_;clear n0_ n1_;(try clear hb);(try clear hb2);(try clear hk);(try clear hi))|((with_reducible refine gate_callee (f:=64) rfl ?_);refine goesL_ (some 38) rfl rfl Try.func64 (by kernel_rfl) rfl #[.int .i64 t297] rfl pG ?_;(with_reducible refine (nodeset_Subsets.calls t297 t298 _ A17.out).mono ?_);rintro e w20 ⟨v299,rfl,ho0,hb⟩;refine ⟨_,rfl,?_⟩;have n0_:=Z (Kd.R_lower ho0 (below_size pB));have n1_:=Z (blk_below (g:=gb293) (o:=.cells #[.slice (some ad295) l0_0.length c0_0] 27 (0,0)) (pK BK293) hb);have n2_:=Z (below_step pB hb);clear BK293;clear HB;have HO300:=n0_;have BK293:=n1_;have HB:=n2_;clear n0_ n1_ n2_;(try clear hb);(try clear hb2);(try clear hk);(try clear hi);(try clear ho0);obtain ⟨Ao21,co21,eo21⟩:=Kd.R_slice HO300.out;subst eo21))
        go_loopg [7,40] kj4 (fun kq v7 v40 w'=>∃ (x7_2:List Int) (x40_2:Int),v40=.int .i64 x40_2∧Aside0 (blocking_Least.l0 kq a1 x7_2 t298 (t298.length:Int) x40_2 l0_0=some (r1,r2))∧Aside0 (kq≤kj4)∧Aside0 (Kd.R (Kd.int .i64) 3 w' w.heap.size (fun k_=>some k_ ≠ ((.slice Ao21 t298.length co21):Value).ownBlock) v7 x7_2)∧Aside0 (Kd.R (Kd.int .i64) 3 w' w.heap.size (fun k_=>some k_ ≠ (v7:Value).ownBlock) (.slice Ao21 t298.length co21) t298)∧Aside0 (w'.heap[gb293]?=some (.cells #[(.slice (some ad295) l0_0.length c0_0)] 27 (0,0)))∧Aside0 (Below w.heap.size w w'))
        case atStart=>exact ⟨(([]:List Int)),(0),pE,H',⟨Nat.le_refl _⟩,⟨pN⟩,⟨by (with_reducible repeat (first|apply Kd.R_alloc|apply Kd.R_drewN|apply Kd.R_drew));exact Kd.R_mono HO300.out (fun _ hk=>(by simp [Value.ownBlock]))⟩,⟨pK BK293⟩,⟨pB⟩⟩
        case round =>
         clear H'
         try clear c1
         try clear q1
         try clear c2
         try clear p2
         try clear q2
         try clear hx2
         try clear c4
         try clear c4b0
         try clear c4b1
         try clear c6
         try clear c9
         try clear c9b0
         try clear c11
         try clear c12
         try clear c12b0
         try clear c13
         try clear c13b0
         try clear q14
         try clear c15
         try clear c21
         try clear hcz10_0
         try clear hcz18_0
         try clear hcz7_0
         try clear hfz10_0
         try clear hfz18_0
         try clear hfz7_0
         try clear hx295_0
         try clear hx295_1
         try clear hx295_2
         try clear hx295_3
         try clear hx296_0
         try clear hx296_1
         try clear hx296_2
         try clear hx296_3
         try clear p295
         try clear p296
         try clear q295
         try clear q296
         obtain ⟨x7_2,x40_2,rfl,HA,HK2,HO_7,HO_38,BK293,HB⟩:=hrel
         cases gk with
         | zero=>exact absurd HA.out (by simp [blocking_Least.l0])
         | succ k2 =>
          have H:=HA.out
          clear HA
          simp only [blocking_Least.l0] at H
          by_cases c22:x40_2 < (t298.length:Int)
          ·rw [if_pos c22] at H
           have c22b0:decide (x40_2 < (t298.length:Int))=true:=decide_eq_true c22
           clear c22
           by_cases c23:0≤x40_2
           ·rw [if_pos c23] at H
            have c23b0:decide (0≤x40_2)=true:=decide_eq_true c23
            clear c23
            by_cases c24:x40_2 < (t298.length:Int)
            ·rw [if_pos c24] at H
             have c24b0:decide (x40_2 < (t298.length:Int))=true:=decide_eq_true c24
             clear c24
             replace H:=Option.bind_eq_some_iff.mp H
             obtain ⟨t302,A250,H⟩:=H
             try dsimp only at H
             have A25:=Z A250
             clear A250
             by_cases c26:t302=true
             ·subst c26
              rw [if_pos rfl] at H
              by_cases c27:x7_2.length < 17592186044416
              ·rw [if_pos c27] at H
               have LMc27:=Z c27
               clear c27
               obtain ⟨y303,hy303⟩:∃ y_:List Int,y_=(x7_2++[rd t298 x40_2]):=⟨_,rfl⟩
               first|rw [← hy303] at H|(replace H:=(Option.bind_some _ _).symm.trans H;rw [← hy303] at H)
               have Ny303:=Z hy303
               clear hy303
               have H':=Z H
               clear H
               have p301:0≤(x40_2:Int):=of_decide_eq_true (by first|(with_reducible assumption)|assumption)
               have q301:x40_2 < (t298.length:Int):=of_decide_eq_true (by first|(with_reducible assumption)|assumption)
               obtain ⟨ad301,e301,hx301_0⟩:=Kd.at_int (Kd.R_reads' HO_38.out).2.2 x40_2 p301 q301
               cases e301
               replace p301:=eq_true p301
               replace q301:=eq_true q301
               have hcz28_0:wr.cell? ⟨gb293,0,none⟩=some (.slice (some ad295) l0_0.length c0_0):=(kC BK293.out 0).trans rfl
               have hfz28_0:=kF BK293.out 0
               go_wp2_with (first|((with_reducible refine gate_callee (f:=19) rfl ?_);refine goesL_ (some 47) rfl rfl Try.func19 (by kernel_rfl) rfl #[.agg #[.slice (some ad295) l0_0.length c0_0],.int .i64 a1,.int .i64 (rd t298 x40_2)] rfl pG ?_;(with_reducible refine (blocking_Blocks.calls k2 _ _ l0_0 a1 (rd t298 x40_2) true _ ?side1 ?side2 A25.out).mono ?_);(case side1=>repeat (first|exact (Kd.C_below HR0_0.out HB.out)|(with_reducible refine Kd.C_alloc ?_ _)|(with_reducible refine Kd.C_drewN ?_ _)|(with_reducible refine Kd.C_drew ?_)));(case side2=>exact HC0_0.out);rintro e w29 ⟨rfl,hb⟩;refine ⟨_,rfl,?_⟩;have n0_:=Z (Kd.R_below (pR HO_7) hb);have n1_:=Z (Kd.R_below (pR HO_38) hb);have n2_:=Z (blk_below (g:=gb293) (o:=.cells #[.slice (some ad295) l0_0.length c0_0] 27 (0,0)) (pK BK293) hb);have n3_:=Z (below_step pB hb);clear HO_7;clear HO_38;clear BK293;clear HB;have HO_7:=n0_;have HO_38:=n1_;have BK293:=n2_;have HB:=n3_;clear n0_ n1_ n2_ n3_;(try clear hb);(try clear hb2);(try clear hk);(try clear hi))|((with_reducible refine gate_builtin (b:=.append) (xs:=#[.tmp 48,.tmp 50]) rfl ?_);(try (refine gate_guard (by rfl) ?_;dsimp only));at_builtin;refine Kd.R_append (Kd.int .i64) (w0:=w) w.heap.size rfl (.tmp 48) (.tmp 50) 22 3 (.int .i64 0) 8 rfl Try.underlying22 info3 rfl (by decide) (by omega) u7 x7_2 (rd t298 x40_2) [.int .i64 (rd t298 x40_2)] (fun k_=>some k_ ≠ (.slice (some ad301) t298.length co21:Value).ownBlock) (fun _=>False) rfl rfl ?aP (fun _ hk=>hk.elim) ?aF ?aO ?aB ?aS ?aL ?_;(case aP=>exact rfl);(case aB=>exact pB);(case aF=>exact (fun k_ hk=>Kd.fresh' (Kd.R_lt (pR HO_38)) k_ hk));(case aO=>exact (pR HO_7));(case aS=>exact (below_size pB));(case aL=>have:=LMc27.out;omega);intro v304 w30 ho hb hg hat;rw [← Ny303.out] at ho;have n0_:=Z (Kd.R_after (ok:=(fun _=>True)) (by (with_reducible repeat (first|apply Kd.R_alloc|apply Kd.R_drewN|apply Kd.R_drew));exact Kd.R_mono HO_38.out (fun _ hk=>⟨trivial,hk⟩)) hg hat);have n1_:=Z (blk_grown (g:=gb293) (o:=.cells #[.slice (some ad295) l0_0.length c0_0] 27 (0,0)) (pK BK293) hg (Kd.R_ne HO_7.out BK293.out (by decide)));have n2_:=Z (hb);have n3_:=Z (ho);clear HO_38;clear BK293;clear HB;clear HO_7;have HO_38:=n0_;have BK293:=n1_;have HB:=n2_;have HO305:=n3_;clear n0_ n1_ n2_ n3_;clear ho hb hg hat))
               go_roundg k2
               case measure=>have:=HJ4.out;have:=HK2.out;omega
               case rel=>exact ⟨(y303),(wrap64 (x40_2+1)),pE,H',⟨by have:=HJ4.out;have:=HK2.out;omega⟩,⟨pR HO305⟩,⟨by (with_reducible repeat (first|apply Kd.R_alloc|apply Kd.R_drewN|apply Kd.R_drew));exact Kd.R_mono HO_38.out (fun _ hk=>hk.2)⟩,⟨pK BK293⟩,⟨pB⟩⟩
              ·rw [if_neg c27] at H
               exact absurd H (by simp)
             ·replace c26:=Bool.eq_false_iff.mpr c26
              subst c26
              rw [if_neg (show ¬ (false=true) by decide)] at H
              have H':=Z H
              clear H
              have p301:0≤(x40_2:Int):=of_decide_eq_true (by first|(with_reducible assumption)|assumption)
              have q301:x40_2 < (t298.length:Int):=of_decide_eq_true (by first|(with_reducible assumption)|assumption)
              obtain ⟨ad301,e301,hx301_0⟩:=Kd.at_int (Kd.R_reads' HO_38.out).2.2 x40_2 p301 q301
              cases e301
              replace p301:=eq_true p301
              replace q301:=eq_true q301
              have hcz31_0:wr.cell? ⟨gb293,0,none⟩=some (.slice (some ad295) l0_0.length c0_0):=(kC BK293.out 0).trans rfl
              have hfz31_0:=kF BK293.out 0
              go_wp2_with (first|((with_reducible refine gate_callee (f:=19) rfl ?_);refine goesL_ (some 47) rfl rfl Try.func19 (by kernel_rfl) rfl #[.agg #[.slice (some ad295) l0_0.length c0_0],.int .i64 a1,.int .i64 (rd t298 x40_2)] rfl pG ?_;(with_reducible refine (blocking_Blocks.calls k2 _ _ l0_0 a1 (rd t298 x40_2) false _ ?side1 ?side2 A25.out).mono ?_);(case side1=>repeat (first|exact (Kd.C_below HR0_0.out HB.out)|(with_reducible refine Kd.C_alloc ?_ _)|(with_reducible refine Kd.C_drewN ?_ _)|(with_reducible refine Kd.C_drew ?_)));(case side2=>exact HC0_0.out);rintro e w32 ⟨rfl,hb⟩;refine ⟨_,rfl,?_⟩;have n0_:=Z (Kd.R_below (pR HO_7) hb);have n1_:=Z (Kd.R_below (pR HO_38) hb);have n2_:=Z (blk_below (g:=gb293) (o:=.cells #[.slice (some ad295) l0_0.length c0_0] 27 (0,0)) (pK BK293) hb);have n3_:=Z (below_step pB hb);clear HO_7;clear HO_38;clear BK293;clear HB;have HO_7:=n0_;have HO_38:=n1_;have BK293:=n2_;have HB:=n3_;clear n0_ n1_ n2_ n3_;(try clear hb);(try clear hb2);(try clear hk);(try clear hi)))
              go_roundg k2
              case measure=>have:=HJ4.out;have:=HK2.out;omega
              case rel=>exact ⟨(x7_2),(wrap64 (x40_2+1)),pE,H',⟨by have:=HJ4.out;have:=HK2.out;omega⟩,⟨pR HO_7⟩,⟨pR HO_38⟩,⟨pK BK293⟩,⟨pB⟩⟩
            ·rw [if_neg c24] at H
             exact absurd H (by simp)
           ·rw [if_neg c23] at H
            exact absurd H (by simp)
          ·rw [if_neg c22] at H
           have c22b0:decide (x40_2 < (t298.length:Int))=false:=decide_eq_false c22
           clear c22
           replace H:=Option.bind_eq_some_iff.mp H
           obtain ⟨t306,A330,H⟩:=H
           try dsimp only at H
           have A33:=Z A330
           clear A330
           simp only [Option.some.injEq,Prod.mk.injEq] at H
           obtain ⟨rfl,rfl⟩:=H
           obtain ⟨Ao34,co34,eo34⟩:=Kd.R_slice HO_7.out
           subst eo34
           go_wp2_with (first|((with_reducible refine gate_callee (f:=66) rfl ?_);refine goesL_ (some 54) rfl rfl Try.func66 (by kernel_rfl) rfl #[.slice Ao34 x7_2.length co34] rfl pG ?_;(with_reducible refine (nodeset_Least.calls _ _ x7_2 t306 _ ?side1 ?side2 A33.out).mono ?_);(case side1=>repeat (first|exact (Kd.R_reads' HO_7.out).2.2|(with_reducible refine Kd.C_alloc ?_ _)|(with_reducible refine Kd.C_drewN ?_ _)|(with_reducible refine Kd.C_drew ?_)));(case side2=>exact (Kd.R_reads' HO_7.out).2.1);rintro e w35 ⟨v307,rfl,ho0,hb⟩;refine ⟨_,rfl,?_⟩;have n0_:=Z (Kd.R_elder' (pR HO_7) (Kd.R_base ho0) hb);have n1_:=Z (Kd.R_elder' (pR HO_38) (Kd.R_base ho0) hb);have n2_:=Z (Kd.R_lower (Kd.R_new' (Kd.R_new' ho0 (Kd.R_lt (pR HO_7))) (Kd.R_lt (pR HO_38))) (below_size pB));have n3_:=Z (blk_below (g:=gb293) (o:=.cells #[.slice (some ad295) l0_0.length c0_0] 27 (0,0)) (pK BK293) hb);have n4_:=Z (below_step pB hb);clear HO_7;clear HO_38;clear BK293;clear HB;have HO_7:=n0_;have HO_38:=n1_;have HO308:=n2_;have BK293:=n3_;have HB:=n4_;clear n0_ n1_ n2_ n3_ n4_;(try clear hb);(try clear hb2);(try clear hk);(try clear hi);(try clear ho0)))
           go_ret2
           exact ⟨_,pF,by (with_reducible repeat (first|apply Kd.R_alloc|apply Kd.R_drewN|apply Kd.R_drew));exact Kd.R_mono HO308.out (fun _ hk=>trivial),pB⟩
       ·replace c15:=Bool.eq_false_iff.mpr c15
        subst c15
        rw [if_neg (show ¬ (false=true) by decide)] at H
        simp only [Option.some.injEq,Prod.mk.injEq] at H
        obtain ⟨rfl,rfl⟩:=H
        have hcz36_0:wc.cell? ⟨gb293,0,none⟩=some (.slice A0_0 l0_0.length c0_0):=(kC BK293.out 0).trans rfl
        have hfz36_0:=kF BK293.out 0
        have p295:0≤(a1:Int):=of_decide_eq_true (by first|(with_reducible assumption)|assumption)
        have q295:a1 < (l0_0.length:Int):=of_decide_eq_true (by first|(with_reducible assumption)|assumption)
        obtain ⟨ad295,A295_2,c295_2,A295_3,c295_3,e295,hx295_0,hx295_1,hx295_2,hx295_3,hl295_2,hi295_2,hl295_3,hi295_3⟩:=at_T34 HR0_0.out a1 p295 q295
        (try rw [← Nbq14.out] at hx295_0)
        cases e295
        replace hx295_0:=(HB.out.cell (World.block_lt_of_cell? w _ hx295_0)).trans hx295_0
        replace hx295_1:=(HB.out.cell (World.block_lt_of_cell? w _ hx295_1)).trans hx295_1
        replace hx295_2:=(HB.out.cell (World.block_lt_of_cell? w _ hx295_2)).trans hx295_2
        replace hx295_3:=(HB.out.cell (World.block_lt_of_cell? w _ hx295_3)).trans hx295_3
        have HR295_2:=Z hi295_2
        have HC295_2:=Z hl295_2
        clear hi295_2 hl295_2
        have HR295_3:=Z hi295_3
        have HC295_3:=Z hl295_3
        clear hi295_3 hl295_3
        replace p295:=eq_true p295
        replace q295:=eq_true q295
        go_wp2
        go_ret2
        exact ⟨_,pF,pN,pB⟩
      ·rw [if_neg c13] at H
       exact absurd H (by simp)
     ·rw [if_neg c12] at H
      exact absurd H (by simp)
 ·rw [if_neg c4] at H
  have c4b0:(t294 == 0)=false:=beq_eq_false_iff_ne.mpr c4
  have c4b1:(t294 != 0)=true:=bne_iff_ne.mpr c4
  simp only [Option.some.injEq,Prod.mk.injEq] at H
  obtain ⟨rfl,rfl⟩:=H
  go_enter Try.func21,Try.ntmps21
  go_wp2_with (first|((with_reducible refine gate_dst (N:=2) rfl ?_);(try (refine gate_guard (by rfl) ?_;dsimp only));refine box_event ?hg (N:=2) ?hd (cs:=#[.slice A0_0 l0_0.length c0_0]) (t:=27) ?hr ?_;(case hd=>rfl);(case hg=>rfl);(case hr=>first|(go_simp;done)|(go_simp;rfl));intro gb293 hg w37 hbox hb;have n0_:=Z (below_step pB hb);have n1_:=Z (hbox);have n2_:=Z ((pT hg:w.heap.size≤gb293));have n3_:=Z ((pT hg:w.heap.size≤gb293));clear HB;have HB:=n0_;have BK293:=n1_;have GW293:=n2_;have GE293:=n3_;clear n0_ n1_ n2_ n3_;clear hb hbox hg;have hcz38_0:w37.cell? ⟨gb293,0,none⟩=some (.slice A0_0 l0_0.length c0_0):=(kC BK293.out 0).trans rfl;have hfz38_0:=kF BK293.out 0)|((with_reducible refine gate_callee (f:=63) rfl ?_);refine goesL_ (some 11) rfl rfl Try.func63 (by kernel_rfl) rfl #[.agg #[.slice A0_0 l0_0.length c0_0]] rfl pG ?_;(with_reducible refine (configuration_Valid.calls k _ _ l0_0 t294 _ ?side1 ?side2 A3.out).mono ?_);(case side1=>repeat (first|exact (Kd.C_below HR0_0.out HB.out)|(with_reducible refine Kd.C_alloc ?_ _)|(with_reducible refine Kd.C_drewN ?_ _)|(with_reducible refine Kd.C_drew ?_)));(case side2=>exact HC0_0.out);rintro e w39 ⟨rfl,hb⟩;refine ⟨_,rfl,?_⟩;have n0_:=Z (blk_below (g:=gb293) (o:=.cells #[.slice A0_0 l0_0.length c0_0] 27 (0,0)) (pK BK293) hb);have n1_:=Z (below_step pB hb);clear BK293;clear HB;have BK293:=n0_;have HB:=n1_;clear n0_ n1_;(try clear hb);(try clear hb2);(try clear hk);(try clear hi)))
  go_ret2
  exact ⟨_,pF,pN,pB⟩
end Go.Proofs.Ytkjlcbfjllpcnaa.X
namespace Go.Proofs.Ytkjlcbfjllpcnaa.X
open Go.RowKit Go.Proofs.YtkjlcbfjllpcnaaW.PrintWords Go.Proofs.YtkjlcbfjllpcnaaW.PrintLast Go.Proofs.YtkjlcbfjllpcnaaW.PrintMore
set_option linter.unusedVariables false
def mem3:S34:=⟨true,⟨2,[0,1,2],[]⟩⟩
def trustquorumlaw11_three.f:Option (List S34):=some [mem3,mem3,mem3]
theorem R_lit_ints (W : World) (base : Nat) (ok : Nat → Prop) (xs : List Int) (hb : base ≤ W.heap.size) (hok : ok W.heap.size) (hm : xs.length ≤ 9223372036854775807) :
    RI (W.alloc (.cells (nums .i64 xs).toArray 3)) base ok (.slice (some ⟨W.heap.size, 0, none⟩) xs.length xs.length) xs :=
  R_of_own (fun k hk => by have : W.heap.size = k := by simpa [Value.ownBlock] using hk
                           subst this; exact hok) (own_lit W base 3 .i64 xs hb hm)
theorem R_elderN {α:Type} {d:Kd α} {e base:Nat} {ok:Nat→Prop} {W:World} {v:Value} {xs:List α} (h:d.R e W base ok v xs) (u:Value) (hu:∀ k,u.ownBlock=some k→W.heap.size≤k):d.R e W base (fun k=>True∧some k ≠ u.ownBlock) v xs :=
 Kd.R_mono (Kd.R_bound h) (fun k hk=>⟨trivial,fun he=>by have:=hu k he.symm;have:=hk.2.2.1;omega⟩)
set_option maxHeartbeats 4000000 in
theorem trustquorumlaw11_three.calls (r : List S34) (w : World) (h : trustquorumlaw11_three.f = some r) : Calls Try.prog 55 #[] w fun e w' => ∃ v0_ : Value, e = .returned (.agg #[v0_]) ∧ Kd.R k34 34 w' w.heap.size (fun _ => True) v0_ r ∧ Below w.heap.size w w' := by
  obtain rfl := Option.some.inj h
  have hu32 := Try.underlying32
  have hu27 := Try.underlying27
  have hu34 := Try.underlying34
  have hu3 := Try.underlying3
  go_enter Try.func55, Try.ntmps55
  go_wp2
  refine bodyPost_ret (results_cell_row rfl _ _ w.heap.size 27 #[.slice (some ⟨w.heap.size + 1 + 1 + 1, 0, none⟩) 3 3] (0, 0) _ rfl (kA (kA (kA (heap_alloc_new _ _) _) _) _) Try.underlying27 rfl (by kernel_rfl)) rfl ?_
  refine ⟨_, rfl, ?_, wA (wA (wA (wA (Below.refl _ _) _) _) _) _⟩
  have h1 := R_lit_ints (w.alloc (.cells #[.slice (some ⟨w.heap.size + 1 + 1 + 1, 0, none⟩) 3 3] 27)) w.heap.size (fun _ => True) [0, 1, 2] (by simp) trivial (by simp)
  have h2 := Kd.R_alloc h1 (.cells #[.int .i64 2, .slice (some ⟨w.heap.size + 1, 0, none⟩) 3 3, .slice none 0 0] 32)
  obtain ⟨W, hW⟩ : ∃ W, W = ((w.alloc (.cells #[.slice (some ⟨w.heap.size + 1 + 1 + 1, 0, none⟩) 3 3] 27)).alloc (.cells #[.int .i64 0, .int .i64 1, .int .i64 2] 3)).alloc (.cells #[.int .i64 2, .slice (some ⟨w.heap.size + 1, 0, none⟩) 3 3, .slice none 0 0] 32) := ⟨_, rfl⟩
  have hs : W.heap.size = w.heap.size + 1 + 1 + 1 := by rw [hW]; simp
  have h3 : RI W w.heap.size (fun _ => True) (.slice (some ⟨w.heap.size + 1, 0, none⟩) 3 3) [0, 1, 2] := by rw [hW]; simpa [nums] using h2
  have h4 := R_elderN h3 (.slice (some ⟨W.heap.size, 0, none⟩) 3 3) (fun k hk => by have : W.heap.size = k := by simpa [Value.ownBlock] using hk
                                                                                    omega)
  rw [← hW, ← hs]
  have hM : ∀ W', Below W.heap.size W W' → k34.M W' w.heap.size (fun k => True ∧ some k ≠ (Value.slice (some ⟨W.heap.size, 0, none⟩) 3 3).ownBlock) mem3 [.bool true, .int .i64 2, .slice (some ⟨w.heap.size + 1, 0, none⟩) 3 3, .slice none 0 0] := fun W' hb =>
    k34_mkM W' w.heap.size _ mem3 (Kd.R_below h4 hb) (Kd.R_nil _ _ _ _ _)
  have hM' := hM (W.alloc (.cells #[.bool true, .int .i64 2, .slice (some ⟨w.heap.size + 1, 0, none⟩) 3 3, .slice none 0 0, .bool true, .int .i64 2, .slice (some ⟨w.heap.size + 1, 0, none⟩) 3 3, .slice none 0 0, .bool true, .int .i64 2, .slice (some ⟨w.heap.size + 1, 0, none⟩) 3 3, .slice none 0 0] 34)) (wA (Below.refl _ _) _)
  exact ⟨fun _ _ => trivial, OwnRow.lit W w.heap.size (Reps.snoc (Reps.snoc (Reps.snoc (Reps.none _ 4) hM' rfl) hM' rfl) hM' rfl) (by omega) (by simp)⟩
end Go.Proofs.Ytkjlcbfjllpcnaa.X
namespace Go.Proofs.Ytkjlcbfjllpcnaa.X
open Go.RowKit Go.Proofs.YtkjlcbfjllpcnaaW.PrintWords Go.Proofs.YtkjlcbfjllpcnaaW.PrintLast Go.Proofs.YtkjlcbfjllpcnaaW.PrintMore
attribute [local go_sem] max2_int min2_int max_two min_two max_three min_three max_four min_four
set_option linter.unusedVariables false
set_option linter.unusedSimpArgs false
def trustquorumlaw11_awake.f (k:Nat) :Option (Bool):=(trustquorumlaw11_three.f).bind fun t331=>((blocking_Least.f k t331 0).bind fun bt334=>((trustquorumlaw11_three.f).bind fun t338=>((blocking_Cascade.f k t338 6).bind fun bt341=>((trustquorumlaw11_three.f).bind fun t345=>((blocking_Cascade.f k t345 2).bind fun bt348=>(if bt334.2=0 then ((trustquorummake_Ints.f k bt334.1 (([6]:List Int))).bind fun t355=>(if t355=true then ((trustquorummake_Ints.f k bt341.1 (([0]:List Int))).bind fun t359=>(if t359=true then (if bt341.2=7 then (if (bt348.1.length:Int)=0 then (if bt348.2=2 then ((trustquorumlaw11_three.f).bind fun t360=>((blocking_Blocks.f k t360 0 6).bind fun t363=>(some t363))) else (some false)) else (some false)) else (some false)) else (some false))) else (some false))) else (some false)))))))
set_option maxHeartbeats 8000000 in
set_option maxRecDepth 100000 in
theorem trustquorumlaw11_awake.calls (k:Nat)  (w:World) (h:trustquorumlaw11_awake.f k =some true) :
  Calls Try.prog 17 #[] w fun e w'=>e=.returned (.bool true)∧Below w.heap.size w w':=by
 have HB:=Z (Below.refl w.heap.size w)
 have H:((trustquorumlaw11_three.f).bind fun t331=>((blocking_Least.f k t331 0).bind fun bt334=>((trustquorumlaw11_three.f).bind fun t338=>((blocking_Cascade.f k t338 6).bind fun bt341=>((trustquorumlaw11_three.f).bind fun t345=>((blocking_Cascade.f k t345 2).bind fun bt348=>(if bt334.2=0 then ((trustquorummake_Ints.f k bt334.1 (([6]:List Int))).bind fun t355=>(if t355=true then ((trustquorummake_Ints.f k bt341.1 (([0]:List Int))).bind fun t359=>(if t359=true then (if bt341.2=7 then (if (bt348.1.length:Int)=0 then (if bt348.2=2 then ((trustquorumlaw11_three.f).bind fun t360=>((blocking_Blocks.f k t360 0 6).bind fun t363=>(some t363))) else (some false)) else (some false)) else (some false)) else (some false))) else (some false))) else (some false))))))))=some true:=h
 clear h
 replace H:=Option.bind_eq_some_iff.mp H
 obtain ⟨t331,A10,H⟩:=H
 try dsimp only at H
 have A1:=Z A10
 clear A10
 replace H:=Option.bind_eq_some_iff.mp H
 obtain ⟨⟨t334,t337⟩,A20,H⟩:=H
 try dsimp only at H
 have A2:=Z A20
 clear A20
 replace H:=Option.bind_eq_some_iff.mp H
 obtain ⟨t338,A30,H⟩:=H
 try dsimp only at H
 have A3:=Z A30
 clear A30
 replace H:=Option.bind_eq_some_iff.mp H
 obtain ⟨⟨t341,t344⟩,A40,H⟩:=H
 try dsimp only at H
 have A4:=Z A40
 clear A40
 replace H:=Option.bind_eq_some_iff.mp H
 obtain ⟨t345,A50,H⟩:=H
 try dsimp only at H
 have A5:=Z A50
 clear A50
 replace H:=Option.bind_eq_some_iff.mp H
 obtain ⟨⟨t348,t351⟩,A60,H⟩:=H
 try dsimp only at H
 have A6:=Z A60
 clear A60
 by_cases c7:t337=0
 ·rw [if_pos c7] at H
  have c7b0:(t337 == 0)=true:=beq_iff_eq.mpr c7
  have c7b1:(t337 != 0)=false:=bne_eq_false_iff_eq.mpr c7
  clear c7
  obtain ⟨y352,hy352⟩:∃ y_:List Int,y_=(([6]:List Int)):=⟨_,rfl⟩
  first|rw [← hy352] at H|(replace H:=(Option.bind_some _ _).symm.trans H;rw [← hy352] at H)
  have Ny352:=Z hy352
  clear hy352
  replace H:=Option.bind_eq_some_iff.mp H
  obtain ⟨t355,A80,H⟩:=H
  try dsimp only at H
  have A8:=Z A80
  clear A80
  by_cases c9:t355=true
  ·subst c9
   rw [if_pos rfl] at H
   obtain ⟨y356,hy356⟩:∃ y_:List Int,y_=(([0]:List Int)):=⟨_,rfl⟩
   first|rw [← hy356] at H|(replace H:=(Option.bind_some _ _).symm.trans H;rw [← hy356] at H)
   have Ny356:=Z hy356
   clear hy356
   replace H:=Option.bind_eq_some_iff.mp H
   obtain ⟨t359,A100,H⟩:=H
   try dsimp only at H
   have A10:=Z A100
   clear A100
   by_cases c11:t359=true
   ·subst c11
    rw [if_pos rfl] at H
    by_cases c12:t344=7
    ·rw [if_pos c12] at H
     have c12b0:(t344 == 7)=true:=beq_iff_eq.mpr c12
     have c12b1:(t344 != 7)=false:=bne_eq_false_iff_eq.mpr c12
     clear c12
     by_cases c13:(t348.length:Int)=0
     ·rw [if_pos c13] at H
      have c13b0:((t348.length:Int) == 0)=true:=beq_iff_eq.mpr c13
      have c13b1:((t348.length:Int) != 0)=false:=bne_eq_false_iff_eq.mpr c13
      clear c13
      by_cases c14:t351=2
      ·rw [if_pos c14] at H
       have c14b0:(t351 == 2)=true:=beq_iff_eq.mpr c14
       have c14b1:(t351 != 2)=false:=bne_eq_false_iff_eq.mpr c14
       clear c14
       replace H:=Option.bind_eq_some_iff.mp H
       obtain ⟨t360,A150,H⟩:=H
       try dsimp only at H
       have A15:=Z A150
       clear A150
       replace H:=Option.bind_eq_some_iff.mp H
       obtain ⟨t363,A160,H⟩:=H
       try dsimp only at H
       have A16:=Z A160
       clear A160
       have HT:=Z (Option.some.inj H)
       clear H
       go_enter Try.func17,Try.ntmps17
       go_wp2_with (first|((with_reducible refine gate_callee (f:=55) rfl ?_);refine goesL_ (some 8) rfl rfl Try.func55 (by kernel_rfl) rfl #[] rfl pG ?_;(with_reducible refine (trustquorumlaw11_three.calls  t331 _ A1.out).mono ?_);rintro e w17 ⟨v332,rfl,ho0,hb⟩;refine ⟨_,rfl,?_⟩;have n0_:=Z (Kd.R_lower ho0 (below_size pB));have n1_:=Z (below_step pB hb);clear HB;have HO333:=n0_;have HB:=n1_;clear n0_ n1_;(try clear hb);(try clear hb2);(try clear hk);(try clear hi);(try clear ho0);obtain ⟨Ao18,co18,eo18⟩:=Kd.R_slice HO333.out;subst eo18)|((with_reducible refine gate_callee (f:=21) rfl ?_);refine goesL_ (some 9) rfl rfl Try.func21 (by kernel_rfl) rfl #[.agg #[.slice Ao18 t331.length co18],.int .i64 0] rfl pG ?_;(with_reducible refine (blocking_Least.calls k _ _ t331 0 t334 t337 _ ?side1 ?side2 A2.out).mono ?_);(case side1=>repeat (first|exact (Kd.R_reads' HO333.out).2.2|(with_reducible refine Kd.C_alloc ?_ _)|(with_reducible refine Kd.C_drewN ?_ _)|(with_reducible refine Kd.C_drew ?_)));(case side2=>exact (Kd.R_reads' HO333.out).2.1);rintro e w19 ⟨v335,rfl,ho0,hb⟩;refine ⟨_,rfl,?_⟩;have n0_:=Z (Kd.R_elder' (pR HO333) (Kd.R_base ho0) hb);have n1_:=Z (Kd.R_lower ho0 (below_size pB));have n2_:=Z (below_step pB hb);clear HO333;clear HB;have HO333:=n0_;have HO336:=n1_;have HB:=n2_;clear n0_ n1_ n2_;(try clear hb);(try clear hb2);(try clear hk);(try clear hi);(try clear ho0))|((with_reducible refine gate_callee (f:=55) rfl ?_);refine goesL_ (some 13) rfl rfl Try.func55 (by kernel_rfl) rfl #[] rfl pG ?_;(with_reducible refine (trustquorumlaw11_three.calls  t338 _ A3.out).mono ?_);rintro e w20 ⟨v339,rfl,ho0,hb⟩;refine ⟨_,rfl,?_⟩;have n0_:=Z (Kd.R_elder' (pR HO333) (Kd.R_base ho0) hb);have n1_:=Z (Kd.R_below (pR HO336) hb);have n2_:=Z (Kd.R_lower (Kd.R_new' (Kd.R_new' ho0 (Kd.R_lt (pR HO333))) (Kd.R_lt (pR HO336))) (below_size pB));have n3_:=Z (below_step pB hb);clear HO333;clear HO336;clear HB;have HO333:=n0_;have HO336:=n1_;have HO340:=n2_;have HB:=n3_;clear n0_ n1_ n2_ n3_;(try clear hb);(try clear hb2);(try clear hk);(try clear hi);(try clear ho0);obtain ⟨Ao21,co21,eo21⟩:=Kd.R_slice HO340.out;subst eo21)|((with_reducible refine gate_callee (f:=23) rfl ?_);refine goesL_ (some 14) rfl rfl Try.func23 (by kernel_rfl) rfl #[.agg #[.slice Ao21 t338.length co21],.int .i64 6] rfl pG ?_;(with_reducible refine (blocking_Cascade.calls k _ _ t338 6 t341 t344 _ ?side1 ?side2 A4.out).mono ?_);(case side1=>repeat (first|exact (Kd.R_reads' HO340.out).2.2|(with_reducible refine Kd.C_alloc ?_ _)|(with_reducible refine Kd.C_drewN ?_ _)|(with_reducible refine Kd.C_drew ?_)));(case side2=>exact (Kd.R_reads' HO340.out).2.1);rintro e w22 ⟨v342,rfl,ho0,hb⟩;refine ⟨_,rfl,?_⟩;have n0_:=Z (Kd.R_elder' (pR HO333) (Kd.R_base ho0) hb);have n1_:=Z (Kd.R_elder' (pR HO336) (Kd.R_base ho0) hb);have n2_:=Z (Kd.R_elder' (pR HO340) (Kd.R_base ho0) hb);have n3_:=Z (Kd.R_lower (Kd.R_new' ho0 (Kd.R_lt (pR HO336))) (below_size pB));have n4_:=Z (below_step pB hb);clear HO333;clear HO336;clear HO340;clear HB;have HO333:=n0_;have HO336:=n1_;have HO340:=n2_;have HO343:=n3_;have HB:=n4_;clear n0_ n1_ n2_ n3_ n4_;(try clear hb);(try clear hb2);(try clear hk);(try clear hi);(try clear ho0))|((with_reducible refine gate_callee (f:=55) rfl ?_);refine goesL_ (some 18) rfl rfl Try.func55 (by kernel_rfl) rfl #[] rfl pG ?_;(with_reducible refine (trustquorumlaw11_three.calls  t345 _ A5.out).mono ?_);rintro e w23 ⟨v346,rfl,ho0,hb⟩;refine ⟨_,rfl,?_⟩;have n0_:=Z (Kd.R_elder' (pR HO333) (Kd.R_base ho0) hb);have n1_:=Z (Kd.R_below (pR HO336) hb);have n2_:=Z (Kd.R_elder' (pR HO340) (Kd.R_base ho0) hb);have n3_:=Z (Kd.R_below (pR HO343) hb);have n4_:=Z (Kd.R_lower (Kd.R_new' (Kd.R_new' (Kd.R_new' (Kd.R_new' ho0 (Kd.R_lt (pR HO333))) (Kd.R_lt (pR HO336))) (Kd.R_lt (pR HO340))) (Kd.R_lt (pR HO343))) (below_size pB));have n5_:=Z (below_step pB hb);clear HO333;clear HO336;clear HO340;clear HO343;clear HB;have HO333:=n0_;have HO336:=n1_;have HO340:=n2_;have HO343:=n3_;have HO347:=n4_;have HB:=n5_;clear n0_ n1_ n2_ n3_ n4_ n5_;(try clear hb);(try clear hb2);(try clear hk);(try clear hi);(try clear ho0);obtain ⟨Ao24,co24,eo24⟩:=Kd.R_slice HO347.out;subst eo24)|((with_reducible refine gate_callee (f:=23) rfl ?_);refine goesL_ (some 19) rfl rfl Try.func23 (by kernel_rfl) rfl #[.agg #[.slice Ao24 t345.length co24],.int .i64 2] rfl pG ?_;(with_reducible refine (blocking_Cascade.calls k _ _ t345 2 t348 t351 _ ?side1 ?side2 A6.out).mono ?_);(case side1=>repeat (first|exact (Kd.R_reads' HO347.out).2.2|(with_reducible refine Kd.C_alloc ?_ _)|(with_reducible refine Kd.C_drewN ?_ _)|(with_reducible refine Kd.C_drew ?_)));(case side2=>exact (Kd.R_reads' HO347.out).2.1);rintro e w25 ⟨v349,rfl,ho0,hb⟩;refine ⟨_,rfl,?_⟩;have n0_:=Z (Kd.R_elder' (pR HO333) (Kd.R_base ho0) hb);have n1_:=Z (Kd.R_elder' (pR HO336) (Kd.R_base ho0) hb);have n2_:=Z (Kd.R_elder' (pR HO340) (Kd.R_base ho0) hb);have n3_:=Z (Kd.R_elder' (pR HO343) (Kd.R_base ho0) hb);have n4_:=Z (Kd.R_elder' (pR HO347) (Kd.R_base ho0) hb);have n5_:=Z (Kd.R_lower (Kd.R_new' (Kd.R_new' ho0 (Kd.R_lt (pR HO336))) (Kd.R_lt (pR HO343))) (below_size pB));have n6_:=Z (below_step pB hb);clear HO333;clear HO336;clear HO340;clear HO343;clear HO347;clear HB;have HO333:=n0_;have HO336:=n1_;have HO340:=n2_;have HO343:=n3_;have HO347:=n4_;have HO350:=n5_;have HB:=n6_;clear n0_ n1_ n2_ n3_ n4_ n5_ n6_;(try clear hb);(try clear hb2);(try clear hk);(try clear hi);(try clear ho0))|((with_reducible refine gate_dst (N:=26) rfl ?_);(try (refine gate_guard (by rfl) ?_;dsimp only));refine Kd.R_lit (Kd.int .i64) _ 3 ?hg (N:=26) ?hd (xs:=([6]:List Int)) (inner:=[.int .i64 6]) (ok:=fun _=>True) (okp:=fun _=>True) ?hr ?hp (fun _ hk=>hk) trivial (Below.refl _ _) (Nat.le_refl _) (by simp) ?_;(case hd=>rfl);(case hg=>rfl);(case hr=>first|(go_simp;done)|(go_simp;rfl));(case hp=>exact (Reps.one (show Kd.M (Kd.int .i64) _ _ _ 6 [.int .i64 6] from rfl) (Reps.none _ _)));intro v353 w26 ho27 hb hg_ hnew_;clear hg_ hnew_;(first|rw [← Ny352.out] at ho27|(simp only [Int.reduceToNat] at ho27;rw [← Ny352.out] at ho27));have n0_:=Z (Kd.R_elder' (pR HO333) (Kd.R_base ho27) hb);have n1_:=Z (Kd.R_elder' (pR HO336) (Kd.R_base ho27) hb);have n2_:=Z (Kd.R_elder' (pR HO340) (Kd.R_base ho27) hb);have n3_:=Z (Kd.R_elder' (pR HO343) (Kd.R_base ho27) hb);have n4_:=Z (Kd.R_elder' (pR HO347) (Kd.R_base ho27) hb);have n5_:=Z (Kd.R_elder' (pR HO350) (Kd.R_base ho27) hb);have n6_:=Z (Kd.R_lower (Kd.R_new' (Kd.R_new' (Kd.R_new' ho27 (Kd.R_lt (pR HO336))) (Kd.R_lt (pR HO343))) (Kd.R_lt (pR HO350))) (below_size pB));have n7_:=Z (below_step pB hb);clear HO333;clear HO336;clear HO340;clear HO343;clear HO347;clear HO350;clear HB;have HO333:=n0_;have HO336:=n1_;have HO340:=n2_;have HO343:=n3_;have HO347:=n4_;have HO350:=n5_;have HO354:=n6_;have HB:=n7_;clear n0_ n1_ n2_ n3_ n4_ n5_ n6_ n7_;clear hb ho27;obtain ⟨Ao28,co28,eo28⟩:=Kd.R_slice HO336.out;subst eo28;obtain ⟨Ao29,co29,eo29⟩:=Kd.R_slice HO354.out;subst eo29)|(go_at_call 22;(with_reducible refine (trustquorummake_Ints.calls k _ _ t334 _ _ y352 true _ ?side1 ?side2 ?side3 ?side4 A8.out).mono ?_);(case side1=>repeat (first|exact (Kd.R_reads' HO336.out).2.2|(with_reducible refine Kd.C_alloc ?_ _)|(with_reducible refine Kd.C_drewN ?_ _)|(with_reducible refine Kd.C_drew ?_)));(case side2=>exact (Kd.R_reads' HO336.out).2.1);(case side3=>repeat (first|exact (Kd.R_reads' HO354.out).2.2|(with_reducible refine Kd.C_alloc ?_ _)|(with_reducible refine Kd.C_drewN ?_ _)|(with_reducible refine Kd.C_drew ?_)));(case side4=>exact (Kd.R_reads' HO354.out).2.1);rintro e w' ⟨rfl,⟨nd,rfl⟩⟩)|((with_reducible refine gate_dst (N:=31) rfl ?_);(try (refine gate_guard (by rfl) ?_;dsimp only));refine Kd.R_lit (Kd.int .i64) _ 3 ?hg (N:=31) ?hd (xs:=([0]:List Int)) (inner:=[.int .i64 0]) (ok:=fun _=>True) (okp:=fun _=>True) ?hr ?hp (fun _ hk=>hk) trivial (Below.refl _ _) (Nat.le_refl _) (by simp) ?_;(case hd=>rfl);(case hg=>rfl);(case hr=>first|(go_simp;done)|(go_simp;rfl));(case hp=>exact (Reps.one (show Kd.M (Kd.int .i64) _ _ _ 0 [.int .i64 0] from rfl) (Reps.none _ _)));intro v357 w30 ho31 hb hg_ hnew_;clear hg_ hnew_;(first|rw [← Ny356.out] at ho31|(simp only [Int.reduceToNat] at ho31;rw [← Ny356.out] at ho31));have n0_:=Z (Kd.R_elder' (pR HO333) (Kd.R_base ho31) hb);have n1_:=Z (Kd.R_elder' (pR HO336) (Kd.R_base ho31) hb);have n2_:=Z (Kd.R_elder' (pR HO340) (Kd.R_base ho31) hb);have n3_:=Z (Kd.R_elder' (pR HO343) (Kd.R_base ho31) hb);have n4_:=Z (Kd.R_elder' (pR HO347) (Kd.R_base ho31) hb);have n5_:=Z (Kd.R_elder' (pR HO350) (Kd.R_base ho31) hb);have n6_:=Z (Kd.R_elder' (pR HO354) (Kd.R_base ho31) hb);have n7_:=Z (Kd.R_lower (Kd.R_new' (Kd.R_new' (Kd.R_new' (Kd.R_new' ho31 (Kd.R_lt (pR HO336))) (Kd.R_lt (pR HO343))) (Kd.R_lt (pR HO350))) (Kd.R_lt (pR HO354))) (below_size pB));have n8_:=Z (below_step pB hb);clear HO333;clear HO336;clear HO340;clear HO343;clear HO347;clear HO350;clear HO354;clear HB;have HO333:=n0_;have HO336:=n1_;have HO340:=n2_;have HO343:=n3_;have HO347:=n4_;have HO350:=n5_;have HO354:=n6_;have HO358:=n7_;have HB:=n8_;clear n0_ n1_ n2_ n3_ n4_ n5_ n6_ n7_ n8_;clear hb ho31;obtain ⟨Ao32,co32,eo32⟩:=Kd.R_slice HO343.out;subst eo32;obtain ⟨Ao33,co33,eo33⟩:=Kd.R_slice HO358.out;subst eo33)|(go_at_call 22;(with_reducible refine (trustquorummake_Ints.calls k _ _ t341 _ _ y356 true _ ?side1 ?side2 ?side3 ?side4 A10.out).mono ?_);(case side1=>repeat (first|exact (Kd.R_reads' HO343.out).2.2|(with_reducible refine Kd.C_alloc ?_ _)|(with_reducible refine Kd.C_drewN ?_ _)|(with_reducible refine Kd.C_drew ?_)));(case side2=>exact (Kd.R_reads' HO343.out).2.1);(case side3=>repeat (first|exact (Kd.R_reads' HO358.out).2.2|(with_reducible refine Kd.C_alloc ?_ _)|(with_reducible refine Kd.C_drewN ?_ _)|(with_reducible refine Kd.C_drew ?_)));(case side4=>exact (Kd.R_reads' HO358.out).2.1);rintro e w' ⟨rfl,⟨nd,rfl⟩⟩;obtain ⟨Ao34,co34,eo34⟩:=Kd.R_slice HO350.out;subst eo34)|(go_at_call 55;(with_reducible refine (trustquorumlaw11_three.calls  t360 _ A15.out).mono ?_);rintro e w35 ⟨v361,rfl,ho0,hb⟩;have n0_:=Z (Kd.R_elder' (pR HO333) (Kd.R_base ho0) hb);have n1_:=Z (Kd.R_below (pR HO336) hb);have n2_:=Z (Kd.R_elder' (pR HO340) (Kd.R_base ho0) hb);have n3_:=Z (Kd.R_below (pR HO343) hb);have n4_:=Z (Kd.R_elder' (pR HO347) (Kd.R_base ho0) hb);have n5_:=Z (Kd.R_below (pR HO350) hb);have n6_:=Z (Kd.R_below (pR HO354) hb);have n7_:=Z (Kd.R_below (pR HO358) hb);have n8_:=Z (Kd.R_lower (Kd.R_new' (Kd.R_new' (Kd.R_new' (Kd.R_new' (Kd.R_new' (Kd.R_new' (Kd.R_new' (Kd.R_new' ho0 (Kd.R_lt (pR HO333))) (Kd.R_lt (pR HO336))) (Kd.R_lt (pR HO340))) (Kd.R_lt (pR HO343))) (Kd.R_lt (pR HO347))) (Kd.R_lt (pR HO350))) (Kd.R_lt (pR HO354))) (Kd.R_lt (pR HO358))) (below_size pB));have n9_:=Z (below_step pB hb);clear HO333;clear HO336;clear HO340;clear HO343;clear HO347;clear HO350;clear HO354;clear HO358;clear HB;have HO333:=n0_;have HO336:=n1_;have HO340:=n2_;have HO343:=n3_;have HO347:=n4_;have HO350:=n5_;have HO354:=n6_;have HO358:=n7_;have HO362:=n8_;have HB:=n9_;clear n0_ n1_ n2_ n3_ n4_ n5_ n6_ n7_ n8_ n9_;(try clear hb);(try clear hb2);(try clear hk);(try clear hi);(try clear ho0);obtain ⟨Ao36,co36,eo36⟩:=Kd.R_slice HO362.out;subst eo36)|(go_at_call 19;(with_reducible refine (blocking_Blocks.calls k _ _ t360 0 6 t363 _ ?side1 ?side2 A16.out).mono ?_);(case side1=>repeat (first|exact (Kd.R_reads' HO362.out).2.2|(with_reducible refine Kd.C_alloc ?_ _)|(with_reducible refine Kd.C_drewN ?_ _)|(with_reducible refine Kd.C_drew ?_)));(case side2=>exact (Kd.R_reads' HO362.out).2.1);rintro e w37 ⟨rfl,hb⟩;have n0_:=Z (Kd.R_below (pR HO333) hb);have n1_:=Z (Kd.R_below (pR HO336) hb);have n2_:=Z (Kd.R_below (pR HO340) hb);have n3_:=Z (Kd.R_below (pR HO343) hb);have n4_:=Z (Kd.R_below (pR HO347) hb);have n5_:=Z (Kd.R_below (pR HO350) hb);have n6_:=Z (Kd.R_below (pR HO354) hb);have n7_:=Z (Kd.R_below (pR HO358) hb);have n8_:=Z (Kd.R_below (pR HO362) hb);have n9_:=Z (below_step pB hb);clear HO333;clear HO336;clear HO340;clear HO343;clear HO347;clear HO350;clear HO354;clear HO358;clear HO362;clear HB;have HO333:=n0_;have HO336:=n1_;have HO340:=n2_;have HO343:=n3_;have HO347:=n4_;have HO350:=n5_;have HO354:=n6_;have HO358:=n7_;have HO362:=n8_;have HB:=n9_;clear n0_ n1_ n2_ n3_ n4_ n5_ n6_ n7_ n8_ n9_;(try clear hb);(try clear hb2);(try clear hk);(try clear hi)))
       go_ret
       exact ⟨by first|rfl|exact congrArg (fun b_:Bool=>Ending.returned (Value.bool b_)) HT.out|(simp [errW_none,errW_some] <;> rfl)|(simp [*,errW_none,errW_some] <;> rfl),pB⟩
      ·rw [if_neg c14] at H
       have c14b0:(t351 == 2)=false:=beq_eq_false_iff_ne.mpr c14
       have c14b1:(t351 != 2)=true:=bne_iff_ne.mpr c14
       exact absurd H (by simp)
     ·rw [if_neg c13] at H
      have c13b0:((t348.length:Int) == 0)=false:=beq_eq_false_iff_ne.mpr c13
      have c13b1:((t348.length:Int) != 0)=true:=bne_iff_ne.mpr c13
      have c13b2:¬ (t348=[]):=fun h_=>c13 (by rw [h_];rfl)
      exact absurd H (by simp)
    ·rw [if_neg c12] at H
     have c12b0:(t344 == 7)=false:=beq_eq_false_iff_ne.mpr c12
     have c12b1:(t344 != 7)=true:=bne_iff_ne.mpr c12
     exact absurd H (by simp)
   ·replace c11:=Bool.eq_false_iff.mpr c11
    subst c11
    rw [if_neg (show ¬ (false=true) by decide)] at H
    exact absurd H (by simp)
  ·replace c9:=Bool.eq_false_iff.mpr c9
   subst c9
   rw [if_neg (show ¬ (false=true) by decide)] at H
   exact absurd H (by simp)
 ·rw [if_neg c7] at H
  have c7b0:(t337 == 0)=false:=beq_eq_false_iff_ne.mpr c7
  have c7b1:(t337 != 0)=true:=bne_iff_ne.mpr c7
  exact absurd H (by simp)
end Go.Proofs.Ytkjlcbfjllpcnaa.X
namespace Go.Proofs.Ytkjlcbfjllpcnaa.X
open Go.RowKit Go.Proofs.YtkjlcbfjllpcnaaW.PrintWords Go.Proofs.YtkjlcbfjllpcnaaW.PrintLast Go.Proofs.YtkjlcbfjllpcnaaW.PrintMore
set_option linter.unusedVariables false
instance (x y:Int):Decidable (ltS x y):=inferInstanceAs (Decidable (_ ∨ _))
theorem shr_one {s k:Nat} (hs:s < 1024) (hk:k < 10):(Go.bits .and .i64 (shr .i64 (s:Int) (k:Int)) 1)=if s.testBit k=true then 1 else 0:=by
 have hl:s / 2 ^ k≤s:=Nat.div_le_self _ _
 rw [shr_nat s k (by omega),show (1:Int)=((1:Nat):Int) from rfl,and_nat (by omega) (by decide),Nat.testBit_eq_decide_div_mod_eq,Nat.and_one_is_mod]
 by_cases h:s / 2 ^ k % 2=1
 ·simp [h]
 ·have:s / 2 ^ k % 2=0:=by omega
  simp [this]
theorem ref_SizeEv {s:Nat} (hs:s < 1024):Ev (fun k=>trustquorumref01_Size.f k (s:Int)) (pcn s:Int):=by
 simp only [trustquorumref01_Size.f]
 refine Ev.count (L:=fun (c:Nat) i k=>trustquorumref01_Size.l0 k (s:Int) (c:Int) i) 10 (by decide) (fun i c=>c=(List.range i).countP fun k=>s.testBit k) ?_ ?_ 0 rfl
 ·intro c hc
  have h:¬ ((10:Nat):Int) < 10:=by decide
  (refine Ev.shift ?_;simp only [trustquorumref01_Size.l0,h,Option.bind_some,↓reduceIte,Bool.false_eq_true,reduceCtorEq,decide_eq_true_eq,Go.Proofs.YtkjlcbfjllpcnaaW.PrintWords.rd,rd_T32,rd_T34])
  rw [hc]
  exact Ev.now _
 ·intro i c hi hc hw
  have h:(i:Int) < 10:=by omega
  have h0:(0:Int)≤i:=by omega
  have hle:c≤i:=by rw [hc];have:=List.countP_le_length (p:=fun k=>s.testBit k) (l:=List.range i);simpa using this
  refine Or.inl ⟨c+if s.testBit i=true then 1 else 0,by rw [hc,List.range_succ,List.countP_append,List.countP_singleton],fun k=>?_⟩
  (refine Ev.shift ?_;simp only [trustquorumref01_Size.l0,h,h0,ref01_Valid_eq,vld_nat hs,shr_one hs hi,hw,Option.bind_some,↓reduceIte,Bool.false_eq_true,reduceCtorEq,decide_eq_true_eq,Go.Proofs.YtkjlcbfjllpcnaaW.PrintWords.rd,rd_T32,rd_T34])
  cases hb:s.testBit i
  ·rw [hb] at k
   simp only [Bool.false_eq_true,if_false,Int.add_zero,Nat.add_zero] at k ⊢
   rw [w64 (by omega) (by omega)]
   exact k
  ·rw [hb] at k
   simp only [if_true] at k ⊢
   rw [show wrap64 ((c:Int)+1)=((c+1:Nat):Int) from w64 (by omega) (by omega)]
   exact k
def cmpR (y x:Int):Int:=if ltS y x then -1 else if y=x then 0 else 1
theorem ref_Compare_ev (y x:Int):Ev (fun k=>trustquorumref01_Compare.f k y x) (cmpR y x):=by
 have j1:Ev (fun k=>trustquorumref01_Compare.j1 k y x (rank y) (rank x)) (cmpR y x):=by
  unfold cmpR
  by_cases h1:rank y < rank x
  ·(refine Ev.shift ?_;simp only [trustquorumref01_Compare.j1,h1,Option.bind_some,↓reduceIte,Bool.false_eq_true,reduceCtorEq,decide_eq_true_eq,Go.Proofs.YtkjlcbfjllpcnaaW.PrintWords.rd,rd_T32,rd_T34])
   (refine Ev.shift ?_;simp only [trustquorumref01_Compare.j2,Option.bind_some,↓reduceIte,Bool.false_eq_true,reduceCtorEq,decide_eq_true_eq,Go.Proofs.YtkjlcbfjllpcnaaW.PrintWords.rd,rd_T32,rd_T34])
   rw [if_pos (show ltS y x from Or.inl h1)]
   exact Ev.now _
  by_cases h2:rank y=rank x
  ·by_cases h3:y < x
   ·simp only [h2]
    have h4:¬ rank x < rank x:=by omega
    (refine Ev.shift ?_;simp only [trustquorumref01_Compare.j1,h4,h3,decide_true,Option.bind_some,↓reduceIte,Bool.false_eq_true,reduceCtorEq,decide_eq_true_eq,Go.Proofs.YtkjlcbfjllpcnaaW.PrintWords.rd,rd_T32,rd_T34])
    (refine Ev.shift ?_;simp only [trustquorumref01_Compare.j2,Option.bind_some,↓reduceIte,Bool.false_eq_true,reduceCtorEq,decide_eq_true_eq,Go.Proofs.YtkjlcbfjllpcnaaW.PrintWords.rd,rd_T32,rd_T34])
    rw [if_pos (show ltS y x from Or.inr ⟨h2,h3⟩)]
    exact Ev.now _
   ·rw [if_neg (show ¬ ltS y x by unfold ltS;omega)]
    simp only [h2]
    have h4:¬ rank x < rank x:=by omega
    (refine Ev.shift ?_;simp only [trustquorumref01_Compare.j1,h4,h3,decide_false,Option.bind_some,↓reduceIte,Bool.false_eq_true,reduceCtorEq,decide_eq_true_eq,Go.Proofs.YtkjlcbfjllpcnaaW.PrintWords.rd,rd_T32,rd_T34])
    (refine Ev.shift ?_;simp only [trustquorumref01_Compare.j2,Option.bind_some,↓reduceIte,Bool.false_eq_true,reduceCtorEq,decide_eq_true_eq,Go.Proofs.YtkjlcbfjllpcnaaW.PrintWords.rd,rd_T32,rd_T34])
    by_cases h5:y=x
    ·simp only [if_pos h5];exact Ev.now _
    ·simp only [if_neg h5];exact Ev.now _
  ·rw [if_neg (show ¬ ltS y x by unfold ltS;omega),if_neg (show ¬ y=x from fun h=>h2 (by rw [h]))]
   (refine Ev.shift ?_;simp only [trustquorumref01_Compare.j1,h1,h2,Option.bind_some,↓reduceIte,Bool.false_eq_true,reduceCtorEq,decide_eq_true_eq,Go.Proofs.YtkjlcbfjllpcnaaW.PrintWords.rd,rd_T32,rd_T34])
   (refine Ev.shift ?_;simp only [trustquorumref01_Compare.j2,h2,Option.bind_some,↓reduceIte,Bool.false_eq_true,reduceCtorEq,decide_eq_true_eq,Go.Proofs.YtkjlcbfjllpcnaaW.PrintWords.rd,rd_T32,rd_T34])
   exact Ev.now _
 have rk:∀ z:Int,(vld z=true→∃ s:Nat,z=(s:Int)∧s < 1024∧rank z=(pcn s:Int))∧(vld z=false→rank z=-1):=by
  intro z
  constructor
  ·intro h
   rw [vld_iff] at h
   refine ⟨z.toNat,by omega,by omega,?_⟩
   unfold rank size
   rw [vld_iff.2 h]
   rfl
  ·intro h
   unfold rank
   rw [h];rfl
 have j0:Ev (fun k=>trustquorumref01_Compare.j0 k y x (rank y) (-1)) (cmpR y x):=by
  cases hx:vld x
  ·(refine Ev.shift ?_;simp only [trustquorumref01_Compare.j0,ref01_Valid_eq,hx,Option.bind_some,↓reduceIte,Bool.false_eq_true,reduceCtorEq,decide_eq_true_eq,Go.Proofs.YtkjlcbfjllpcnaaW.PrintWords.rd,rd_T32,rd_T34])
   rw [← (rk x).2 hx]
   exact j1
  ·obtain ⟨s,e,hs,hr⟩:=(rk x).1 hx
   (refine Ev.shift ?_;simp only [trustquorumref01_Compare.j0,ref01_Valid_eq,hx,Option.bind_some,↓reduceIte,Bool.false_eq_true,reduceCtorEq,decide_eq_true_eq,Go.Proofs.YtkjlcbfjllpcnaaW.PrintWords.rd,rd_T32,rd_T34])
   have:=ref_SizeEv hs
   rw [← e,← hr] at this
   exact Ev.bind1 this j1
 simp only [trustquorumref01_Compare.f,ref01_Valid_eq,Option.bind_some,↓reduceIte,Bool.false_eq_true,reduceCtorEq,decide_eq_true_eq,Go.Proofs.YtkjlcbfjllpcnaaW.PrintWords.rd,rd_T32,rd_T34]
 cases hy:vld y
 ·have:=(rk y).2 hy
  rw [this] at j0
  simp only [Bool.false_eq_true,if_false]
  exact j0
 ·obtain ⟨s,e,hs,hr⟩:=(rk y).1 hy
  simp only [if_true]
  have h:=ref_SizeEv hs
  rw [← e,← hr] at h
  exact Ev.bind1 h j0
theorem refCompare_calls (y x:Int) (w:World):Calls Try.prog 90 #[.int .i64 y,.int .i64 x] w fun e w'=>e=.returned (.int .i64 (cmpR y x))∧Drawn0 w w':=by
 obtain ⟨k,hk⟩:=(ref_Compare_ev y x).rounds
 exact trustquorumref01_Compare.calls k y x _ w hk
theorem cmpR_neg {y x:Int}:cmpR y x < 0 ↔ ltS y x:=by
 unfold cmpR
 split
 ·rename_i h;simp [h]
 ·rename_i h;split <;> simp [h]
theorem refValid_calls (a:Int) (w:World):Calls Try.prog 69 #[.int .i64 a] w fun e w'=>e=.returned (.bool (vld a))∧Drawn0 w w':=trustquorumref01_Valid.calls a (vld a) w (ref01_Valid_eq a)
theorem step_move {P:Program} {ops:Array Oper} {o:Oper} {a:Act} {w:World} {K:Act→World→Prop} {Q:Exit→Act→World→Prop} {E:Prop} (hgd:o.guard=none) (d s:Operand) (dT sT:TypeId)
  (ho:o.op=.call { callee:=.builtin .copy,args:=#[d,s],argTypes:=#[dT,sT] }) (hu:P.underlying dT=some (.slice 3)) (hsz:(P.info? 3).map (·.size)=some 1)
  (g n cap k:Nat) (L:List Int) (base:Nat) (ok:Nat→Prop) (HO:RI w base ok (.slice (some ⟨g,0,none⟩) n cap) L) (hk:k < n)
  (dp sp:Option Addr) (dLen dCap sLen sCap:Nat) (hd:a.eval d=.slice dp dLen dCap) (hs:a.eval s=.slice sp sLen sCap) (hdl:dLen=n - (k+1)) (hsl:sLen=n - k)
  (hpos:k+1 < n→dp=some ⟨g,k+1,none⟩∧sp=some ⟨g,k,none⟩)
  (w0:World) (hb:Go.RowKit.Below base w0 w)
  (h:∀ w',Hid (RI w' base ok (.slice (some ⟨g,0,none⟩) n cap) (L.take (k+1)++(L.drop k).take (n - (k+1))))→Go.RowKit.Below base w0 w'→K (a.put o.dst (goInt (n - (k+1):Nat))) w') :
  if Region.wanted o (yielded ops a.tmps)=true then Oper.wp P o a w K Q else E:=by
 have hLn:L.length=n:=by
  obtain ⟨A,c,e,_⟩:=Kd.R_reads HO
  injection e with e1 e2 e3
  exact e2.symm
 obtain ⟨hl,h2⟩:=own_of_R HO
 rcases h2 with ⟨h2,_⟩|⟨g',cap',cur,h2,hg,hh,hnc,hcm,hcs,htake⟩
 ·cases h2
 injection h2 with e1 e2 e3
 injection e1 with e1
 injection e1 with e1
 subst e1
 subst e3
 have hcs1:cur.size=cap:=by omega
 have hcl:(((L.drop k).take (n - (k+1))).map (Value.int .i64)).length=n - (k+1):=by simp;omega
 have hget:∀ j,j < n→w.cell? ⟨g,j,none⟩=some (.int .i64 (L.getD j 0)):=by
  intro j hj
  rw [cell_of_row w g _ cur 3 (0,0) hh]
  have h4:cur.toList[j]?=some (.int .i64 (L.getD j 0)):=by
   have h5:(cur.toList.take (L.length * 1))[j]?=(L.map (Value.int .i64))[j]?:=by rw [htake]
   rw [Nat.mul_one,List.getElem?_take,if_pos (by omega)] at h5
   rw [h5,List.getElem?_map,List.getElem?_eq_getElem (by omega)]
   simp [List.getD,List.getElem?_eq_getElem (show j < L.length by omega)]
  simpa using h4
 refine step_copy_splice (Q:=Q) (E:=E) hgd d s dT sT ho 3 hu hsz dp sp dLen dCap sLen sCap hd hs g (k+1) cur.toList 3 (by simpa using hh) (((L.drop k).take (n - (k+1))).map (Value.int .i64)) (by rw [hcl,hdl,hsl];show _=min _ _;omega) ?_ (by rw [hcl,Array.length_toList];omega) (by intro v hv;rw [List.mem_map] at hv;obtain ⟨x,_,rfl⟩:=hv;rfl) base w0 hb hg ?_
 ·intro hp
  rw [hcl] at hp
  obtain ⟨h5,h6⟩:=hpos (by omega)
  refine ⟨h5,_,h6,fun j v hv=>?_⟩
  rw [List.getElem?_map,Option.map_eq_some_iff] at hv
  obtain ⟨x,hx,rfl⟩:=hv
  rw [List.getElem?_take] at hx
  split at hx
  ·rename_i hj
   rw [List.getElem?_drop] at hx
   have:=hget (k+j) (by omega)
   have e4:(⟨g,k,none⟩:Addr).add j=⟨g,k+j,none⟩:=by
    rcases Nat.eq_zero_or_pos j with rfl|h0
    ·simp [Addr.add]
    ·simp [Addr.add,Nat.pos_iff_ne_zero.1 h0]
   rw [e4,this]
   simp [List.getD,hx]
  ·cases hx
 ·intro w' hrow hb'
  rw [hcl]
  refine h w' (show RI w' base ok _ _ from R_of_own HO.1 ?_) hb'
  have hrow':w'.heap[g]?=some (.cells (splice cur.toList (k+1) (((L.drop k).take (n - (k+1))).map (Value.int .i64))).toArray 3 (0,0)):=hrow
  have hlen:(L.take (k+1)++(L.drop k).take (n - (k+1))).length=n:=by simp;omega
  have hsp:=length_splice cur.toList (k+1) (((L.drop k).take (n - (k+1))).map (Value.int .i64)) (by rw [hcl,Array.length_toList];omega)
  refine ⟨by rw [List.length_map,Nat.mul_one],Or.inr ⟨g,cap,_,by rw [hlen],hg,hrow',by omega,hcm,?_,?_⟩⟩
  ·rw [List.size_toArray,hsp,Array.length_toList];omega
  ·have h7:cur.toList.take (k+1)=(L.take (k+1)).map (Value.int .i64):=by
    have:cur.toList.take (k+1)=(cur.toList.take (L.length * 1)).take (k+1):=by rw [List.take_take,Nat.mul_one,Nat.min_eq_left (by omega)]
    rw [this,htake,List.map_take]
   rw [hlen]
   show (splice cur.toList (k+1) _).take (n * 1)=_
   unfold splice
   rw [h7,← List.append_assoc,← List.map_append,Nat.mul_one,List.take_append_of_le_length (by rw [List.length_map,hlen];exact Nat.le_refl _),List.take_of_length_le (by rw [List.length_map,hlen];exact Nat.le_refl _)]
def refOk (l:List Int) (x:Int):Bool:=vld x && l.all fun y=>!(vld y && decide (y ≠ x) && decide (Go.bits .and .i64 y x=y))
def refPos (x:Int) (i k:Nat):List Int→Nat
 | []=>k
 | y :: ys=>refPos x (i+1) (if ltS y x then i+1 else k) ys
def refIns (out:List Int) (x:Int):List Int:=if x∈out then out else out.take (refPos x 0 0 out)++x :: out.drop (refPos x 0 0 out)
def refStep (l out:List Int) (x:Int):List Int:=if refOk l x=true then refIns out x else out
def refLeast (l:List Int):List Int:=l.foldl (refStep l) []
def trustquorumref01_Least.f (a0:List Int):Option (List Int):=if a0.length≤1048576 then some (refLeast a0) else none
theorem refFold_le (l m:List Int):(m.foldl (refStep l) []).length≤m.length:=by
 have h:∀ (m out:List Int),(m.foldl (refStep l) out).length≤out.length+m.length:=by
  intro m
  induction m with
  | nil=>intro out;simp
  | cons x xs ih =>
   intro out
   have h1:=ih (refStep l out x)
   have h2:(refStep l out x).length≤out.length+1:=by
    unfold refStep refIns
    split
    ·split
     ·omega
     ·simp [List.length_take,List.length_drop];omega
    ·omega
   simp only [List.foldl_cons,List.length_cons];omega
 simpa using h m []
theorem ins_eq {F:List Int} {k:Nat} (y:Int) (hk:k≤F.length):((F++[0]).take (k+1)++((F++[0]).drop k).take (F.length+1 - (k+1))).set k y=F.take k++y :: F.drop k:=by
 obtain ⟨A,B,rfl,rfl⟩:∃ A B:List Int,F=A++B∧k=A.length:=⟨F.take k,F.drop k,(List.take_append_drop k F).symm,by simp;omega⟩
 rw [List.append_assoc,List.drop_left,List.take_left,List.drop_left]
 have e1:(A++(B++[0])).take (A.length+1)=A++(B++[0]).take 1:=by rw [List.take_append,List.take_of_length_le (by omega)];simp
 have e2:(B++[(0:Int)]).take ((A++B).length+1 - (A.length+1))=B:=by
  have:(A++B).length+1 - (A.length+1)=B.length:=by rw [List.length_append];omega
  rw [this,List.take_left]
 rw [e1,e2]
 cases B with
 | nil=>simp
 | cons b bs=>simp
def refOkP (l:List Int) (x:Int) (m:Nat):Bool:=vld x && (l.take m).all fun y=>!(vld y && decide (y ≠ x) && decide (Go.bits .and .i64 y x=y))
set_option maxHeartbeats 4000000 in
set_option maxRecDepth 100000 in
theorem trustquorumref01_Least.calls (A0:Option Addr) (c0:Nat) (l0:List Int) (r:List Int) (w:World) (hr0:Kd.C (Kd.int .i64) w A0 l0.length l0) (hc0:l0.length≤c0) (h:trustquorumref01_Least.f l0=some r):Calls Try.prog 58 #[.slice A0 l0.length c0] w fun e w'=>∃ v0_:Value,e=.returned (v0_)∧Kd.R (Kd.int .i64) 3 w' w.heap.size (fun _=>True) v0_ r∧Below w.heap.size w w':=by
 unfold trustquorumref01_Least.f at h
 split at h
 case isFalse=>cases h
 rename_i hlen
 obtain rfl:=Option.some.inj h
 clear h
 have HL:=Aside0.mk hlen
 have HR:=Aside0.mk hr0
 clear hr0 hlen
 go_enter Try.func58,Try.ntmps58
 go_wp2
 go_loopw [3,15] (fun o i wr=>∃ x:Int,i=.int .i64 x∧Aside0 (0≤x∧x≤l0.length)∧Aside0 (RI wr w.heap.size (fun _=>True) o ((l0.take x.toNat).foldl (refStep l0) []))∧Aside0 (RowKit.Below w.heap.size w wr)) (fun _ i _=>l0.length - (intOf i).toNat)
 case atStart=>exact ⟨0,rfl,⟨by omega⟩,⟨Kd.R_nil _ _ _ _ _⟩,⟨Below.refl _ _⟩⟩
 case round =>
  obtain ⟨x,rfl,Hx,HO,HB⟩:=hrel
  obtain ⟨ob,rfl⟩:∃ ob,ob=wr:=⟨_,rfl⟩
  obtain ⟨F,HF⟩:∃ F,Aside0 (F=(l0.take x.toNat).foldl (refStep l0) []):=⟨_,⟨rfl⟩⟩
  rw [← HF.out] at HO
  by_cases hlt:x < l0.length
  ·have hd:decide (x < (l0.length:Int))=true:=decide_eq_true hlt
   have p0:=Hx.out.1
   have HR1:=Aside0.mk (Kd.C_below HR.out HB.out)
   obtain ⟨ad,ea,hx⟩:=Kd.at_int HR1.out x p0 hlt
   obtain ⟨y,Hy⟩:∃ y,Aside0 (y=rd l0 x):=⟨_,⟨rfl⟩⟩
   rw [← Hy.out] at hx
   subst ea
   have Hlt:=Aside0.mk hlt
   have HnO:Aside0 (wrap64 (x+1)=x+1∧(l0.take (x+1).toNat).foldl (refStep l0) []=refStep l0 F y):=by
    have h1:wrap64 (x+1)=x+1:=by unfold wrap64;have:=HL.out;omega
    have h2:(x+1).toNat=x.toNat+1:=by omega
    have h3:x.toNat < l0.length:=by omega
    have h4:y=l0[x.toNat]:=by rw [Hy.out];simp [Go.Proofs.YtkjlcbfjllpcnaaW.PrintWords.rd,List.getD,h3]
    refine ⟨h1,?_⟩
    rw [h2,HF.out,h4,List.take_succ_eq_append_getElem h3,List.foldl_append]
    rfl
   replace hlt:=eq_true hlt
   replace p0:=eq_true p0
   go_wp2_with (first|(go_at_call 69;refine (refValid_calls y _).mono ?_;rintro e w1 ⟨rfl,⟨q,rfl⟩⟩))
   go_loopw [6,23] (fun b i wr=>∃ (m:Int) (bb:Bool),i=.int .i64 m∧b=.bool bb∧Aside0 (bb=refOkP l0 y m.toNat)∧Aside0 (0≤m∧m≤l0.length)∧Aside0 (RI wr w.heap.size (fun _=>True) u3 F)∧Aside0 (RowKit.Below w.heap.size w wr)) (fun _ i _=>l0.length - (intOf i).toNat)
   case atStart=>exact ⟨0,vld y,rfl,rfl,⟨by simp [refOkP]⟩,⟨by omega⟩,⟨by exact Kd.R_drewN HO.out _⟩,⟨by exact wN HB.out _⟩⟩
   case round =>
    obtain ⟨m,bb,rfl,rfl,Hbb,Hm,HO1,HB1⟩:=hrel
    obtain ⟨ob1,rfl⟩:∃ ob1,ob1=wr:=⟨_,rfl⟩
    by_cases hlm:m < l0.length
    ·have hdm:decide (m < (l0.length:Int))=true:=decide_eq_true hlm
     have pm:=Hm.out.1
     have HR2:=Aside0.mk (Kd.C_below HR.out HB1.out)
     obtain ⟨ad2,ea2,hz⟩:=Kd.at_int HR2.out m pm hlm
     cases ea2
     obtain ⟨z,Hz⟩:∃ z,Aside0 (z=rd l0 m):=⟨_,⟨rfl⟩⟩
     rw [← Hz.out] at hz
     obtain ⟨vz,Hvz⟩:∃ vz,Aside0 (vz=vld z):=⟨_,⟨rfl⟩⟩
     have Hlm:=Aside0.mk hlm
     have Hnext:Aside0 (wrap64 (m+1)=m+1∧refOkP l0 y (m+1).toNat=(bb && !(vz && (z != y) && (Go.bits .and .i64 z y == z)))):=by
      have h1:wrap64 (m+1)=m+1:=by unfold wrap64;have:=HL.out;omega
      have h2:(m+1).toNat=m.toNat+1:=by omega
      have h3:m.toNat < l0.length:=by omega
      have h4:z=l0[m.toNat]:=by rw [Hz.out];simp [Go.Proofs.YtkjlcbfjllpcnaaW.PrintWords.rd,List.getD,h3]
      refine ⟨h1,?_⟩
      rw [h2,Hbb.out,Hvz.out,refOkP,refOkP,List.take_succ_eq_append_getElem h3,List.all_append,← h4]
      simp only [List.all_cons,List.all_nil,Bool.and_true,Bool.and_assoc]
      generalize (List.take m.toNat l0).all (fun y_1=>!(vld y_1 && (decide (y_1 ≠ y) && decide (Go.bits .and .i64 y_1 y=y_1))))=Q
      generalize vld y=V1
      generalize vld z=V2
      have e1:decide (z ≠ y)=(z != y):=by by_cases e:z=y <;> simp [e]
      have e2:decide (Go.bits .and .i64 z y=z)=(Go.bits .and .i64 z y == z):=by by_cases e:Go.bits .and .i64 z y=z <;> simp [e]
      rw [e1,e2]
     replace hlm:=eq_true hlm
     replace pm:=eq_true pm
     cases bb <;> cases vz
     all_goals
      go_wp2_with (first|(go_at_call 69;refine (refValid_calls z _).mono ?_;rintro e w1 ⟨he,⟨q,rfl⟩⟩;rw [← Hvz.out] at he;subst he))
     all_goals
      go_roundw
      case rel=>exact ⟨wrap64 (m+1),_,rfl,rfl,⟨by rw [Hnext.out.1,Hnext.out.2];first|rfl|(simp;done)|(simp_all;done)|(cases (z != y) <;> cases (Go.bits .and .i64 z y == z) <;> rfl)⟩,⟨by have:=Hnext.out.1;have:=Hlm.out;have:=Hm.out;omega⟩,⟨by first|exact HO1.out|exact Kd.R_drewN HO1.out _⟩,⟨by first|exact HB1.out|exact wN HB1.out _⟩⟩
      case measure=>have h1:=Hnext.out.1;have:=Hlm.out;have:=Hm.out;simp [intOf,h1];omega
    ·have hdm:decide (m < (l0.length:Int))=false:=decide_eq_false hlm
     have Hb:Aside0 (bb=refOk l0 y):=by
      have:m.toNat=l0.length:=by have:=Hm.out;omega
      refine ⟨?_⟩
      rw [Hbb.out,this,refOkP,List.take_length]
      rfl
     clear hlm
     cases bb
     ·go_wp2
      go_roundw
      case rel=>exact ⟨wrap64 (x+1),rfl,⟨by have:=HnO.out.1;have:=Hlt.out;have:=Hx.out;omega⟩,⟨by rw [HnO.out.1,HnO.out.2,refStep,← Hb.out];exact HO1.out⟩,HB1⟩
      case measure=>have h1:=HnO.out.1;have:=Hlt.out;have:=Hx.out;simp [intOf,h1];omega
     ·obtain ⟨A3,c3,e3⟩:=Kd.R_slice HO1.out
      subst e3
      go_wp2
      go_loopw [9,10,50] (fun kv iv i wr=>∃ (q:Int) (kk:Nat),i=.int .i64 q∧kv=.int .i64 (kk:Int)∧iv=.bool ((F.take q.toNat).any fun z=>z == y)∧Aside0 (refPos y q.toNat kk (F.drop q.toNat)=refPos y 0 0 F∧kk≤q.toNat)∧Aside0 (0≤q∧q≤F.length)∧Aside0 (RI wr w.heap.size (fun _=>True) (.slice A3 F.length c3) F)∧Aside0 (RowKit.Below w.heap.size w wr)) (fun _ _ i _=>F.length - (intOf i).toNat)
      case atStart=>exact ⟨0,0,rfl,rfl,rfl,⟨by simp⟩,⟨by omega⟩,HO1,HB1⟩
      case round =>
       obtain ⟨q,kk,rfl,rfl,rfl,Hk,Hq,HO2,HB2⟩:=hrel
       obtain ⟨ob2,rfl⟩:∃ ob2,ob2=wr:=⟨_,rfl⟩
       obtain ⟨inn,Hin⟩:∃ inn,Aside0 (inn=(F.take q.toNat).any fun z=>z == y):=⟨_,⟨rfl⟩⟩
       rw [← Hin.out]
       by_cases hlq:q < F.length
       ·have hdq:decide (q < (F.length:Int))=true:=decide_eq_true hlq
        have pq:=Hq.out.1
        obtain ⟨ad3,ea3,hz3⟩:=Kd.at_int (Kd.R_reads' HO2.out).2.2 q pq hlq
        subst ea3
        obtain ⟨z,Hz⟩:∃ z,Aside0 (z=rd F q):=⟨_,⟨rfl⟩⟩
        rw [← Hz.out] at hz3
        obtain ⟨lb,Hlb⟩:∃ lb,Aside0 (lb=decide (cmpR z y < 0)):=⟨_,⟨rfl⟩⟩
        have hlb:decide (cmpR z y < 0)=lb:=Hlb.out.symm
        have Hlq:=Aside0.mk hlq
        have HFl:Aside0 (F.length≤1048576):=⟨by rw [HF.out];have:=refFold_le l0 (l0.take x.toNat);have:=HL.out;simp at *;omega⟩
        have HnI:Aside0 (wrap64 (q+1)=q+1∧((F.take (q+1).toNat).any fun z=>z == y)=(inn || (y == z))∧refPos y (q+1).toNat (if lb=true then (q+1).toNat else kk) (F.drop (q+1).toNat)=refPos y 0 0 F):=by
         have h1:wrap64 (q+1)=q+1:=by unfold wrap64;have:=HFl.out;omega
         have h2:(q+1).toNat=q.toNat+1:=by omega
         have h3:q.toNat < F.length:=by omega
         have h4:z=F[q.toNat]:=by rw [Hz.out];simp [Go.Proofs.YtkjlcbfjllpcnaaW.PrintWords.rd,List.getD,h3]
         refine ⟨h1,?_,?_⟩
         ·rw [h2,List.take_succ_eq_append_getElem h3,List.any_append,← Hin.out,← h4]
          have e1:(y == z)=(z == y):=BEq.comm
          rw [e1];simp
         ·have h5:=Hk.out.1
          rw [List.drop_eq_getElem_cons h3,refPos,← h4] at h5
          rw [h2,← h5,Hlb.out]
          congr 1
          simp only [decide_eq_true_eq,cmpR_neg]
        replace hlq:=eq_true hlq
        replace pq:=eq_true pq
        cases inn <;> cases lb
        all_goals
         go_wp2_with (first|(go_at_call 90;refine (refCompare_calls z y _).mono ?_;rintro e w1 ⟨rfl,⟨nd,rfl⟩⟩))
         go_roundw
         case rel =>
          first
          | exact ⟨wrap64 (q+1),kk,rfl,rfl,by rw [HnI.out.1,HnI.out.2.1];first|rfl|(simp;done),⟨by rw [HnI.out.1];exact ⟨HnI.out.2.2,by have:=Hk.out.2;have:=Hq.out;omega⟩⟩,⟨by have:=HnI.out.1;have:=Hlq.out;have:=Hq.out;omega⟩,⟨by first|exact HO2.out|exact Kd.R_drewN HO2.out _⟩,⟨by first|exact HB2.out|exact wN HB2.out _⟩⟩
          | exact ⟨wrap64 (q+1),(q+1).toNat,rfl,by rw [HnI.out.1];congr 1;have:=Hq.out;omega,by rw [HnI.out.1,HnI.out.2.1];first|rfl|(simp;done),⟨by rw [HnI.out.1];exact ⟨HnI.out.2.2,by omega⟩⟩,⟨by have:=HnI.out.1;have:=Hlq.out;have:=Hq.out;omega⟩,⟨by first|exact HO2.out|exact Kd.R_drewN HO2.out _⟩,⟨by first|exact HB2.out|exact wN HB2.out _⟩⟩
         case measure=>have h1:=HnI.out.1;have:=Hlq.out;have:=Hq.out;simp [intOf,h1];omega
       ·have hdq:decide (q < (F.length:Int))=false:=decide_eq_false hlq
        have HqF:Aside0 (q.toNat=F.length):=⟨by have:=Hq.out;omega⟩
        have Hkk:Aside0 (kk=refPos y 0 0 F∧kk≤F.length):=⟨by have h1:=Hk.out;rw [HqF.out,List.drop_length] at h1;exact h1⟩
        have Hinn:Aside0 (inn=true ↔ y∈F):=⟨by rw [Hin.out,HqF.out,List.take_length,List.any_eq_true];simp⟩
        have HFl:Aside0 (F.length≤1048576):=⟨by rw [HF.out];have:=refFold_le l0 (l0.take x.toNat);have:=HL.out;simp at *;omega⟩
        clear hlq
        cases inn
        ·have Hnot:Aside0 (¬ y∈F):=⟨fun h=>by have:=Hinn.out.2 h;cases this⟩
         have Hkl:Aside0 (kk < F.length+1):=⟨by have:=Hkk.out.2;omega⟩
         have hk0:IntKind.i64.wrap ((kk:Int)+1)=(kk:Int)+1:=by rw [IntKind.wrap_i64];have:=HFl.out;have:=Hkl.out;omega
         have hk1:(0:Int)≤(kk:Int)+1:=by omega
         have hk2:(kk:Int)+1≤(F.length:Int)+1:=by have:=Hkl.out;omega
         have hk3:((kk:Int)+1).toNat=kk+1:=by omega
         have hk4:(kk:Int)≤(F.length:Int)+1:=by have:=Hkl.out;omega
         have hk5:(kk:Int) < (F.length:Int)+1:=by have:=Hkl.out;omega
         go_wp2_with (first|(at_builtin;go_loud (refine Kd.R_append (Kd.int .i64) (w0:=w) w.heap.size rfl (.tmp 70) (.tmp 71) 22 3 (.int .i64 0) 8 rfl Try.underlying22 info3 rfl (by decide) (by omega) (.slice A3 F.length c3) F 0 [.int .i64 0] (fun _=>True) (fun _=>False) rfl rfl ?aP (fun _ hk=>hk.elim) (fun _ _=>trivial) ?aO ?aB ?aS ?aL ?_;(case aP=>exact rfl);(case aO=>exact HO2.out);(case aB=>exact HB2.out);(case aS=>exact HB2.out.size);(case aL=>have:=HFl.out;omega);intro v4 w4 h4 hb4 hg4 hat4;have H4:=Aside0.mk h4;have B4:=Aside0.mk hb4;clear h4 hb4 hg4 hat4;obtain ⟨g4,cap4,hv4,hge4,_⟩:=Kd.R_form H4.out (by simp);have GE4:=Aside0.mk hge4;clear hge4;rw [List.length_append,List.length_singleton] at hv4;subst hv4)))
         have Hcap:Aside0 (F.length+1≤cap4):=⟨(Kd.R_reads' H4.out).2.1⟩
         go_region_law (refine step_move rfl (.tmp 76) (.tmp 79) 22 22 rfl Try.underlying22 rfl g4 (F.length+1) cap4 kk (F++[0]) w.heap.size (fun _=>True) (Kd.R_drew H4.out) Hkl.out (if cap4=kk+1 then some ⟨g4,0,none⟩ else some ⟨g4,kk+1,none⟩) (if cap4=kk then some ⟨g4,0,none⟩ else some ⟨g4,kk,none⟩) (F.length - kk) (cap4 - (kk+1)) (F.length+1 - kk) (cap4 - kk) (by simp [Act.eval,Act.put]) (by simp [Act.eval,Act.put]) (by omega) (by omega) (fun h=>by have:=Hcap.out;exact ⟨if_neg (by omega),if_neg (by omega)⟩) w (wD B4.out) ?_;intro w5 h5 b5;have H5:=Aside0.mk h5.out;have B5:=Aside0.mk b5;clear h5 b5)
         obtain ⟨hc5,hf5⟩:=Kd.R_celln (0:Int) H5.out (kk:Int) (by omega) (by have:=Hkl.out;omega)
         rw [Int.toNat_natCast] at hc5 hf5
         go_wp2
         go_roundw
         case rel =>
          refine ⟨wrap64 (x+1),rfl,⟨by have:=HnO.out.1;have:=Hlt.out;have:=Hx.out;omega⟩,⟨?_⟩,⟨wS B5.out GE4.out⟩⟩
          rw [HnO.out.1,HnO.out.2,refStep,← Hb.out,if_pos rfl,refIns,if_neg Hnot.out,← Hkk.out.1,← ins_eq y Hkk.out.2]
          have h6:=Kd.R_putn H5.out (kk:Int) y
          rw [Int.toNat_natCast] at h6
          exact h6
         case measure=>have h1:=HnO.out.1;have:=Hlt.out;have:=Hx.out;simp [intOf,h1];omega
        ·have Hyes:Aside0 (y∈F):=⟨Hinn.out.1 rfl⟩
         go_wp2
         go_roundw
         case rel=>exact ⟨wrap64 (x+1),rfl,⟨by have:=HnO.out.1;have:=Hlt.out;have:=Hx.out;omega⟩,⟨by rw [HnO.out.1,HnO.out.2,refStep,← Hb.out,if_pos rfl,refIns,if_pos Hyes.out];exact HO2.out⟩,HB2⟩
         case measure=>have h1:=HnO.out.1;have:=Hlt.out;have:=Hx.out;simp [intOf,h1];omega
  ·have hd:decide (x < (l0.length:Int))=false:=decide_eq_false hlt
   have Hlt:=Aside0.mk hlt
   clear hlt
   go_wp2
   go_ret
   have hx:x=l0.length:=by have:=Hx.out;have:=Hlt.out;omega
   rw [HF.out,hx] at HO
   exact ⟨_,rfl,by simpa [refLeast] using HO.out,HB.out⟩
end Go.Proofs.Ytkjlcbfjllpcnaa.X
namespace Go.Proofs.Ytkjlcbfjllpcnaa.X
open Go.RowKit Go.Proofs.YtkjlcbfjllpcnaaW.PrintWords Go.Proofs.YtkjlcbfjllpcnaaW.PrintLast Go.Proofs.YtkjlcbfjllpcnaaW.PrintMore
attribute [local go_sem] max2_int min2_int max_two min_two max_three min_three max_four min_four
set_option linter.unusedVariables false
set_option linter.unusedSimpArgs false
def trustquorumref05_Slices.l0:Nat→List Int→Int→Int→List Int→List (S32)→Option (List Int × Int)
 | 0,_,_,_,_,_=>none
 | k+1,x5,x6,x386000,x386001,x386002=>if x6≤1023 then ((trustquorumref02_Satisfied.f k x386000 x386001 x386002 x6).bind fun t390=>(if t390=true then ((trustquorumref05_least.f k x386000 x386001 x386002 x6 false).bind fun t391=>(if t391=true then (if x5.length < 17592186044416 then (trustquorumref05_Slices.l0 k (x5++[x6]) (wrap64 (x6+1)) x386000 x386001 x386002) else (none)) else (trustquorumref05_Slices.l0 k x5 (wrap64 (x6+1)) x386000 x386001 x386002))) else (trustquorumref05_Slices.l0 k x5 (wrap64 (x6+1)) x386000 x386001 x386002))) else ((trustquorumref01_Least.f x5).bind fun t387=>(some (t387,0)))
def trustquorumref05_Slices.f (k:Nat) (a0_0:Int) (l0_1:List Int) (l0_2:List (S32)):Option (List Int × Int):=(trustquorumref02_Valid.f k a0_0 l0_1 l0_2).bind fun t386=>(if t386=0 then (trustquorumref05_Slices.l0 k ([]:List Int) 0 a0_0 l0_1 l0_2) else (some (([]:List Int),t386)))
set_option maxHeartbeats 8000000 in
set_option maxRecDepth 100000 in
theorem trustquorumref05_Slices.calls (k:Nat) (a0_0:Int) (A0_1:Option Addr) (c0_1:Nat) (l0_1:List Int) (A0_2:Option Addr) (c0_2:Nat) (l0_2:List (S32)) (r1:List Int) (r2:Int) (w:World) (hr0_1:Kd.C (Kd.int .i64) w A0_1 l0_1.length l0_1) (hc0_1:l0_1.length≤c0_1) (hr0_2:Kd.C k32 w A0_2 l0_2.length l0_2) (hc0_2:l0_2.length≤c0_2) (h:trustquorumref05_Slices.f k a0_0 l0_1 l0_2=some (r1,r2)) :
  Calls Try.prog 18 #[.agg #[.int .i64 a0_0,.slice A0_1 l0_1.length c0_1,.slice A0_2 l0_2.length c0_2]] w fun e w'=>∃ v0_:Value,e=.returned (.tuple #[v0_,.int .i64 r2])∧Kd.R (Kd.int .i64) 3 w' w.heap.size (fun _=>True) v0_ r1∧Below w.heap.size w w':=by
 have hu32:=Try.underlying32
 have HR0_1:=Z hr0_1
 have HC0_1:=Z hc0_1
 clear hr0_1 hc0_1
 have HR0_2:=Z hr0_2
 have HC0_2:=Z hc0_2
 clear hr0_2 hc0_2
 have HB:=Z (Below.refl w.heap.size w)
 have H:((trustquorumref02_Valid.f k a0_0 l0_1 l0_2).bind fun t386=>(if t386=0 then (trustquorumref05_Slices.l0 k ([]:List Int) 0 a0_0 l0_1 l0_2) else (some (([]:List Int),t386))))=some (r1,r2):=h
 clear h
 replace H:=Option.bind_eq_some_iff.mp H
 obtain ⟨t386,A20,H⟩:=H
 try dsimp only at H
 have A2:=Z A20
 clear A20
 by_cases c3:t386=0
 ·rw [if_pos c3] at H
  have c3b0:(t386 == 0)=true:=beq_iff_eq.mpr c3
  have c3b1:(t386 != 0)=false:=bne_eq_false_iff_eq.mpr c3
  clear c3
  have H':=Z H
  clear H
  go_enter Try.func18,Try.ntmps18
  go_wp2_with (first|((with_reducible refine gate_dst (N:=1) rfl ?_);refine box_event ?hg (N:=1) ?hd (cs:=#[.int .i64 a0_0,.slice A0_1 l0_1.length c0_1,.slice A0_2 l0_2.length c0_2]) (t:=32) ?hr ?_;(case hd=>rfl);(case hg=>rfl);(case hr=>first|(go_simp;done)|(go_simp;rfl));intro gb385 hg w4 hbox hb;have n0_:=Z (below_step pB hb);have n1_:=Z (hbox);have n2_:=Z ((pT hg:w.heap.size≤gb385));have n3_:=Z ((pT hg:w.heap.size≤gb385));clear HB;have HB:=n0_;have BK385:=n1_;have GW385:=n2_;have GE385:=n3_;clear n0_ n1_ n2_ n3_;clear hb hbox hg;have hcz5_0:w4.cell? ⟨gb385,0,none⟩=some (.int .i64 a0_0):=(kC BK385.out 0).trans rfl;have hcz5_1:w4.cell? ⟨gb385,1,none⟩=some (.slice A0_1 l0_1.length c0_1):=(kC BK385.out 1).trans rfl;have hcz5_2:w4.cell? ⟨gb385,2,none⟩=some (.slice A0_2 l0_2.length c0_2):=(kC BK385.out 2).trans rfl;have hfz5_0:=kF BK385.out 0;have hfz5_1:=kF BK385.out 1;have hfz5_2:=kF BK385.out 2)|((with_reducible refine gate_callee (f:=56) rfl ?_);refine goesL_ (some 8) rfl rfl Try.func56 (by kernel_rfl) rfl #[.agg #[.int .i64 a0_0,.slice A0_1 l0_1.length c0_1,.slice A0_2 l0_2.length c0_2]] rfl pG ?_;(with_reducible refine (trustquorumref02_Valid.calls k a0_0 _ _ l0_1 _ _ l0_2 t386 _ ?side1 ?side2 ?side3 ?side4 A2.out).mono ?_);(case side1=>repeat (first|exact (Kd.C_below HR0_1.out HB.out)|(with_reducible refine Kd.C_alloc ?_ _)|(with_reducible refine Kd.C_drewN ?_ _)|(with_reducible refine Kd.C_drew ?_)));(case side2=>exact HC0_1.out);(case side3=>repeat (first|exact (Kd.C_below HR0_2.out HB.out)|(with_reducible refine Kd.C_alloc ?_ _)|(with_reducible refine Kd.C_drewN ?_ _)|(with_reducible refine Kd.C_drew ?_)));(case side4=>exact HC0_2.out);rintro e w6 ⟨rfl,hb⟩;refine ⟨_,rfl,?_⟩;have n0_:=Z (blk_below (g:=gb385) (o:=.cells #[.int .i64 a0_0,.slice A0_1 l0_1.length c0_1,.slice A0_2 l0_2.length c0_2] 32 (0,0)) (pK BK385) hb);have n1_:=Z (below_step pB hb);clear BK385;clear HB;have BK385:=n0_;have HB:=n1_;clear n0_ n1_;(try clear hb);(try clear hb2);(try clear hk);(try clear hi)))
  go_loopg [5,6] k (fun kq v5 v6 w'=>∃ (x5_1:List Int) (x6_1:Int),v6=.int .i64 x6_1∧Aside0 (trustquorumref05_Slices.l0 kq x5_1 x6_1 a0_0 l0_1 l0_2=some (r1,r2))∧Aside0 (kq≤k)∧Aside0 (Kd.R (Kd.int .i64) 3 w' w.heap.size (fun _=>True) v5 x5_1)∧Aside0 (w'.heap[gb385]?=some (.cells #[.int .i64 a0_0,(.slice A0_1 l0_1.length c0_1),(.slice A0_2 l0_2.length c0_2)] 32 (0,0)))∧Aside0 (Below w.heap.size w w'))
  case atStart=>exact ⟨(([]:List Int)),(0),pE,H',⟨Nat.le_refl _⟩,⟨pN⟩,⟨pK BK385⟩,⟨pB⟩⟩
  case round =>
   clear H'
   try clear c1
   try clear p2
   try clear c3
   try clear c3b0
   try clear c3b1
   try clear c5
   try clear hcz5_0
   try clear hcz5_1
   try clear hcz5_2
   try clear hfz5_0
   try clear hfz5_1
   try clear hfz5_2
   obtain ⟨x5_1,x6_1,rfl,HA,HK1,HO_5,BK385,HB⟩:=hrel
   cases gk with
   | zero=>exact absurd HA.out (by simp [trustquorumref05_Slices.l0])
   | succ k1 =>
    have H:=HA.out
    clear HA
    simp only [trustquorumref05_Slices.l0] at H
    by_cases c7:x6_1≤1023
    ·rw [if_pos c7] at H
     have c7b0:decide (x6_1≤1023)=true:=decide_eq_true c7
     clear c7
     replace H:=Option.bind_eq_some_iff.mp H
     obtain ⟨t390,A80,H⟩:=H
     try dsimp only at H
     have A8:=Z A80
     clear A80
     by_cases c9:t390=true
     ·subst c9
      rw [if_pos rfl] at H
      replace H:=Option.bind_eq_some_iff.mp H
      obtain ⟨t391,A100,H⟩:=H
      try dsimp only at H
      have A10:=Z A100
      clear A100
      by_cases c11:t391=true
      ·subst c11
       rw [if_pos rfl] at H
       by_cases c12:x5_1.length < 17592186044416
       ·rw [if_pos c12] at H
        have LMc12:=Z c12
        clear c12
        obtain ⟨y392,hy392⟩:∃ y_:List Int,y_=(x5_1++[x6_1]):=⟨_,rfl⟩
        first|rw [← hy392] at H|(replace H:=(Option.bind_some _ _).symm.trans H;rw [← hy392] at H)
        have Ny392:=Z hy392
        clear hy392
        have H':=Z H
        clear H
        have hcz13_0:wr.cell? ⟨gb385,0,none⟩=some (.int .i64 a0_0):=(kC BK385.out 0).trans rfl
        have hcz13_1:wr.cell? ⟨gb385,1,none⟩=some (.slice A0_1 l0_1.length c0_1):=(kC BK385.out 1).trans rfl
        have hcz13_2:wr.cell? ⟨gb385,2,none⟩=some (.slice A0_2 l0_2.length c0_2):=(kC BK385.out 2).trans rfl
        have hfz13_0:=kF BK385.out 0
        have hfz13_1:=kF BK385.out 1
        have hfz13_2:=kF BK385.out 2
        go_wp2_with (first|((with_reducible refine gate_callee (f:=26) rfl ?_);refine goesL_ (some 18) rfl rfl Try.func26 (by kernel_rfl) rfl #[.agg #[.int .i64 a0_0,.slice A0_1 l0_1.length c0_1,.slice A0_2 l0_2.length c0_2],.int .i64 x6_1] rfl pG ?_;(with_reducible refine (trustquorumref02_Satisfied.calls k1 a0_0 _ _ l0_1 _ _ l0_2 x6_1 true _ ?side1 ?side2 ?side3 ?side4 A8.out).mono ?_);(case side1=>repeat (first|exact (Kd.C_below HR0_1.out HB.out)|(with_reducible refine Kd.C_alloc ?_ _)|(with_reducible refine Kd.C_drewN ?_ _)|(with_reducible refine Kd.C_drew ?_)));(case side2=>exact HC0_1.out);(case side3=>repeat (first|exact (Kd.C_below HR0_2.out HB.out)|(with_reducible refine Kd.C_alloc ?_ _)|(with_reducible refine Kd.C_drewN ?_ _)|(with_reducible refine Kd.C_drew ?_)));(case side4=>exact HC0_2.out);rintro e w14 ⟨rfl,hb⟩;refine ⟨_,rfl,?_⟩;have n0_:=Z (Kd.R_below (pR HO_5) hb);have n1_:=Z (blk_below (g:=gb385) (o:=.cells #[.int .i64 a0_0,.slice A0_1 l0_1.length c0_1,.slice A0_2 l0_2.length c0_2] 32 (0,0)) (pK BK385) hb);have n2_:=Z (below_step pB hb);clear HO_5;clear BK385;clear HB;have HO_5:=n0_;have BK385:=n1_;have HB:=n2_;clear n0_ n1_ n2_;(try clear hb);(try clear hb2);(try clear hk);(try clear hi);have hcz15_0:w14.cell? ⟨gb385,0,none⟩=some (.int .i64 a0_0):=(kC BK385.out 0).trans rfl;have hcz15_1:w14.cell? ⟨gb385,1,none⟩=some (.slice A0_1 l0_1.length c0_1):=(kC BK385.out 1).trans rfl;have hcz15_2:w14.cell? ⟨gb385,2,none⟩=some (.slice A0_2 l0_2.length c0_2):=(kC BK385.out 2).trans rfl;have hfz15_0:=kF BK385.out 0;have hfz15_1:=kF BK385.out 1;have hfz15_2:=kF BK385.out 2)|(go_at_call 57;(with_reducible refine (trustquorumref05_least.calls k1 a0_0 _ _ l0_1 _ _ l0_2 x6_1 false true _ ?side1 ?side2 ?side3 ?side4 A10.out).mono ?_);(case side1=>repeat (first|exact (Kd.C_below HR0_1.out HB.out)|(with_reducible refine Kd.C_alloc ?_ _)|(with_reducible refine Kd.C_drewN ?_ _)|(with_reducible refine Kd.C_drew ?_)));(case side2=>exact HC0_1.out);(case side3=>repeat (first|exact (Kd.C_below HR0_2.out HB.out)|(with_reducible refine Kd.C_alloc ?_ _)|(with_reducible refine Kd.C_drewN ?_ _)|(with_reducible refine Kd.C_drew ?_)));(case side4=>exact HC0_2.out);rintro e w16 ⟨rfl,hb⟩;have n0_:=Z (Kd.R_below (pR HO_5) hb);have n1_:=Z (blk_below (g:=gb385) (o:=.cells #[.int .i64 a0_0,.slice A0_1 l0_1.length c0_1,.slice A0_2 l0_2.length c0_2] 32 (0,0)) (pK BK385) hb);have n2_:=Z (below_step pB hb);clear HO_5;clear BK385;clear HB;have HO_5:=n0_;have BK385:=n1_;have HB:=n2_;clear n0_ n1_ n2_;(try clear hb);(try clear hb2);(try clear hk);(try clear hi))|((with_reducible refine gate_builtin (b:=.append) (xs:=#[.tmp 24,.tmp 26]) rfl ?_);at_builtin;refine Kd.R_append (Kd.int .i64) (w0:=w) w.heap.size rfl (.tmp 24) (.tmp 26) 22 3 (.int .i64 0) 8 rfl Try.underlying22 info3 rfl (by decide) (by omega) u5 x5_1 x6_1 [.int .i64 x6_1] (fun _=>True) (fun _=>False) rfl rfl ?aP (fun _ hk=>hk.elim) ?aF ?aO ?aB ?aS ?aL ?_;(case aP=>exact rfl);(case aB=>exact pB);(case aF=>exact (fun _ _=>trivial));(case aO=>exact (pR HO_5));(case aS=>exact (below_size pB));(case aL=>have:=LMc12.out;omega);intro v393 w17 ho hb hg hat;rw [← Ny392.out] at ho;have n0_:=Z (blk_grown (g:=gb385) (o:=.cells #[.int .i64 a0_0,.slice A0_1 l0_1.length c0_1,.slice A0_2 l0_2.length c0_2] 32 (0,0)) (pK BK385) hg (Kd.R_ne HO_5.out BK385.out (by decide)));have n1_:=Z (hb);have n2_:=Z (ho);clear BK385;clear HB;clear HO_5;have BK385:=n0_;have HB:=n1_;have HO394:=n2_;clear n0_ n1_ n2_;clear ho hb hg hat))
        go_roundg k1
        case measure=>have:=HK1.out;omega
        case rel=>exact ⟨(y392),(wrap64 (x6_1+1)),pE,H',⟨by have:=HK1.out;omega⟩,⟨pR HO394⟩,⟨pK BK385⟩,⟨pB⟩⟩
       ·rw [if_neg c12] at H
        exact absurd H (by simp)
      ·replace c11:=Bool.eq_false_iff.mpr c11
       subst c11
       rw [if_neg (show ¬ (false=true) by decide)] at H
       have H':=Z H
       clear H
       have hcz18_0:wr.cell? ⟨gb385,0,none⟩=some (.int .i64 a0_0):=(kC BK385.out 0).trans rfl
       have hcz18_1:wr.cell? ⟨gb385,1,none⟩=some (.slice A0_1 l0_1.length c0_1):=(kC BK385.out 1).trans rfl
       have hcz18_2:wr.cell? ⟨gb385,2,none⟩=some (.slice A0_2 l0_2.length c0_2):=(kC BK385.out 2).trans rfl
       have hfz18_0:=kF BK385.out 0
       have hfz18_1:=kF BK385.out 1
       have hfz18_2:=kF BK385.out 2
       go_wp2_with (first|((with_reducible refine gate_callee (f:=26) rfl ?_);refine goesL_ (some 18) rfl rfl Try.func26 (by kernel_rfl) rfl #[.agg #[.int .i64 a0_0,.slice A0_1 l0_1.length c0_1,.slice A0_2 l0_2.length c0_2],.int .i64 x6_1] rfl pG ?_;(with_reducible refine (trustquorumref02_Satisfied.calls k1 a0_0 _ _ l0_1 _ _ l0_2 x6_1 true _ ?side1 ?side2 ?side3 ?side4 A8.out).mono ?_);(case side1=>repeat (first|exact (Kd.C_below HR0_1.out HB.out)|(with_reducible refine Kd.C_alloc ?_ _)|(with_reducible refine Kd.C_drewN ?_ _)|(with_reducible refine Kd.C_drew ?_)));(case side2=>exact HC0_1.out);(case side3=>repeat (first|exact (Kd.C_below HR0_2.out HB.out)|(with_reducible refine Kd.C_alloc ?_ _)|(with_reducible refine Kd.C_drewN ?_ _)|(with_reducible refine Kd.C_drew ?_)));(case side4=>exact HC0_2.out);rintro e w19 ⟨rfl,hb⟩;refine ⟨_,rfl,?_⟩;have n0_:=Z (Kd.R_below (pR HO_5) hb);have n1_:=Z (blk_below (g:=gb385) (o:=.cells #[.int .i64 a0_0,.slice A0_1 l0_1.length c0_1,.slice A0_2 l0_2.length c0_2] 32 (0,0)) (pK BK385) hb);have n2_:=Z (below_step pB hb);clear HO_5;clear BK385;clear HB;have HO_5:=n0_;have BK385:=n1_;have HB:=n2_;clear n0_ n1_ n2_;(try clear hb);(try clear hb2);(try clear hk);(try clear hi);have hcz20_0:w19.cell? ⟨gb385,0,none⟩=some (.int .i64 a0_0):=(kC BK385.out 0).trans rfl;have hcz20_1:w19.cell? ⟨gb385,1,none⟩=some (.slice A0_1 l0_1.length c0_1):=(kC BK385.out 1).trans rfl;have hcz20_2:w19.cell? ⟨gb385,2,none⟩=some (.slice A0_2 l0_2.length c0_2):=(kC BK385.out 2).trans rfl;have hfz20_0:=kF BK385.out 0;have hfz20_1:=kF BK385.out 1;have hfz20_2:=kF BK385.out 2)|(go_at_call 57;(with_reducible refine (trustquorumref05_least.calls k1 a0_0 _ _ l0_1 _ _ l0_2 x6_1 false false _ ?side1 ?side2 ?side3 ?side4 A10.out).mono ?_);(case side1=>repeat (first|exact (Kd.C_below HR0_1.out HB.out)|(with_reducible refine Kd.C_alloc ?_ _)|(with_reducible refine Kd.C_drewN ?_ _)|(with_reducible refine Kd.C_drew ?_)));(case side2=>exact HC0_1.out);(case side3=>repeat (first|exact (Kd.C_below HR0_2.out HB.out)|(with_reducible refine Kd.C_alloc ?_ _)|(with_reducible refine Kd.C_drewN ?_ _)|(with_reducible refine Kd.C_drew ?_)));(case side4=>exact HC0_2.out);rintro e w21 ⟨rfl,hb⟩;have n0_:=Z (Kd.R_below (pR HO_5) hb);have n1_:=Z (blk_below (g:=gb385) (o:=.cells #[.int .i64 a0_0,.slice A0_1 l0_1.length c0_1,.slice A0_2 l0_2.length c0_2] 32 (0,0)) (pK BK385) hb);have n2_:=Z (below_step pB hb);clear HO_5;clear BK385;clear HB;have HO_5:=n0_;have BK385:=n1_;have HB:=n2_;clear n0_ n1_ n2_;(try clear hb);(try clear hb2);(try clear hk);(try clear hi)))
       go_roundg k1
       case measure=>have:=HK1.out;omega
       case rel=>exact ⟨(x5_1),(wrap64 (x6_1+1)),pE,H',⟨by have:=HK1.out;omega⟩,⟨pR HO_5⟩,⟨pK BK385⟩,⟨pB⟩⟩
     ·replace c9:=Bool.eq_false_iff.mpr c9
      subst c9
      rw [if_neg (show ¬ (false=true) by decide)] at H
      have H':=Z H
      clear H
      have hcz22_0:wr.cell? ⟨gb385,0,none⟩=some (.int .i64 a0_0):=(kC BK385.out 0).trans rfl
      have hcz22_1:wr.cell? ⟨gb385,1,none⟩=some (.slice A0_1 l0_1.length c0_1):=(kC BK385.out 1).trans rfl
      have hcz22_2:wr.cell? ⟨gb385,2,none⟩=some (.slice A0_2 l0_2.length c0_2):=(kC BK385.out 2).trans rfl
      have hfz22_0:=kF BK385.out 0
      have hfz22_1:=kF BK385.out 1
      have hfz22_2:=kF BK385.out 2
      go_wp2_with (first|((with_reducible refine gate_callee (f:=26) rfl ?_);refine goesL_ (some 18) rfl rfl Try.func26 (by kernel_rfl) rfl #[.agg #[.int .i64 a0_0,.slice A0_1 l0_1.length c0_1,.slice A0_2 l0_2.length c0_2],.int .i64 x6_1] rfl pG ?_;(with_reducible refine (trustquorumref02_Satisfied.calls k1 a0_0 _ _ l0_1 _ _ l0_2 x6_1 false _ ?side1 ?side2 ?side3 ?side4 A8.out).mono ?_);(case side1=>repeat (first|exact (Kd.C_below HR0_1.out HB.out)|(with_reducible refine Kd.C_alloc ?_ _)|(with_reducible refine Kd.C_drewN ?_ _)|(with_reducible refine Kd.C_drew ?_)));(case side2=>exact HC0_1.out);(case side3=>repeat (first|exact (Kd.C_below HR0_2.out HB.out)|(with_reducible refine Kd.C_alloc ?_ _)|(with_reducible refine Kd.C_drewN ?_ _)|(with_reducible refine Kd.C_drew ?_)));(case side4=>exact HC0_2.out);rintro e w23 ⟨rfl,hb⟩;refine ⟨_,rfl,?_⟩;have n0_:=Z (Kd.R_below (pR HO_5) hb);have n1_:=Z (blk_below (g:=gb385) (o:=.cells #[.int .i64 a0_0,.slice A0_1 l0_1.length c0_1,.slice A0_2 l0_2.length c0_2] 32 (0,0)) (pK BK385) hb);have n2_:=Z (below_step pB hb);clear HO_5;clear BK385;clear HB;have HO_5:=n0_;have BK385:=n1_;have HB:=n2_;clear n0_ n1_ n2_;(try clear hb);(try clear hb2);(try clear hk);(try clear hi)))
      go_roundg k1
      case measure=>have:=HK1.out;omega
      case rel=>exact ⟨(x5_1),(wrap64 (x6_1+1)),pE,H',⟨by have:=HK1.out;omega⟩,⟨pR HO_5⟩,⟨pK BK385⟩,⟨pB⟩⟩
    ·rw [if_neg c7] at H
     have c7b0:decide (x6_1≤1023)=false:=decide_eq_false c7
     clear c7
     replace H:=Option.bind_eq_some_iff.mp H
     obtain ⟨t387,A240,H⟩:=H
     try dsimp only at H
     have A24:=Z A240
     clear A240
     simp only [Option.some.injEq,Prod.mk.injEq] at H
     obtain ⟨rfl,rfl⟩:=H
     obtain ⟨Ao25,co25,eo25⟩:=Kd.R_slice HO_5.out
     subst eo25
     go_wp2_with (first|((with_reducible refine gate_callee (f:=58) rfl ?_);refine goesL_ (some 29) rfl rfl Try.func58 (by kernel_rfl) rfl #[.slice Ao25 x5_1.length co25] rfl pG ?_;(with_reducible refine (trustquorumref01_Least.calls _ _ x5_1 t387 _ ?side1 ?side2 A24.out).mono ?_);(case side1=>repeat (first|exact (Kd.R_reads' HO_5.out).2.2|(with_reducible refine Kd.C_alloc ?_ _)|(with_reducible refine Kd.C_drewN ?_ _)|(with_reducible refine Kd.C_drew ?_)));(case side2=>exact (Kd.R_reads' HO_5.out).2.1);rintro e w26 ⟨v388,rfl,ho0,hb⟩;refine ⟨_,rfl,?_⟩;have n0_:=Z (Kd.R_elder' (pR HO_5) (Kd.R_base ho0) hb);have n1_:=Z (Kd.R_lower (Kd.R_new' ho0 (Kd.R_lt (pR HO_5))) (below_size pB));have n2_:=Z (blk_below (g:=gb385) (o:=.cells #[.int .i64 a0_0,.slice A0_1 l0_1.length c0_1,.slice A0_2 l0_2.length c0_2] 32 (0,0)) (pK BK385) hb);have n3_:=Z (below_step pB hb);clear HO_5;clear BK385;clear HB;have HO_5:=n0_;have HO389:=n1_;have BK385:=n2_;have HB:=n3_;clear n0_ n1_ n2_ n3_;(try clear hb);(try clear hb2);(try clear hk);(try clear hi);(try clear ho0)))
     go_ret2
     exact ⟨_,pF,by (with_reducible repeat (first|apply Kd.R_alloc|apply Kd.R_drewN|apply Kd.R_drew));exact Kd.R_mono HO389.out (fun _ hk=>trivial),pB⟩
 ·rw [if_neg c3] at H
  have c3b0:(t386 == 0)=false:=beq_eq_false_iff_ne.mpr c3
  have c3b1:(t386 != 0)=true:=bne_iff_ne.mpr c3
  simp only [Option.some.injEq,Prod.mk.injEq] at H
  obtain ⟨rfl,rfl⟩:=H
  go_enter Try.func18,Try.ntmps18
  go_wp2_with (first|((with_reducible refine gate_dst (N:=1) rfl ?_);refine box_event ?hg (N:=1) ?hd (cs:=#[.int .i64 a0_0,.slice A0_1 l0_1.length c0_1,.slice A0_2 l0_2.length c0_2]) (t:=32) ?hr ?_;(case hd=>rfl);(case hg=>rfl);(case hr=>first|(go_simp;done)|(go_simp;rfl));intro gb385 hg w27 hbox hb;have n0_:=Z (below_step pB hb);have n1_:=Z (hbox);have n2_:=Z ((pT hg:w.heap.size≤gb385));have n3_:=Z ((pT hg:w.heap.size≤gb385));clear HB;have HB:=n0_;have BK385:=n1_;have GW385:=n2_;have GE385:=n3_;clear n0_ n1_ n2_ n3_;clear hb hbox hg;have hcz28_0:w27.cell? ⟨gb385,0,none⟩=some (.int .i64 a0_0):=(kC BK385.out 0).trans rfl;have hcz28_1:w27.cell? ⟨gb385,1,none⟩=some (.slice A0_1 l0_1.length c0_1):=(kC BK385.out 1).trans rfl;have hcz28_2:w27.cell? ⟨gb385,2,none⟩=some (.slice A0_2 l0_2.length c0_2):=(kC BK385.out 2).trans rfl;have hfz28_0:=kF BK385.out 0;have hfz28_1:=kF BK385.out 1;have hfz28_2:=kF BK385.out 2)|((with_reducible refine gate_callee (f:=56) rfl ?_);refine goesL_ (some 8) rfl rfl Try.func56 (by kernel_rfl) rfl #[.agg #[.int .i64 a0_0,.slice A0_1 l0_1.length c0_1,.slice A0_2 l0_2.length c0_2]] rfl pG ?_;(with_reducible refine (trustquorumref02_Valid.calls k a0_0 _ _ l0_1 _ _ l0_2 t386 _ ?side1 ?side2 ?side3 ?side4 A2.out).mono ?_);(case side1=>repeat (first|exact (Kd.C_below HR0_1.out HB.out)|(with_reducible refine Kd.C_alloc ?_ _)|(with_reducible refine Kd.C_drewN ?_ _)|(with_reducible refine Kd.C_drew ?_)));(case side2=>exact HC0_1.out);(case side3=>repeat (first|exact (Kd.C_below HR0_2.out HB.out)|(with_reducible refine Kd.C_alloc ?_ _)|(with_reducible refine Kd.C_drewN ?_ _)|(with_reducible refine Kd.C_drew ?_)));(case side4=>exact HC0_2.out);rintro e w29 ⟨rfl,hb⟩;refine ⟨_,rfl,?_⟩;have n0_:=Z (blk_below (g:=gb385) (o:=.cells #[.int .i64 a0_0,.slice A0_1 l0_1.length c0_1,.slice A0_2 l0_2.length c0_2] 32 (0,0)) (pK BK385) hb);have n1_:=Z (below_step pB hb);clear BK385;clear HB;have BK385:=n0_;have HB:=n1_;clear n0_ n1_;(try clear hb);(try clear hb2);(try clear hk);(try clear hi)))
  go_ret2
  exact ⟨_,pF,pN,pB⟩
mutual
def trustquorumref01_Meeting.j0:Nat→List Int→Int→Bool→Option (List Int × Int)
 | 0,_,_,_=>none
 | k+1,x0,x1,x18=>if x18=true then (some (([]:List Int),1)) else (trustquorumref01_Meeting.l0 k x0 x1 x0 (x0.length:Int) 0)
def trustquorumref01_Meeting.l0:Nat→List Int→Int→List Int→Int→Int→Option (List Int × Int)
 | 0,_,_,_,_,_=>none
 | k+1,x0,x1,x19,x20,x21=>if x21 < x20 then (if 0≤x21 then (if x21 < (x19.length:Int) then (if (rd x19 x21) < 0 then (some (([]:List Int),1)) else (if 0≤x1 then (if (rd x19 x21) ≥ (shl .i64 1 x1) then (some (([]:List Int),1)) else (trustquorumref01_Meeting.l0 k x0 x1 x19 x20 (wrap64 (x21+1)))) else (none))) else (none)) else (none)) else (if (x0.length:Int) > 1024 then (some (([]:List Int),3)) else (trustquorumref01_Meeting.l1 k x0 x1 ([]:List Int) 0))
def trustquorumref01_Meeting.l1:Nat→List Int→Int→List Int→Int→Option (List Int × Int)
 | 0,_,_,_,_=>none
 | k+1,x0,x1,x8,x9=>if 0≤x1 then (if x9 < (shl .i64 1 x1) then (trustquorumref01_Meeting.l2 k x0 x1 x8 x9 true x0 (x0.length:Int) 0) else ((trustquorumref01_Least.f x8).bind fun t396=>(some (t396,0)))) else (none)
def trustquorumref01_Meeting.l2:Nat→List Int→Int→List Int→Int→Bool→List Int→Int→Int→Option (List Int × Int)
 | 0,_,_,_,_,_,_,_,_=>none
 | k+1,x0,x1,x8,x9,x10,x43,x44,x45=>if x45 < x44 then (if 0≤x45 then (if x45 < (x43.length:Int) then (if x10=true then (trustquorumref01_Meeting.l2 k x0 x1 x8 x9 ((Go.bits .and .i64 (rd x43 x45) x9) != 0) x43 x44 (wrap64 (x45+1))) else (trustquorumref01_Meeting.l2 k x0 x1 x8 x9 false x43 x44 (wrap64 (x45+1)))) else (none)) else (none)) else (if x10=true then (if x8.length < 17592186044416 then (trustquorumref01_Meeting.l1 k x0 x1 (x8++[x9]) (wrap64 (x9+1))) else (none)) else (trustquorumref01_Meeting.l1 k x0 x1 x8 (wrap64 (x9+1))))
end
def trustquorumref01_Meeting.f (k:Nat) (l0:List Int) (a1:Int):Option (List Int × Int):=if a1 < 0 then (trustquorumref01_Meeting.j0 k l0 a1 true) else (trustquorumref01_Meeting.j0 k l0 a1 (decide (a1 > 10)))
set_option maxHeartbeats 8000000 in
set_option maxRecDepth 100000 in
theorem trustquorumref01_Meeting.calls (k:Nat) (A0:Option Addr) (c0:Nat) (l0:List Int) (a1:Int) (r1:List Int) (r2:Int) (w:World) (hr0:Kd.C (Kd.int .i64) w A0 l0.length l0) (hc0:l0.length≤c0) (h:trustquorumref01_Meeting.f k l0 a1=some (r1,r2)) :
  Calls Try.prog 20 #[.slice A0 l0.length c0,.int .i64 a1] w fun e w'=>∃ v0_:Value,e=.returned (.tuple #[v0_,.int .i64 r2])∧Kd.R (Kd.int .i64) 3 w' w.heap.size (fun _=>True) v0_ r1∧Below w.heap.size w w':=by
 have HR0:=Z hr0
 have HC0:=Z hc0
 clear hr0 hc0
 have HB:=Z (Below.refl w.heap.size w)
 have H:(if a1 < 0 then (trustquorumref01_Meeting.j0 k l0 a1 true) else (trustquorumref01_Meeting.j0 k l0 a1 (decide (a1 > 10))))=some (r1,r2):=h
 clear h
 have HC3:=Z H
 clear H
 go_enter Try.func20,Try.ntmps20
 go_upto_region 1 with (fail)
 go_cut [18] (fun v18 wc=>∃ (kq:Nat) (x18_2:Bool),v18=.bool x18_2∧Aside0 (trustquorumref01_Meeting.j0 kq l0 a1 x18_2=some (r1,r2))∧Aside0 (kq≤k)∧Aside0 (Below w.heap.size w wc))
 case first =>
  have H:=HC3.out
  clear HC3
  by_cases c4:a1 < 0
  ·rw [if_pos c4] at H
   have c4b0:decide (a1 < 0)=true:=decide_eq_true c4
   clear c4
   (first|rw [c4b0]|(simp only [i64_w,i32_w];rw [c4b0])|skip)
   have H':=Z H
   clear H
   go_wp2
   go_meet
   case rel=>exact ⟨_,(true),pE,H',⟨by first|omega|exact Nat.le_refl _⟩,⟨pB⟩⟩
  ·rw [if_neg c4] at H
   have c4b0:decide (a1 < 0)=false:=decide_eq_false c4
   clear c4
   (first|rw [c4b0]|(simp only [i64_w,i32_w];rw [c4b0])|skip)
   have H':=Z H
   clear H
   go_wp2
   go_meet
   case rel=>exact ⟨_,(decide (a1 > 10)),pE,H',⟨by first|omega|exact Nat.le_refl _⟩,⟨pB⟩⟩
 case rest =>
  clear HC3
  try clear c2
  try clear p2
  try clear c4
  try clear c4b0
  obtain ⟨kq,x18_2,rfl,HA,HJ2,HB⟩:=hcut
  cases kq with
  | zero=>exact absurd HA.out (by simp [trustquorumref01_Meeting.j0])
  | succ kj2 =>
   have H:=HA.out
   clear HA
   simp only [trustquorumref01_Meeting.j0] at H
   by_cases c5:x18_2=true
   ·subst c5
    rw [if_pos rfl] at H
    simp only [Option.some.injEq,Prod.mk.injEq] at H
    obtain ⟨rfl,rfl⟩:=H
    go_wp2
    go_ret2
    exact ⟨_,pF,pN,pB⟩
   ·replace c5:=Bool.eq_false_iff.mpr c5
    subst c5
    rw [if_neg (show ¬ (false=true) by decide)] at H
    have H':=Z H
    clear H
    go_wp2
    go_loopg [21] kj2 (fun kq v21 w'=>∃ (x21_2:Int),v21=.int .i64 x21_2∧Aside0 (trustquorumref01_Meeting.l0 kq l0 a1 l0 (l0.length:Int) x21_2=some (r1,r2))∧Aside0 (kq≤kj2)∧Aside0 (Below w.heap.size w w'))
    case atStart=>exact ⟨(0),pE,H',⟨Nat.le_refl _⟩,⟨pB⟩⟩
    case round =>
     clear H'
     try clear c2
     try clear p2
     try clear c4
     try clear c4b0
     try clear c5
     obtain ⟨x21_2,rfl,HA,HK2,HB⟩:=hrel
     cases gk with
     | zero=>exact absurd HA.out (by simp [trustquorumref01_Meeting.l0])
     | succ k2 =>
      have H:=HA.out
      clear HA
      simp only [trustquorumref01_Meeting.l0] at H
      by_cases c6:x21_2 < (l0.length:Int)
      ·rw [if_pos c6] at H
       have c6b0:decide (x21_2 < (l0.length:Int))=true:=decide_eq_true c6
       clear c6
       by_cases c7:0≤x21_2
       ·rw [if_pos c7] at H
        have c7b0:decide (0≤x21_2)=true:=decide_eq_true c7
        clear c7
        by_cases c8:x21_2 < (l0.length:Int)
        ·rw [if_pos c8] at H
         have c8b0:decide (x21_2 < (l0.length:Int))=true:=decide_eq_true c8
         clear c8
         by_cases c9:(rd l0 x21_2) < 0
         ·rw [if_pos c9] at H
          have c9b0:decide ((rd l0 x21_2) < 0)=true:=decide_eq_true c9
          clear c9
          simp only [Option.some.injEq,Prod.mk.injEq] at H
          obtain ⟨rfl,rfl⟩:=H
          have p395:0≤(x21_2:Int):=of_decide_eq_true (by first|(with_reducible assumption)|assumption)
          have q395:x21_2 < (l0.length:Int):=of_decide_eq_true (by first|(with_reducible assumption)|assumption)
          obtain ⟨ad395,e395,hx395_0⟩:=Kd.at_int HR0.out x21_2 p395 q395
          cases e395
          replace hx395_0:=(HB.out.cell (World.block_lt_of_cell? w _ hx395_0)).trans hx395_0
          replace p395:=eq_true p395
          replace q395:=eq_true q395
          go_wp2
          go_ret2
          exact ⟨_,pF,pN,pB⟩
         ·rw [if_neg c9] at H
          have c9b0:decide ((rd l0 x21_2) < 0)=false:=decide_eq_false c9
          clear c9
          by_cases c10:0≤a1
          ·rw [if_pos c10] at H
           have c10b0:=eq_true c10
           have c10b1:decide (0≤a1)=true:=decide_eq_true c10
           clear c10
           obtain ⟨ji11,hji11⟩:∃ j_:Int,(shl .i64 1 a1)=j_:=⟨_,rfl⟩
           replace H:(if (rd l0 x21_2) ≥ (ji11) then (some (([]:List Int),1)) else (trustquorumref01_Meeting.l0 k2 l0 a1 l0 (l0.length:Int) (wrap64 (x21_2+1))))=some (r1,r2):=by first|(rw [hji11] at H;exact H)|(simp only [hji11] at H ⊢;exact H)
           have hji11_:(IntKind.i64.wrap (1 * 2 ^ min a1.toNat 64))=ji11:=hji11
           have hji11z:a1≤64→(IntKind.i64.wrap (1 * 2 ^ a1.toNat))=ji11:=shl_small hji11
           have hji11u:(IntKind.i64.wrap (2 ^ min a1.toNat 64))=ji11:=by have h_:=hji11_;rw [Int.one_mul] at h_;exact h_
           have hji11v:a1≤64→(IntKind.i64.wrap (2 ^ a1.toNat))=ji11:=fun hle_=>by have h_:=hji11z hle_;rw [Int.one_mul] at h_;exact h_
           have hji11y:(wrap64 (1 * 2 ^ min a1.toNat 64))=ji11:=(i64_w _).symm.trans hji11_
           have hji11x:a1≤64→(wrap64 (1 * 2 ^ a1.toNat))=ji11:=fun h_=>(i64_w _).symm.trans (hji11z h_)
           by_cases c12:(rd l0 x21_2) ≥ (ji11)
           ·rw [if_pos c12] at H
            have c12b0:decide ((ji11)≤(rd l0 x21_2))=true:=decide_eq_true c12
            clear c12
            simp only [Option.some.injEq,Prod.mk.injEq] at H
            obtain ⟨rfl,rfl⟩:=H
            have p395:0≤(x21_2:Int):=of_decide_eq_true (by first|(with_reducible assumption)|assumption)
            have q395:x21_2 < (l0.length:Int):=of_decide_eq_true (by first|(with_reducible assumption)|assumption)
            obtain ⟨ad395,e395,hx395_0⟩:=Kd.at_int HR0.out x21_2 p395 q395
            cases e395
            replace hx395_0:=(HB.out.cell (World.block_lt_of_cell? w _ hx395_0)).trans hx395_0
            replace p395:=eq_true p395
            replace q395:=eq_true q395
            go_wp2
            go_ret2
            exact ⟨_,by first|rfl|(simp [errW_none,errW_some] <;> rfl)|(simp only [← hji11];first|rfl|(simp [errW_none,errW_some] <;> rfl))|(simp [*,errW_none,errW_some] <;> rfl),pN,pB⟩
           ·rw [if_neg c12] at H
            have c12b0:decide ((ji11)≤(rd l0 x21_2))=false:=decide_eq_false c12
            clear c12
            have H':=Z H
            clear H
            have p395:0≤(x21_2:Int):=of_decide_eq_true (by first|(with_reducible assumption)|assumption)
            have q395:x21_2 < (l0.length:Int):=of_decide_eq_true (by first|(with_reducible assumption)|assumption)
            obtain ⟨ad395,e395,hx395_0⟩:=Kd.at_int HR0.out x21_2 p395 q395
            cases e395
            replace hx395_0:=(HB.out.cell (World.block_lt_of_cell? w _ hx395_0)).trans hx395_0
            replace p395:=eq_true p395
            replace q395:=eq_true q395
            go_wp2
            go_roundg k2
            case measure=>have:=HJ2.out;have:=HK2.out;omega
            case rel=>exact ⟨(wrap64 (x21_2+1)),pE,H',⟨by have:=HJ2.out;have:=HK2.out;omega⟩,⟨pB⟩⟩
          ·rw [if_neg c10] at H
           exact absurd H (by simp)
        ·rw [if_neg c8] at H
         exact absurd H (by simp)
       ·rw [if_neg c7] at H
        exact absurd H (by simp)
      ·rw [if_neg c6] at H
       have c6b0:decide (x21_2 < (l0.length:Int))=false:=decide_eq_false c6
       clear c6
       by_cases c13:(l0.length:Int) > 1024
       ·rw [if_pos c13] at H
        have c13b0:decide (1024 < (l0.length:Int))=true:=decide_eq_true c13
        have c13b1:decide (1024 < l0.length)=true:=decide_eq_true (by omega)
        clear c13
        simp only [Option.some.injEq,Prod.mk.injEq] at H
        obtain ⟨rfl,rfl⟩:=H
        go_wp2
        go_ret2
        exact ⟨_,pF,pN,pB⟩
       ·rw [if_neg c13] at H
        have c13b0:decide (1024 < (l0.length:Int))=false:=decide_eq_false c13
        have c13b1:decide (1024 < l0.length)=false:=decide_eq_false (by omega)
        clear c13
        have H':=Z H
        clear H
        go_wp2
        go_loopg [8,9] k2 (fun kq v8 v9 w'=>∃ (x8_3:List Int) (x9_3:Int),v9=.int .i64 x9_3∧Aside0 (trustquorumref01_Meeting.l1 kq l0 a1 x8_3 x9_3=some (r1,r2))∧Aside0 (kq≤k2)∧Aside0 (Kd.R (Kd.int .i64) 3 w' w.heap.size (fun _=>True) v8 x8_3)∧Aside0 (Below w.heap.size w w'))
        case atStart=>exact ⟨(([]:List Int)),(0),pE,H',⟨Nat.le_refl _⟩,⟨pN⟩,⟨pB⟩⟩
        case round =>
         clear H'
         try clear c1
         try clear c2
         try clear p2
         try clear p3
         try clear q3
         try clear hx3
         try clear c4
         try clear c4b0
         try clear c5
         try clear c6
         try clear c6b0
         try clear p6
         try clear c7
         try clear c7b0
         try clear c8
         try clear c8b0
         try clear c9
         try clear c9b0
         try clear c10
         try clear c10b0
         try clear c10b1
         try clear c12
         try clear c12b0
         try clear c13
         try clear c13b0
         try clear c13b1
         try clear hx395_0
         try clear p395
         try clear q395
         obtain ⟨x8_3,x9_3,rfl,HA,HK3,HO_8,HB⟩:=hrel
         cases gk with
         | zero=>exact absurd HA.out (by simp [trustquorumref01_Meeting.l1])
         | succ k3 =>
          have H:=HA.out
          clear HA
          simp only [trustquorumref01_Meeting.l1] at H
          by_cases c14:0≤a1
          ·rw [if_pos c14] at H
           have c14b0:=eq_true c14
           have c14b1:decide (0≤a1)=true:=decide_eq_true c14
           clear c14
           obtain ⟨ji15,hji15⟩:∃ j_:Int,(shl .i64 1 a1)=j_:=⟨_,rfl⟩
           replace H:(if x9_3 < (ji15) then (trustquorumref01_Meeting.l2 k3 l0 a1 x8_3 x9_3 true l0 (l0.length:Int) 0) else ((trustquorumref01_Least.f x8_3).bind fun t396=>(some (t396,0))))=some (r1,r2):=by first|(rw [hji15] at H;exact H)|(simp only [hji15] at H ⊢;exact H)
           have hji15_:(IntKind.i64.wrap (1 * 2 ^ min a1.toNat 64))=ji15:=hji15
           have hji15z:a1≤64→(IntKind.i64.wrap (1 * 2 ^ a1.toNat))=ji15:=shl_small hji15
           have hji15u:(IntKind.i64.wrap (2 ^ min a1.toNat 64))=ji15:=by have h_:=hji15_;rw [Int.one_mul] at h_;exact h_
           have hji15v:a1≤64→(IntKind.i64.wrap (2 ^ a1.toNat))=ji15:=fun hle_=>by have h_:=hji15z hle_;rw [Int.one_mul] at h_;exact h_
           have hji15y:(wrap64 (1 * 2 ^ min a1.toNat 64))=ji15:=(i64_w _).symm.trans hji15_
           have hji15x:a1≤64→(wrap64 (1 * 2 ^ a1.toNat))=ji15:=fun h_=>(i64_w _).symm.trans (hji15z h_)
           by_cases c16:x9_3 < (ji15)
           ·rw [if_pos c16] at H
            have c16b0:decide (x9_3 < (ji15))=true:=decide_eq_true c16
            clear c16
            have H':=Z H
            clear H
            go_wp2
            go_loopg [10,45] k3 (fun kq v10 v45 w'=>∃ (x10_4:Bool) (x45_4:Int),v10=.bool x10_4∧v45=.int .i64 x45_4∧Aside0 (trustquorumref01_Meeting.l2 kq l0 a1 x8_3 x9_3 x10_4 l0 (l0.length:Int) x45_4=some (r1,r2))∧Aside0 (kq≤k3)∧Aside0 (Kd.R (Kd.int .i64) 3 w' w.heap.size (fun _=>True) u8 x8_3)∧Aside0 (Below w.heap.size w w'))
            case atStart=>exact ⟨(true),(0),pE,pE,H',⟨Nat.le_refl _⟩,⟨pR HO_8⟩,⟨pB⟩⟩
            case round =>
             clear H'
             try clear c1
             try clear c2
             try clear p2
             try clear p3
             try clear q3
             try clear hx3
             try clear c4
             try clear c4b0
             try clear c5
             try clear c6
             try clear c6b0
             try clear p6
             try clear c7
             try clear c7b0
             try clear c8
             try clear c8b0
             try clear c9
             try clear c9b0
             try clear c10
             try clear c10b0
             try clear c10b1
             try clear c12
             try clear c12b0
             try clear c13
             try clear c13b0
             try clear c13b1
             try clear c14
             try clear c14b0
             try clear c14b1
             try clear c16
             try clear c16b0
             try clear hx395_0
             try clear p395
             try clear q395
             obtain ⟨x10_4,x45_4,rfl,rfl,HA,HK4,HO_8,HB⟩:=hrel
             cases gk with
             | zero=>exact absurd HA.out (by simp [trustquorumref01_Meeting.l2])
             | succ k4 =>
              have H:=HA.out
              clear HA
              simp only [trustquorumref01_Meeting.l2] at H
              by_cases c17:x45_4 < (l0.length:Int)
              ·rw [if_pos c17] at H
               have c17b0:decide (x45_4 < (l0.length:Int))=true:=decide_eq_true c17
               clear c17
               by_cases c18:0≤x45_4
               ·rw [if_pos c18] at H
                have c18b0:decide (0≤x45_4)=true:=decide_eq_true c18
                clear c18
                by_cases c19:x45_4 < (l0.length:Int)
                ·rw [if_pos c19] at H
                 have c19b0:decide (x45_4 < (l0.length:Int))=true:=decide_eq_true c19
                 clear c19
                 by_cases c20:x10_4=true
                 ·subst c20
                  rw [if_pos rfl] at H
                  have H':=Z H
                  clear H
                  have p399:0≤(x45_4:Int):=of_decide_eq_true (by first|(with_reducible assumption)|assumption)
                  have q399:x45_4 < (l0.length:Int):=of_decide_eq_true (by first|(with_reducible assumption)|assumption)
                  obtain ⟨ad399,e399,hx399_0⟩:=Kd.at_int HR0.out x45_4 p399 q399
                  cases e399
                  replace hx399_0:=(HB.out.cell (World.block_lt_of_cell? w _ hx399_0)).trans hx399_0
                  replace p399:=eq_true p399
                  replace q399:=eq_true q399
                  go_wp2
                  go_roundg k4
                  case measure=>have:=HJ2.out;have:=HK2.out;have:=HK3.out;have:=HK4.out;omega
                  case rel=>exact ⟨(((Go.bits .and .i64 (rd l0 x45_4) x9_3) != 0)),(wrap64 (x45_4+1)),pE,pE,H',⟨by have:=HJ2.out;have:=HK2.out;have:=HK3.out;have:=HK4.out;omega⟩,⟨pR HO_8⟩,⟨pB⟩⟩
                 ·replace c20:=Bool.eq_false_iff.mpr c20
                  subst c20
                  rw [if_neg (show ¬ (false=true) by decide)] at H
                  have H':=Z H
                  clear H
                  have p399:0≤(x45_4:Int):=of_decide_eq_true (by first|(with_reducible assumption)|assumption)
                  have q399:x45_4 < (l0.length:Int):=of_decide_eq_true (by first|(with_reducible assumption)|assumption)
                  obtain ⟨ad399,e399,hx399_0⟩:=Kd.at_int HR0.out x45_4 p399 q399
                  cases e399
                  replace hx399_0:=(HB.out.cell (World.block_lt_of_cell? w _ hx399_0)).trans hx399_0
                  replace p399:=eq_true p399
                  replace q399:=eq_true q399
                  go_wp2
                  go_roundg k4
                  case measure=>have:=HJ2.out;have:=HK2.out;have:=HK3.out;have:=HK4.out;omega
                  case rel=>exact ⟨(false),(wrap64 (x45_4+1)),pE,pE,H',⟨by have:=HJ2.out;have:=HK2.out;have:=HK3.out;have:=HK4.out;omega⟩,⟨pR HO_8⟩,⟨pB⟩⟩
                ·rw [if_neg c19] at H
                 exact absurd H (by simp)
               ·rw [if_neg c18] at H
                exact absurd H (by simp)
              ·rw [if_neg c17] at H
               have c17b0:decide (x45_4 < (l0.length:Int))=false:=decide_eq_false c17
               clear c17
               by_cases c21:x10_4=true
               ·subst c21
                rw [if_pos rfl] at H
                by_cases c22:x8_3.length < 17592186044416
                ·rw [if_pos c22] at H
                 have LMc22:=Z c22
                 clear c22
                 obtain ⟨y400,hy400⟩:∃ y_:List Int,y_=(x8_3++[x9_3]):=⟨_,rfl⟩
                 first|rw [← hy400] at H|(replace H:=(Option.bind_some _ _).symm.trans H;rw [← hy400] at H)
                 have Ny400:=Z hy400
                 clear hy400
                 have H':=Z H
                 clear H
                 go_wp2_with (first|((with_reducible refine gate_builtin (b:=.append) (xs:=#[.tmp 58,.tmp 60]) rfl ?_);at_builtin;refine Kd.R_append (Kd.int .i64) (w0:=w) w.heap.size rfl (.tmp 58) (.tmp 60) 22 3 (.int .i64 0) 8 rfl Try.underlying22 info3 rfl (by decide) (by omega) u8 x8_3 x9_3 [.int .i64 x9_3] (fun _=>True) (fun _=>False) rfl rfl ?aP (fun _ hk=>hk.elim) ?aF ?aO ?aB ?aS ?aL ?_;(case aP=>exact rfl);(case aB=>exact pB);(case aF=>exact (fun _ _=>trivial));(case aO=>exact (pR HO_8));(case aS=>exact (below_size pB));(case aL=>have:=LMc22.out;omega);intro v401 w23 ho hb hg hat;rw [← Ny400.out] at ho;have n0_:=Z (hb);have n1_:=Z (ho);clear HB;clear HO_8;have HB:=n0_;have HO402:=n1_;clear n0_ n1_;clear ho hb hg hat))
                 go_roundg k4
                 case measure=>have:=HJ2.out;have:=HK2.out;have:=HK3.out;have:=HK4.out;omega
                 case rel=>exact ⟨(y400),(wrap64 (x9_3+1)),pE,H',⟨by have:=HJ2.out;have:=HK2.out;have:=HK3.out;have:=HK4.out;omega⟩,⟨pR HO402⟩,⟨pB⟩⟩
                ·rw [if_neg c22] at H
                 exact absurd H (by simp)
               ·replace c21:=Bool.eq_false_iff.mpr c21
                subst c21
                rw [if_neg (show ¬ (false=true) by decide)] at H
                have H':=Z H
                clear H
                go_wp2
                go_roundg k4
                case measure=>have:=HJ2.out;have:=HK2.out;have:=HK3.out;have:=HK4.out;omega
                case rel=>exact ⟨(x8_3),(wrap64 (x9_3+1)),pE,H',⟨by have:=HJ2.out;have:=HK2.out;have:=HK3.out;have:=HK4.out;omega⟩,⟨pR HO_8⟩,⟨pB⟩⟩
           ·rw [if_neg c16] at H
            have c16b0:decide (x9_3 < (ji15))=false:=decide_eq_false c16
            clear c16
            replace H:=Option.bind_eq_some_iff.mp H
            obtain ⟨t396,A240,H⟩:=H
            try dsimp only at H
            have A24:=Z A240
            clear A240
            simp only [Option.some.injEq,Prod.mk.injEq] at H
            obtain ⟨rfl,rfl⟩:=H
            obtain ⟨Ao25,co25,eo25⟩:=Kd.R_slice HO_8.out
            subst eo25
            go_wp2_with (first|((with_reducible refine gate_callee (f:=58) rfl ?_);refine goesL_ (some 63) rfl rfl Try.func58 (by kernel_rfl) rfl #[.slice Ao25 x8_3.length co25] rfl pG ?_;(with_reducible refine (trustquorumref01_Least.calls _ _ x8_3 t396 _ ?side1 ?side2 A24.out).mono ?_);(case side1=>repeat (first|exact (Kd.R_reads' HO_8.out).2.2|(with_reducible refine Kd.C_alloc ?_ _)|(with_reducible refine Kd.C_drewN ?_ _)|(with_reducible refine Kd.C_drew ?_)));(case side2=>exact (Kd.R_reads' HO_8.out).2.1);rintro e w26 ⟨v397,rfl,ho0,hb⟩;refine ⟨_,rfl,?_⟩;have n0_:=Z (Kd.R_elder' (pR HO_8) (Kd.R_base ho0) hb);have n1_:=Z (Kd.R_lower (Kd.R_new' ho0 (Kd.R_lt (pR HO_8))) (below_size pB));have n2_:=Z (below_step pB hb);clear HO_8;clear HB;have HO_8:=n0_;have HO398:=n1_;have HB:=n2_;clear n0_ n1_ n2_;(try clear hb);(try clear hb2);(try clear hk);(try clear hi);(try clear ho0)))
            go_ret2
            exact ⟨_,by first|rfl|(simp [errW_none,errW_some] <;> rfl)|(simp only [← hji15];first|rfl|(simp [errW_none,errW_some] <;> rfl))|(simp [*,errW_none,errW_some] <;> rfl),by (with_reducible repeat (first|apply Kd.R_alloc|apply Kd.R_drewN|apply Kd.R_drew));exact Kd.R_mono HO398.out (fun _ hk=>trivial),pB⟩
          ·rw [if_neg c14] at H
           exact absurd H (by simp)
mutual
def trustquorumlaw11_BlockingMeets.l0:Nat→Int→List Int→List Int→Int→Int→List Int→Int→List (S34)→Option (Bool)
 | 0,_,_,_,_,_,_,_,_=>none
 | k+1,x5,x8,x47,x48,x49,x406000,x406001,x411000=>if x49 < x48 then (if 0≤x49 then (if x49 < (x47.length:Int) then (if 0≤x5 then (if x8.length < 17592186044416 then (trustquorumlaw11_BlockingMeets.l0 k x5 (x8++[Go.bits .andNot .i64 (rd x47 x49) (shl .i64 1 x5)]) x47 x48 (wrap64 (x49+1)) x406000 x406001 x411000) else (none)) else (none)) else (none)) else (none)) else (trustquorumlaw11_BlockingMeets.l1 k x5 x8 0 x406000 x406001 x411000)
def trustquorumlaw11_BlockingMeets.l1:Nat→Int→List Int→Int→List Int→Int→List (S34)→Option (Bool)
 | 0,_,_,_,_,_,_=>none
 | k+1,x5,x8,x11,x406000,x406001,x411000=>if x11 < 20 then ((trustquorummake_Tape_N.f x406000 x406001 128).bind fun bt424=>(trustquorumlaw11_BlockingMeets.l2 k x5 x8 x11 bt424.1 true x8 (x8.length:Int) 0 x406000 bt424.2 x411000)) else ((trustquorumref01_Meeting.f k x8 (x411000.length:Int)).bind fun bt430=>((blocking_Least.f k x411000 x5).bind fun bt434=>(if bt430.2=0 then (if bt434.2=0 then ((trustquorummake_Ints.f k bt434.1 bt430.1).bind fun t438=>(if t438=true then ((trustquorumlaw11_awake.f k).bind fun t439=>(some t439)) else (some false))) else (some false)) else (some false))))
def trustquorumlaw11_BlockingMeets.l2:Nat→Int→List Int→Int→Int→Bool→List Int→Int→Int→List Int→Int→List (S34)→Option (Bool)
 | 0,_,_,_,_,_,_,_,_,_,_,_=>none
 | k+1,x5,x8,x11,x12,x13,x67,x68,x69,x406000,x406001,x411000=>if x69 < x68 then (if 0≤x69 then (if x69 < (x67.length:Int) then (if x13=true then (trustquorumlaw11_BlockingMeets.l2 k x5 x8 x11 x12 ((Go.bits .and .i64 x12 (rd x67 x69)) != 0) x67 x68 (wrap64 (x69+1)) x406000 x406001 x411000) else (trustquorumlaw11_BlockingMeets.l2 k x5 x8 x11 x12 false x67 x68 (wrap64 (x69+1)) x406000 x406001 x411000)) else (none)) else (none)) else ((blocking_Blocks.f k x411000 x5 x12).bind fun t427=>(if (t427 != x13)=true then (some false) else ((blocking_Blocks.f k x411000 x5 x12).bind fun t428=>(if 0≤x5 then ((blocking_Blocks.f k x411000 x5 (Go.bits .or .i64 x12 (shl .i64 1 x5))).bind fun t429=>(if (t428 != t429)=true then (some false) else (trustquorumlaw11_BlockingMeets.l1 k x5 x8 (wrap64 (x11+1)) x406000 x406001 x411000))) else (none)))))
end
def trustquorumlaw11_BlockingMeets.f (k:Nat) (l0:List Int):Option (Bool):=(trustquorummake_New.f l0).bind fun bt403=>((trustquorummake_Config.f k bt403.1 bt403.2 7).bind fun bt406=>((trustquorummake_Tape_N.f bt403.1 bt406.2 (bt406.1.length:Int)).bind fun bt411=>(if 0≤bt411.1 then (if bt411.1 < (bt406.1.length:Int) then (if ((rd_T34 bt406.1 bt411.1).f0=true) then ((trustquorumref05_Slices.f k ((rd_T34 bt406.1 bt411.1).f1.f0) ((rd_T34 bt406.1 bt411.1).f1.f1) ((rd_T34 bt406.1 bt411.1).f1.f2)).bind fun bt416=>(trustquorumlaw11_BlockingMeets.l0 k bt411.1 ([]:List Int) bt416.1 (bt416.1.length:Int) 0 bt403.1 bt411.2 bt406.1)) else ((trustquorumlaw11_awake.f k).bind fun t414=>(some t414))) else (none)) else (none))))
def trustquorumlaw11_BlockingMeets.T23:Bool × List (List Nat × List Nat):=(true,[([],[]),([],[]),([],[]),([0,1,2],[0,1,2]),([],[]),([3,4],[3,4]),([5,3],[5]),([6],[6]),([6],[6]),([6],[6]),([7,8,9,6,6],[6,7,8,9]),([6],[6]),([6],[6]),([6],[6]),([6],[6]),([14,6],[6,14]),([13,15,6],[6,13,15]),([11,12,16,10,6],[6,11,12,16]),([10,17,6],[6,10,17]),([6,18],[6,18])])
def trustquorumlaw11_BlockingMeets.B23:List Nat:=[0,0,0,7,0,31,63,127,127,127,1023,127,127,127,127,16511,57471,131071,262143,524287]
theorem trustquorumlaw11_BlockingMeets.tab23:rtab .any (opsOf Try.f3 23)=trustquorumlaw11_BlockingMeets.T23:=by kernel_rfl
theorem trustquorumlaw11_BlockingMeets.bits23:waitsOk trustquorumlaw11_BlockingMeets.T23.2 trustquorumlaw11_BlockingMeets.B23=true:=by kernel_rfl
set_option maxHeartbeats 8000000 in
set_option maxRecDepth 100000 in
theorem trustquorumlaw11_BlockingMeets.calls (k:Nat) (A0:Option Addr) (c0:Nat) (l0:List Int) (w:World) (hr0:Kd.C (Kd.int .i64) w A0 l0.length l0) (hc0:l0.length≤c0) (h:trustquorumlaw11_BlockingMeets.f k l0=some true) :
  Calls Try.prog 3 #[.slice A0 l0.length c0] w fun e w'=>e=.returned (.bool true)∧Below w.heap.size w w':=by
 have hu27:=Try.underlying27
 have hu32:=Try.underlying32
 have HR0:=Z hr0
 have HC0:=Z hc0
 clear hr0 hc0
 have HB:=Z (Below.refl w.heap.size w)
 have H:((trustquorummake_New.f l0).bind fun bt403=>((trustquorummake_Config.f k bt403.1 bt403.2 7).bind fun bt406=>((trustquorummake_Tape_N.f bt403.1 bt406.2 (bt406.1.length:Int)).bind fun bt411=>(if 0≤bt411.1 then (if bt411.1 < (bt406.1.length:Int) then (if ((rd_T34 bt406.1 bt411.1).f0=true) then ((trustquorumref05_Slices.f k ((rd_T34 bt406.1 bt411.1).f1.f0) ((rd_T34 bt406.1 bt411.1).f1.f1) ((rd_T34 bt406.1 bt411.1).f1.f2)).bind fun bt416=>(trustquorumlaw11_BlockingMeets.l0 k bt411.1 ([]:List Int) bt416.1 (bt416.1.length:Int) 0 bt403.1 bt411.2 bt406.1)) else ((trustquorumlaw11_awake.f k).bind fun t414=>(some t414))) else (none)) else (none)))))=some true:=h
 clear h
 replace H:=Option.bind_eq_some_iff.mp H
 obtain ⟨⟨t403,t404⟩,A20,H⟩:=H
 try dsimp only at H
 have A2:=Z A20
 clear A20
 replace H:=Option.bind_eq_some_iff.mp H
 obtain ⟨⟨t406,t409⟩,A30,H⟩:=H
 try dsimp only at H
 have A3:=Z A30
 clear A30
 replace H:=Option.bind_eq_some_iff.mp H
 obtain ⟨⟨t411,t412⟩,A40,H⟩:=H
 try dsimp only at H
 have A4:=Z A40
 clear A40
 by_cases c5:0≤t411
 ·rw [if_pos c5] at H
  have c5b0:decide (0≤t411)=true:=decide_eq_true c5
  clear c5
  by_cases c6:t411 < (t406.length:Int)
  ·rw [if_pos c6] at H
   have c6b0:decide (t411 < (t406.length:Int))=true:=decide_eq_true c6
   clear c6
   obtain ⟨bq7,hbq7⟩:∃ b_:Bool,b_=((rd_T34 t406 t411).f0):=⟨_,rfl⟩
   replace H:(if (bq7=true) then ((trustquorumref05_Slices.f k ((rd_T34 t406 t411).f1.f0) ((rd_T34 t406 t411).f1.f1) ((rd_T34 t406 t411).f1.f2)).bind fun bt416=>(trustquorumlaw11_BlockingMeets.l0 k t411 ([]:List Int) bt416.1 (bt416.1.length:Int) 0 t403 t412 t406)) else ((trustquorumlaw11_awake.f k).bind fun t414=>(some t414)))=some true:=by rw [← hbq7] at H;exact H
   have Nbq7:=Z hbq7
   clear hbq7
   by_cases c8:(bq7=true)
   ·subst c8
    rw [if_pos rfl] at H
    replace H:=Option.bind_eq_some_iff.mp H
    obtain ⟨⟨t416,t419⟩,A90,H⟩:=H
    try dsimp only at H
    have A9:=Z A90
    clear A90
    have H':=Z H
    clear H
    go_enter Try.func3,Try.ntmps3
    go_wp2_with (first|((with_reducible refine gate_callee (f:=14) rfl ?_);refine goesL_ (some 21) rfl rfl Try.func14 (by kernel_rfl) rfl #[.slice A0 l0.length c0] rfl pG ?_;(with_reducible refine (trustquorummake_New.calls _ _ l0 t403 t404 w _ ?side1 ?side2 ?side3 A2.out).mono ?_);(case side1=>exact pB);(case side2=>exact HR0.out);(case side3=>exact HC0.out);rintro e w10 ⟨g405,rfl,hi,hb,hb2⟩;refine ⟨_,rfl,?_⟩;have n0_:=Z (hb);have n1_:=Z (hi);clear HB;have HB:=n0_;have HI405:=n1_;clear n0_ n1_;(try clear hb);(try clear hb2);(try clear hk);(try clear hi))|((with_reducible refine gate_callee (f:=15) rfl ?_);refine goesL_ (some 23) rfl rfl Try.func15 (by kernel_rfl) rfl #[.pointer (some ⟨g405,0,none⟩),.int .i64 7] rfl pG ?_;(with_reducible refine (trustquorummake_Config.calls k g405 t403 t404 7 t406 t409 w _ ?side1 ?side2 A3.out).mono ?_);(case side1=>repeat (first|(with_reducible first|exact HI405.out|apply IsS71.alloc|apply IsS71.drewN|apply IsS71.drew|apply IsS71.set_1)|exact HI405.out));(case side2=>repeat (first|(with_reducible first|exact HB.out|apply wA|apply wN|apply wD|refine wS ?_ (IsS71.ge HI405.out))|exact HB.out));rintro e w11 ⟨v407,rfl,ho0,hi,hb,hk⟩;refine ⟨_,rfl,?_⟩;have n0_:=Z (Kd.R_lower ho0 (below_size (by repeat (first|(with_reducible first|exact HB.out|apply wA|apply wN|apply wD|refine wS ?_ (IsS71.ge HI405.out))|exact HB.out))));have n1_:=Z (hb);have n2_:=Z (hi);clear HB;clear HI405;have HO408:=n0_;have HB:=n1_;have HI405:=n2_;clear n0_ n1_ n2_;(try clear hb);(try clear hb2);(try clear hk);(try clear hi);(try clear ho0))|((with_reducible refine gate_dst (N:=4) rfl ?_);refine box_event ?hg (N:=4) ?hd (cs:=#[.slice none 0 0]) (t:=27) ?hr ?_;(case hd=>rfl);(case hg=>rfl);(case hr=>first|(go_simp;done)|(go_simp;rfl));intro gb410 hg w12 hbox hb;have n0_:=Z (Kd.R_below (pR HO408) hb);have n1_:=Z (IsS71.below (by repeat (first|(with_reducible first|exact HI405.out|apply IsS71.alloc|apply IsS71.drewN|apply IsS71.drew|apply IsS71.set_1)|exact HI405.out)) hb);have n2_:=Z (below_step (by repeat (first|(with_reducible first|exact HB.out|apply wA|apply wN|apply wD|refine wS ?_ (IsS71.ge HI405.out))|exact HB.out)) hb);have n3_:=Z (hbox);have n4_:=Z ((by rw [hg];exact (below_size (by repeat (first|(with_reducible first|exact HB.out|apply wA|apply wN|apply wD|refine wS ?_ (IsS71.ge HI405.out))|exact HB.out))):w.heap.size≤gb410));have n5_:=Z ((by rw [hg];exact (below_size (by repeat (first|(with_reducible first|exact HB.out|apply wA|apply wN|apply wD|refine wS ?_ (IsS71.ge HI405.out))|exact HB.out))):w.heap.size≤gb410));have n6_:=Z ((by rw [hg];exact Nat.ne_of_lt (IsS71.lt (show IsS71 w _ g405 t403 t409 from by repeat (first|(with_reducible first|exact HI405.out|apply IsS71.alloc|apply IsS71.drewN|apply IsS71.drew|apply IsS71.set_1)|exact HI405.out))):g405 ≠ gb410));have n7_:=Z ((by rw [hg];exact Nat.ne_of_gt (IsS71.lt (show IsS71 w _ g405 t403 t409 from by repeat (first|(with_reducible first|exact HI405.out|apply IsS71.alloc|apply IsS71.drewN|apply IsS71.drew|apply IsS71.set_1)|exact HI405.out))):gb410 ≠ g405));clear HO408;clear HI405;clear HB;have HO408:=n0_;have HI405:=n1_;have HB:=n2_;have BK410:=n3_;have GW410:=n4_;have GE410:=n5_;have NB405_410:=n6_;have NB410_405:=n7_;clear n0_ n1_ n2_ n3_ n4_ n5_ n6_ n7_;clear hb hbox hg;obtain ⟨Ao13,co13,eo13⟩:=Kd.R_slice HO408.out;subst eo13;have hnb14:=NB410_405.out;have hnc14:=NB405_410.out;have hcz15_0:w12.cell? ⟨gb410,0,none⟩=some (.slice none 0 0):=(kC BK410.out 0).trans rfl;have hfz15_0:=kF BK410.out 0)|((with_reducible refine gate_callee (f:=16) rfl ?_);refine goesL_ (some 28) rfl rfl Try.func16 (by kernel_rfl) rfl #[.pointer (some ⟨g405,0,none⟩),.int .i64 (t406.length:Int)] rfl pG ?_;(with_reducible refine (trustquorummake_Tape_N.calls g405 t403 t409 (t406.length:Int) t411 t412 w _ ?side1 ?side2 A4.out).mono ?_);(case side1=>repeat (first|(with_reducible first|exact HI405.out|apply IsS71.alloc|apply IsS71.drewN|apply IsS71.drew|apply IsS71.set_1|refine IsS71.far ?_ NB405_410.out _)|exact HI405.out));(case side2=>repeat (first|(with_reducible first|exact HB.out|apply wA|apply wN|apply wD|refine wS ?_ (IsS71.ge HI405.out)|refine wS ?_ GE410.out)|exact HB.out));rintro e w16 ⟨rfl,hi,hb,hk⟩;refine ⟨_,rfl,?_⟩;have n0_:=Z (Kd.R_mono (Kd.R_keep (IsS71.apart (show IsS71 w _ g405 t403 t409 from by repeat (first|(with_reducible first|exact HI405.out|apply IsS71.alloc|apply IsS71.drewN|apply IsS71.drew|apply IsS71.set_1|refine IsS71.far ?_ NB405_410.out _)|exact HI405.out)) (by (with_reducible repeat (first|apply Kd.R_alloc|apply Kd.R_drewN|apply Kd.R_drew));exact (Kd.R_mono (Kd.R_far (p:=⟨gb410,0,none⟩) (Kd.R_types HO408.out BK410.out (by decide)) (fun _ hk=>hk.2) (.slice Ao13 t406.length co13)) (fun _ h_=>h_.1))) (by decide)) hk (fun _ h=>h.2)) (fun _ h=>h.1));have n1_:=Z (KeepBut.blk hk (g':=gb410) (o:=.cells #[.slice Ao13 t406.length co13] 27 (0,0)) (by (with_reducible repeat (first|refine kN ?_ _|refine kD ?_|refine kA ?_ _));refine blk_put (cs:=#[.slice none 0 0]) ?_ 0 _ rfl;(with_reducible repeat (first|refine kN ?_ _|refine kD ?_|refine kA ?_ _));exact BK410.out) NB410_405.out (by simp));have n2_:=Z (hb);have n3_:=Z (hi);clear HO408;clear BK410;clear HB;clear HI405;have HO408:=n0_;have BK410:=n1_;have HB:=n2_;have HI405:=n3_;clear n0_ n1_ n2_ n3_;(try clear hb);(try clear hb2);(try clear hk);(try clear hi);have hcz17_0:w16.cell? ⟨gb410,0,none⟩=some (.slice Ao13 t406.length co13):=(kC BK410.out 0).trans rfl;have hfz17_0:=kF BK410.out 0;have p413:0≤(t411:Int):=of_decide_eq_true (by first|(with_reducible assumption)|assumption);have q413:t411 < (t406.length:Int):=of_decide_eq_true (by first|(with_reducible assumption)|assumption);obtain ⟨ad413,A413_2,c413_2,A413_3,c413_3,e413,hx413_0,hx413_1,hx413_2,hx413_3,hl413_2,hi413_2,hl413_3,hi413_3⟩:=at_T34 (Kd.R_reads' HO408.out).2.2 t411 p413 q413;(try rw [← Nbq7.out] at hx413_0);cases e413;obtain ⟨ce413,hce413,hMe413,hcc413⟩:=Kd.R_get HO408.out z34 t411 p413 (by first|exact q413|exact of_decide_eq_true (by first|(with_reducible assumption)|assumption)|(have e_:=(Kd.R_reads' HO408.out).1;omega));obtain ⟨ve413_2,ve413_3,rfl,ge413_2,ge413_3⟩:=k34_openM hMe413;have hv413_2:=hcc413 2 _ rfl;rw [add_field _ _ 2 (by omega)] at hv413_2;replace hv413_2:=Option.some.inj (hv413_2.symm.trans hx413_2);rw [hv413_2] at ge413_2;have HL413_2:=Z (show Kd.R (Kd.int .i64) 3 _ _ _ _ ((rd_T34 t406 t411).f1.f1) from ge413_2);clear hv413_2 ge413_2;have hv413_3:=hcc413 3 _ rfl;rw [add_field _ _ 3 (by omega)] at hv413_3;replace hv413_3:=Option.some.inj (hv413_3.symm.trans hx413_3);rw [hv413_3] at ge413_3;have HL413_3:=Z (show Kd.R k32 32 _ _ _ _ ((rd_T34 t406 t411).f1.f2) from ge413_3);clear hv413_3 ge413_3;clear hcc413 hce413;have HR413_2:=Z hi413_2;have HC413_2:=Z hl413_2;clear hi413_2 hl413_2;have HR413_3:=Z hi413_3;have HC413_3:=Z hl413_3;clear hi413_3 hl413_3;replace p413:=eq_true p413;replace q413:=eq_true q413;have p415:0≤(t411:Int):=of_decide_eq_true (by first|(with_reducible assumption)|assumption);have q415:t411 < (t406.length:Int):=of_decide_eq_true (by first|(with_reducible assumption)|assumption);obtain ⟨ad415,A415_2,c415_2,A415_3,c415_3,e415,hx415_0,hx415_1,hx415_2,hx415_3,hl415_2,hi415_2,hl415_3,hi415_3⟩:=at_T34 (Kd.R_reads' HO408.out).2.2 t411 p415 q415;(try rw [← Nbq7.out] at hx415_0);obtain rfl:ad413=ad415:=(by injection e415);obtain ⟨ce415,hce415,hMe415,hcc415⟩:=Kd.R_get HO408.out z34 t411 p415 (by first|exact q415|exact of_decide_eq_true (by first|(with_reducible assumption)|assumption)|(have e_:=(Kd.R_reads' HO408.out).1;omega));obtain ⟨ve415_2,ve415_3,rfl,ge415_2,ge415_3⟩:=k34_openM hMe415;have hv415_2:=hcc415 2 _ rfl;rw [add_field _ _ 2 (by omega)] at hv415_2;replace hv415_2:=Option.some.inj (hv415_2.symm.trans hx415_2);rw [hv415_2] at ge415_2;have HL415_2:=Z (show Kd.R (Kd.int .i64) 3 _ _ _ _ ((rd_T34 t406 t411).f1.f1) from ge415_2);clear hv415_2 ge415_2;have hv415_3:=hcc415 3 _ rfl;rw [add_field _ _ 3 (by omega)] at hv415_3;replace hv415_3:=Option.some.inj (hv415_3.symm.trans hx415_3);rw [hv415_3] at ge415_3;have HL415_3:=Z (show Kd.R k32 32 _ _ _ _ ((rd_T34 t406 t411).f1.f2) from ge415_3);clear hv415_3 ge415_3;clear hcc415 hce415;have HR415_2:=Z hi415_2;have HC415_2:=Z hl415_2;clear hi415_2 hl415_2;have HR415_3:=Z hi415_3;have HC415_3:=Z hl415_3;clear hi415_3 hl415_3;replace p415:=eq_true p415;replace q415:=eq_true q415;have ea_:=Option.some.inj (hx413_2.symm.trans hx415_2);injection ea_ with ea_ en_ ec_;subst ea_;subst ec_;clear en_;have ea_:=Option.some.inj (hx413_3.symm.trans hx415_3);injection ea_ with ea_ en_ ec_;subst ea_;subst ec_;clear en_)|((with_reducible refine gate_callee (f:=18) rfl ?_);refine goesL_ (some 44) rfl rfl Try.func18 (by kernel_rfl) rfl #[.agg #[.int .i64 ((rd_T34 t406 t411).f1.f0),.slice A413_2 ((rd_T34 t406 t411).f1.f1).length c413_2,.slice A413_3 ((rd_T34 t406 t411).f1.f2).length c413_3]] rfl pG ?_;(with_reducible refine (trustquorumref05_Slices.calls k ((rd_T34 t406 t411).f1.f0) _ _ ((rd_T34 t406 t411).f1.f1) _ _ ((rd_T34 t406 t411).f1.f2) t416 t419 _ ?side1 ?side2 ?side3 ?side4 A9.out).mono ?_);(case side1=>repeat (first|exact (by repeat (first|(with_reducible exact HR415_2.out)|(with_reducible refine Kd.C_alloc ?_ _)|(with_reducible refine Kd.C_drewN ?_ _)|(with_reducible refine Kd.C_drew ?_)|exact HR415_2.out))|(with_reducible refine Kd.C_alloc ?_ _)|(with_reducible refine Kd.C_drewN ?_ _)|(with_reducible refine Kd.C_drew ?_)));(case side2=>exact HC415_2.out);(case side3=>repeat (first|exact (by repeat (first|(with_reducible exact HR415_3.out)|(with_reducible refine Kd.C_alloc ?_ _)|(with_reducible refine Kd.C_drewN ?_ _)|(with_reducible refine Kd.C_drew ?_)|exact HR415_3.out))|(with_reducible refine Kd.C_alloc ?_ _)|(with_reducible refine Kd.C_drewN ?_ _)|(with_reducible refine Kd.C_drew ?_)));(case side4=>exact HC415_3.out);rintro e w18 ⟨v417,rfl,ho0,hb⟩;refine ⟨_,rfl,?_⟩;have n0_:=Z (Kd.R_elder' (pR HO408) (Kd.R_base ho0) hb);have n1_:=Z (Kd.R_elder' (pR HL413_2) (Kd.R_base ho0) hb);have n2_:=Z (Kd.R_elder' (pR HL413_3) (Kd.R_base ho0) hb);have n3_:=Z (Kd.R_elder' (pR HL415_2) (Kd.R_base ho0) hb);have n4_:=Z (Kd.R_elder' (pR HL415_3) (Kd.R_base ho0) hb);have n5_:=Z (Kd.R_lower (Kd.R_new' (Kd.R_new' ho0 (Kd.R_lt (pR HL413_2))) (Kd.R_lt (pR HL415_2))) (below_size (by repeat (first|(with_reducible first|exact HB.out|apply wA|apply wN|apply wD|refine wS ?_ (IsS71.ge HI405.out)|refine wS ?_ GE410.out)|exact HB.out))));have n6_:=Z (IsS71.below (by repeat (first|(with_reducible first|exact HI405.out|apply IsS71.alloc|apply IsS71.drewN|apply IsS71.drew|apply IsS71.set_1|refine IsS71.far ?_ NB405_410.out _)|exact HI405.out)) hb);have n7_:=Z (blk_below (g:=gb410) (o:=.cells #[.slice (some ad413) t406.length co13] 27 (0,0)) (pK BK410) hb);have n8_:=Z (Kd.C_below (by repeat (first|(with_reducible exact HR413_2.out)|(with_reducible refine Kd.C_alloc ?_ _)|(with_reducible refine Kd.C_drewN ?_ _)|(with_reducible refine Kd.C_drew ?_)|exact HR413_2.out)) hb);have n9_:=Z (Kd.C_below (by repeat (first|(with_reducible exact HR413_3.out)|(with_reducible refine Kd.C_alloc ?_ _)|(with_reducible refine Kd.C_drewN ?_ _)|(with_reducible refine Kd.C_drew ?_)|exact HR413_3.out)) hb);have n10_:=Z (Kd.C_below (by repeat (first|(with_reducible exact HR415_2.out)|(with_reducible refine Kd.C_alloc ?_ _)|(with_reducible refine Kd.C_drewN ?_ _)|(with_reducible refine Kd.C_drew ?_)|exact HR415_2.out)) hb);have n11_:=Z (Kd.C_below (by repeat (first|(with_reducible exact HR415_3.out)|(with_reducible refine Kd.C_alloc ?_ _)|(with_reducible refine Kd.C_drewN ?_ _)|(with_reducible refine Kd.C_drew ?_)|exact HR415_3.out)) hb);have n12_:=Z (below_step (by repeat (first|(with_reducible first|exact HB.out|apply wA|apply wN|apply wD|refine wS ?_ (IsS71.ge HI405.out)|refine wS ?_ GE410.out)|exact HB.out)) hb);clear HO408;clear HL413_2;clear HL413_3;clear HL415_2;clear HL415_3;clear HI405;clear BK410;clear HR413_2;clear HR413_3;clear HR415_2;clear HR415_3;clear HB;have HO408:=n0_;have HL413_2:=n1_;have HL413_3:=n2_;have HL415_2:=n3_;have HL415_3:=n4_;have HO418:=n5_;have HI405:=n6_;have BK410:=n7_;have HR413_2:=n8_;have HR413_3:=n9_;have HR415_2:=n10_;have HR415_3:=n11_;have HB:=n12_;clear n0_ n1_ n2_ n3_ n4_ n5_ n6_ n7_ n8_ n9_ n10_ n11_ n12_;(try clear hb);(try clear hb2);(try clear hk);(try clear hi);(try clear ho0);obtain ⟨Ao19,co19,eo19⟩:=Kd.R_slice HO418.out;subst eo19))
    go_loopg [8,49] k (fun kq v8 v49 w'=>∃ (x8_1:List Int) (x49_1:Int),v49=.int .i64 x49_1∧Aside0 (trustquorumlaw11_BlockingMeets.l0 kq t411 x8_1 t416 (t416.length:Int) x49_1 t403 t412 t406=some true)∧Aside0 (kq≤k)∧Aside0 (Kd.R (Kd.int .i64) 3 w' w.heap.size (fun k_=>some k_ ≠ ((.slice Ao19 t416.length co19):Value).ownBlock) v8 x8_1)∧Aside0 (Kd.R (Kd.int .i64) 3 w' w.heap.size (fun k_=>some k_ ≠ (v8:Value).ownBlock) (.slice Ao19 t416.length co19) t416)∧Aside0 (Kd.R k34 34 w' w.heap.size (fun k_=>some k_ ≠ (v8:Value).ownBlock∧some k_ ≠ ((.slice Ao19 t416.length co19):Value).ownBlock) (.slice (some ad413) t406.length co13) t406)∧Aside0 (w'.heap[gb410]?=some (.cells #[(.slice (some ad413) t406.length co13)] 27 (0,0)))∧Aside0 (IsS71 w w' g405 t403 t412)∧Aside0 (Below w.heap.size w w'))
    case atStart=>exact ⟨(([]:List Int)),(0),pE,H',⟨Nat.le_refl _⟩,⟨pN⟩,⟨by (with_reducible repeat (first|apply Kd.R_alloc|apply Kd.R_drewN|apply Kd.R_drew));exact Kd.R_mono HO418.out (fun _ hk=>(by simp [Value.ownBlock]))⟩,⟨by (with_reducible repeat (first|apply Kd.R_alloc|apply Kd.R_drewN|apply Kd.R_drew));exact Kd.R_mono HO408.out (fun _ hk=>⟨(by simp [Value.ownBlock]),hk.2⟩)⟩,⟨pK BK410⟩,⟨by repeat (first|(with_reducible first|exact HI405.out|apply IsS71.alloc|apply IsS71.drewN|apply IsS71.drew|apply IsS71.set_1|refine IsS71.far ?_ NB405_410.out _)|exact HI405.out)⟩,⟨by repeat (first|(with_reducible first|exact HB.out|apply wA|apply wN|apply wD|refine wS ?_ (IsS71.ge HI405.out)|refine wS ?_ GE410.out)|exact HB.out)⟩⟩
    case round =>
     clear H'
     try clear c1
     try clear p2
     try clear c3
     try clear c4
     try clear p4
     try clear q4
     try clear hx4
     try clear c5
     try clear c5b0
     try clear c6
     try clear c6b0
     try clear q7
     try clear c8
     try clear c14
     try clear c15
     try clear c16
     try clear c18
     try clear hcz15_0
     try clear hcz17_0
     try clear hfz15_0
     try clear hfz17_0
     try clear hx413_0
     try clear hx413_1
     try clear hx413_2
     try clear hx413_3
     try clear hx415_0
     try clear hx415_1
     try clear hx415_2
     try clear hx415_3
     try clear p413
     try clear p415
     try clear q413
     try clear q415
     obtain ⟨x8_1,x49_1,rfl,HA,HK1,HO_8,HO_47,HO_411000,BK410,HI405,HB⟩:=hrel
     cases gk with
     | zero=>exact absurd HA.out (by simp [trustquorumlaw11_BlockingMeets.l0])
     | succ k1 =>
      have H:=HA.out
      clear HA
      simp only [trustquorumlaw11_BlockingMeets.l0] at H
      by_cases c20:x49_1 < (t416.length:Int)
      ·rw [if_pos c20] at H
       have c20b0:decide (x49_1 < (t416.length:Int))=true:=decide_eq_true c20
       clear c20
       by_cases c21:0≤x49_1
       ·rw [if_pos c21] at H
        have c21b0:decide (0≤x49_1)=true:=decide_eq_true c21
        clear c21
        by_cases c22:x49_1 < (t416.length:Int)
        ·rw [if_pos c22] at H
         have c22b0:decide (x49_1 < (t416.length:Int))=true:=decide_eq_true c22
         clear c22
         by_cases c23:0≤t411
         ·rw [if_pos c23] at H
          have c23b0:=eq_true c23
          have c23b1:decide (0≤t411)=true:=decide_eq_true c23
          clear c23
          obtain ⟨ji24,hji24⟩:∃ j_:Int,(shl .i64 1 t411)=j_:=⟨_,rfl⟩
          replace H:(if x8_1.length < 17592186044416 then (trustquorumlaw11_BlockingMeets.l0 k1 t411 (x8_1++[Go.bits .andNot .i64 (rd t416 x49_1) (ji24)]) t416 (t416.length:Int) (wrap64 (x49_1+1)) t403 t412 t406) else (none))=some true:=by first|(rw [hji24] at H;exact H)|(simp only [hji24] at H ⊢;exact H)
          have hji24_:(IntKind.i64.wrap (1 * 2 ^ min t411.toNat 64))=ji24:=hji24
          have hji24z:t411≤64→(IntKind.i64.wrap (1 * 2 ^ t411.toNat))=ji24:=shl_small hji24
          have hji24u:(IntKind.i64.wrap (2 ^ min t411.toNat 64))=ji24:=by have h_:=hji24_;rw [Int.one_mul] at h_;exact h_
          have hji24v:t411≤64→(IntKind.i64.wrap (2 ^ t411.toNat))=ji24:=fun hle_=>by have h_:=hji24z hle_;rw [Int.one_mul] at h_;exact h_
          have hji24y:(wrap64 (1 * 2 ^ min t411.toNat 64))=ji24:=(i64_w _).symm.trans hji24_
          have hji24x:t411≤64→(wrap64 (1 * 2 ^ t411.toNat))=ji24:=fun h_=>(i64_w _).symm.trans (hji24z h_)
          by_cases c25:x8_1.length < 17592186044416
          ·rw [if_pos c25] at H
           have LMc25:=Z c25
           clear c25
           obtain ⟨y421,hy421⟩:∃ y_:List Int,y_=(x8_1++[Go.bits .andNot .i64 (rd t416 x49_1) (ji24)]):=⟨_,rfl⟩
           first|rw [← hy421] at H|(replace H:=(Option.bind_some _ _).symm.trans H;rw [← hy421] at H)
           have Ny421:=Z hy421
           clear hy421
           have H':=Z H
           clear H
           have p420:0≤(x49_1:Int):=of_decide_eq_true (by first|(with_reducible assumption)|assumption)
           have q420:x49_1 < (t416.length:Int):=of_decide_eq_true (by first|(with_reducible assumption)|assumption)
           obtain ⟨ad420,e420,hx420_0⟩:=Kd.at_int (Kd.R_reads' HO_47.out).2.2 x49_1 p420 q420
           cases e420
           replace p420:=eq_true p420
           replace q420:=eq_true q420
           go_wp2_with (first|((with_reducible refine gate_builtin (b:=.append) (xs:=#[.tmp 53,.tmp 58]) rfl ?_);at_builtin;refine Kd.R_append (Kd.int .i64) (w0:=w) w.heap.size rfl (.tmp 53) (.tmp 58) 22 3 (.int .i64 0) 8 rfl Try.underlying22 info3 rfl (by decide) (by omega) u8 x8_1 (Go.bits .andNot .i64 (rd t416 x49_1) (ji24)) [.int .i64 (Go.bits .andNot .i64 (rd t416 x49_1) (ji24))] (fun k_=>some k_ ≠ (.slice (some ad420) t416.length co19:Value).ownBlock) (fun _=>False) rfl rfl ?aP (fun _ hk=>hk.elim) ?aF ?aO ?aB ?aS ?aL ?_;(case aP=>exact rfl);(case aB=>exact (by repeat (first|(with_reducible first|exact HB.out|apply wA|apply wN|apply wD|refine wS ?_ (IsS71.ge HI405.out)|refine wS ?_ GE410.out)|exact HB.out)));(case aF=>exact (fun k_ hk=>Kd.fresh' (Kd.R_lt (pR HO_47)) k_ hk));(case aO=>exact (pR HO_8));(case aS=>exact (below_size (by repeat (first|(with_reducible first|exact HB.out|apply wA|apply wN|apply wD|refine wS ?_ (IsS71.ge HI405.out)|refine wS ?_ GE410.out)|exact HB.out))));(case aL=>have:=LMc25.out;omega);intro v422 w26 ho hb hg hat;rw [← Ny421.out] at ho;have n0_:=Z (Kd.R_after (ok:=(fun _=>True)) (by (with_reducible repeat (first|apply Kd.R_alloc|apply Kd.R_drewN|apply Kd.R_drew));exact Kd.R_mono HO_47.out (fun _ hk=>⟨trivial,hk⟩)) hg hat);have n1_:=Z (Kd.R_after (ok:=(fun k_=>some k_ ≠ (.slice (some ad420) t416.length co19:Value).ownBlock)) (by (with_reducible repeat (first|apply Kd.R_alloc|apply Kd.R_drewN|apply Kd.R_drew));exact Kd.R_mono HO_411000.out (fun _ hk=>⟨hk.2,hk.1⟩)) hg hat);have n2_:=Z (blk_grown (g:=gb410) (o:=.cells #[.slice (some ad413) t406.length co13] 27 (0,0)) (pK BK410) hg (Kd.R_ne HO_8.out BK410.out (by decide)));have n3_:=Z (IsS71.grown (by repeat (first|(with_reducible first|exact HI405.out|apply IsS71.alloc|apply IsS71.drewN|apply IsS71.drew|apply IsS71.set_1|refine IsS71.far ?_ NB405_410.out _)|exact HI405.out)) hg (IsS71.own_ne HI405.out HO_8.out (by decide)));have n4_:=Z (hb);have n5_:=Z (ho);clear HO_47;clear HO_411000;clear BK410;clear HI405;clear HB;clear HO_8;have HO_47:=n0_;have HO_411000:=n1_;have BK410:=n2_;have HI405:=n3_;have HB:=n4_;have HO423:=n5_;clear n0_ n1_ n2_ n3_ n4_ n5_;clear ho hb hg hat))
           go_roundg k1
           case measure=>have:=HK1.out;omega
           case rel=>exact ⟨(y421),(wrap64 (x49_1+1)),pE,H',⟨by have:=HK1.out;omega⟩,⟨pR HO423⟩,⟨by (with_reducible repeat (first|apply Kd.R_alloc|apply Kd.R_drewN|apply Kd.R_drew));exact Kd.R_mono HO_47.out (fun _ hk=>hk.2)⟩,⟨by (with_reducible repeat (first|apply Kd.R_alloc|apply Kd.R_drewN|apply Kd.R_drew));exact Kd.R_mono HO_411000.out (fun _ hk=>⟨hk.2,hk.1⟩)⟩,⟨pK BK410⟩,⟨by repeat (first|(with_reducible first|exact HI405.out|apply IsS71.alloc|apply IsS71.drewN|apply IsS71.drew|apply IsS71.set_1|refine IsS71.far ?_ NB405_410.out _)|exact HI405.out)⟩,⟨by repeat (first|(with_reducible first|exact HB.out|apply wA|apply wN|apply wD|refine wS ?_ (IsS71.ge HI405.out)|refine wS ?_ GE410.out)|exact HB.out)⟩⟩
          ·rw [if_neg c25] at H
           exact absurd H (by simp)
         ·rw [if_neg c23] at H
          exact absurd H (by simp)
        ·rw [if_neg c22] at H
         exact absurd H (by simp)
       ·rw [if_neg c21] at H
        exact absurd H (by simp)
      ·rw [if_neg c20] at H
       have c20b0:decide (x49_1 < (t416.length:Int))=false:=decide_eq_false c20
       clear c20
       have H':=Z H
       clear H
       go_wp2
       go_loopg [11] k1 (fun kq v11 w'=>∃ (x11_2:Int) (x406001_2:Int),v11=.int .i64 x11_2∧Aside0 (trustquorumlaw11_BlockingMeets.l1 kq t411 x8_1 x11_2 t403 x406001_2 t406=some true)∧Aside0 (kq≤k1)∧Aside0 (Kd.R (Kd.int .i64) 3 w' w.heap.size (fun _=>True) u8 x8_1)∧Aside0 (Kd.R k34 34 w' w.heap.size (fun k_=>some k_ ≠ (u8:Value).ownBlock) (.slice (some ad413) t406.length co13) t406)∧Aside0 (w'.heap[gb410]?=some (.cells #[(.slice (some ad413) t406.length co13)] 27 (0,0)))∧Aside0 (IsS71 w w' g405 t403 x406001_2)∧Aside0 (Below w.heap.size w w'))
       case atStart=>exact ⟨(0),(t412),pE,H',⟨Nat.le_refl _⟩,⟨by (with_reducible repeat (first|apply Kd.R_alloc|apply Kd.R_drewN|apply Kd.R_drew));exact Kd.R_mono HO_8.out (fun _ hk=>trivial)⟩,⟨by (with_reducible repeat (first|apply Kd.R_alloc|apply Kd.R_drewN|apply Kd.R_drew));exact Kd.R_mono HO_411000.out (fun _ hk=>hk.1)⟩,⟨pK BK410⟩,⟨by repeat (first|(with_reducible first|exact HI405.out|apply IsS71.alloc|apply IsS71.drewN|apply IsS71.drew|apply IsS71.set_1|refine IsS71.far ?_ NB405_410.out _)|exact HI405.out)⟩,⟨by repeat (first|(with_reducible first|exact HB.out|apply wA|apply wN|apply wD|refine wS ?_ (IsS71.ge HI405.out)|refine wS ?_ GE410.out)|exact HB.out)⟩⟩
       case round =>
        clear H'
        try clear c1
        try clear c2
        try clear p2
        try clear c3
        try clear c4
        try clear p4
        try clear q4
        try clear hx4
        try clear c5
        try clear c5b0
        try clear c6
        try clear c6b0
        try clear p6
        try clear q7
        try clear c8
        try clear c14
        try clear c15
        try clear c16
        try clear c18
        try clear c20
        try clear c20b0
        try clear c21
        try clear c21b0
        try clear c22
        try clear c22b0
        try clear c23
        try clear c23b0
        try clear c23b1
        try clear c25
        try clear hcz15_0
        try clear hcz17_0
        try clear hfz15_0
        try clear hfz17_0
        try clear hx413_0
        try clear hx413_1
        try clear hx413_2
        try clear hx413_3
        try clear hx415_0
        try clear hx415_1
        try clear hx415_2
        try clear hx415_3
        try clear hx420_0
        try clear p413
        try clear p415
        try clear p420
        try clear q413
        try clear q415
        try clear q420
        obtain ⟨x11_2,x406001_2,rfl,HA,HK2,HO_8,HO_411000,BK410,HI405,HB⟩:=hrel
        cases gk with
        | zero=>exact absurd HA.out (by simp [trustquorumlaw11_BlockingMeets.l1])
        | succ k2 =>
         have H:=HA.out
         clear HA
         simp only [trustquorumlaw11_BlockingMeets.l1] at H
         by_cases c27:x11_2 < 20
         ·rw [if_pos c27] at H
          have c27b0:decide (x11_2 < 20)=true:=decide_eq_true c27
          clear c27
          replace H:=Option.bind_eq_some_iff.mp H
          obtain ⟨⟨t424,t425⟩,A280,H⟩:=H
          try dsimp only at H
          have A28:=Z A280
          clear A280
          have H':=Z H
          clear H
          go_wp2_with (first|((with_reducible refine gate_callee (f:=16) rfl ?_);refine goesL_ (some 66) rfl rfl Try.func16 (by kernel_rfl) rfl #[.pointer (some ⟨g405,0,none⟩),.int .i64 128] rfl pG ?_;(with_reducible refine (trustquorummake_Tape_N.calls g405 t403 x406001_2 128 t424 t425 w _ ?side1 ?side2 A28.out).mono ?_);(case side1=>repeat (first|(with_reducible first|exact HI405.out|apply IsS71.alloc|apply IsS71.drewN|apply IsS71.drew|apply IsS71.set_1|refine IsS71.far ?_ NB405_410.out _)|exact HI405.out));(case side2=>repeat (first|(with_reducible first|exact HB.out|apply wA|apply wN|apply wD|refine wS ?_ (IsS71.ge HI405.out)|refine wS ?_ GE410.out)|exact HB.out));rintro e w29 ⟨rfl,hi,hb,hk⟩;refine ⟨_,rfl,?_⟩;have n0_:=Z (Kd.R_mono (Kd.R_keep (IsS71.apart (show IsS71 w _ g405 t403 x406001_2 from by repeat (first|(with_reducible first|exact HI405.out|apply IsS71.alloc|apply IsS71.drewN|apply IsS71.drew|apply IsS71.set_1|refine IsS71.far ?_ NB405_410.out _)|exact HI405.out)) (pR HO_8) (by decide)) hk (fun _ h=>h.2)) (fun _ h=>h.1));have n1_:=Z (Kd.R_mono (Kd.R_keep (IsS71.apart (show IsS71 w _ g405 t403 x406001_2 from by repeat (first|(with_reducible first|exact HI405.out|apply IsS71.alloc|apply IsS71.drewN|apply IsS71.drew|apply IsS71.set_1|refine IsS71.far ?_ NB405_410.out _)|exact HI405.out)) (pR HO_411000) (by decide)) hk (fun _ h=>h.2)) (fun _ h=>h.1));have n2_:=Z (KeepBut.blk hk (g':=gb410) (o:=.cells #[.slice (some ad413) t406.length co13] 27 (0,0)) (pK BK410) NB410_405.out (by simp));have n3_:=Z (hb);have n4_:=Z (hi);clear HO_8;clear HO_411000;clear BK410;clear HB;clear HI405;have HO_8:=n0_;have HO_411000:=n1_;have BK410:=n2_;have HB:=n3_;have HI405:=n4_;clear n0_ n1_ n2_ n3_ n4_;(try clear hb);(try clear hb2);(try clear hk);(try clear hi);obtain ⟨Ao30,co30,eo30⟩:=Kd.R_slice HO_8.out;subst eo30))
          go_loopg [13,69] k2 (fun kq v13 v69 w'=>∃ (x13_3:Bool) (x69_3:Int),v13=.bool x13_3∧v69=.int .i64 x69_3∧Aside0 (trustquorumlaw11_BlockingMeets.l2 kq t411 x8_1 x11_2 t424 x13_3 x8_1 (x8_1.length:Int) x69_3 t403 t425 t406=some true)∧Aside0 (kq≤k2)∧Aside0 (Kd.R (Kd.int .i64) 3 w' w.heap.size (fun _=>True) (.slice Ao30 x8_1.length co30) x8_1)∧Aside0 (Kd.R (Kd.int .i64) 3 w' w.heap.size (fun _=>True) (.slice Ao30 x8_1.length co30) x8_1)∧Aside0 (Kd.R k34 34 w' w.heap.size (fun k_=>some k_ ≠ ((.slice Ao30 x8_1.length co30):Value).ownBlock∧some k_ ≠ ((.slice Ao30 x8_1.length co30):Value).ownBlock) (.slice (some ad413) t406.length co13) t406)∧Aside0 (w'.heap[gb410]?=some (.cells #[(.slice (some ad413) t406.length co13)] 27 (0,0)))∧Aside0 (IsS71 w w' g405 t403 t425)∧Aside0 (Below w.heap.size w w'))
          case atStart=>exact ⟨(true),(0),pE,pE,H',⟨Nat.le_refl _⟩,⟨pR HO_8⟩,⟨pR HO_8⟩,⟨by (with_reducible repeat (first|apply Kd.R_alloc|apply Kd.R_drewN|apply Kd.R_drew));exact Kd.R_mono HO_411000.out (fun _ hk=>⟨hk,hk⟩)⟩,⟨pK BK410⟩,⟨by repeat (first|(with_reducible first|exact HI405.out|apply IsS71.alloc|apply IsS71.drewN|apply IsS71.drew|apply IsS71.set_1|refine IsS71.far ?_ NB405_410.out _)|exact HI405.out)⟩,⟨by repeat (first|(with_reducible first|exact HB.out|apply wA|apply wN|apply wD|refine wS ?_ (IsS71.ge HI405.out)|refine wS ?_ GE410.out)|exact HB.out)⟩⟩
          case round =>
           clear H'
           try clear c1
           try clear c2
           try clear p2
           try clear c3
           try clear c4
           try clear p4
           try clear q4
           try clear hx4
           try clear c5
           try clear c5b0
           try clear c6
           try clear c6b0
           try clear p6
           try clear q7
           try clear c8
           try clear c14
           try clear c15
           try clear c16
           try clear c18
           try clear c20
           try clear c20b0
           try clear c21
           try clear c21b0
           try clear c22
           try clear c22b0
           try clear c23
           try clear c23b0
           try clear c23b1
           try clear c25
           try clear c27
           try clear c27b0
           try clear hcz15_0
           try clear hcz17_0
           try clear hfz15_0
           try clear hfz17_0
           try clear hx413_0
           try clear hx413_1
           try clear hx413_2
           try clear hx413_3
           try clear hx415_0
           try clear hx415_1
           try clear hx415_2
           try clear hx415_3
           try clear hx420_0
           try clear p413
           try clear p415
           try clear p420
           try clear q413
           try clear q415
           try clear q420
           obtain ⟨x13_3,x69_3,rfl,rfl,HA,HK3,HO_8,HO_67,HO_411000,BK410,HI405,HB⟩:=hrel
           cases gk with
           | zero=>exact absurd HA.out (by simp [trustquorumlaw11_BlockingMeets.l2])
           | succ k3 =>
            have H:=HA.out
            clear HA
            simp only [trustquorumlaw11_BlockingMeets.l2] at H
            by_cases c31:x69_3 < (x8_1.length:Int)
            ·rw [if_pos c31] at H
             have c31b0:decide (x69_3 < (x8_1.length:Int))=true:=decide_eq_true c31
             clear c31
             by_cases c32:0≤x69_3
             ·rw [if_pos c32] at H
              have c32b0:decide (0≤x69_3)=true:=decide_eq_true c32
              clear c32
              by_cases c33:x69_3 < (x8_1.length:Int)
              ·rw [if_pos c33] at H
               have c33b0:decide (x69_3 < (x8_1.length:Int))=true:=decide_eq_true c33
               clear c33
               by_cases c34:x13_3=true
               ·subst c34
                rw [if_pos rfl] at H
                have H':=Z H
                clear H
                have p426:0≤(x69_3:Int):=of_decide_eq_true (by first|(with_reducible assumption)|assumption)
                have q426:x69_3 < (x8_1.length:Int):=of_decide_eq_true (by first|(with_reducible assumption)|assumption)
                obtain ⟨ad426,e426,hx426_0⟩:=Kd.at_int (Kd.R_reads' HO_67.out).2.2 x69_3 p426 q426
                cases e426
                replace p426:=eq_true p426
                replace q426:=eq_true q426
                go_wp2
                go_roundg k3
                case measure=>have:=HK1.out;have:=HK2.out;have:=HK3.out;omega
                case rel=>exact ⟨(((Go.bits .and .i64 t424 (rd x8_1 x69_3)) != 0)),(wrap64 (x69_3+1)),pE,pE,H',⟨by have:=HK1.out;have:=HK2.out;have:=HK3.out;omega⟩,⟨pR HO_8⟩,⟨pR HO_67⟩,⟨pR HO_411000⟩,⟨pK BK410⟩,⟨by repeat (first|(with_reducible first|exact HI405.out|apply IsS71.alloc|apply IsS71.drewN|apply IsS71.drew|apply IsS71.set_1|refine IsS71.far ?_ NB405_410.out _)|exact HI405.out)⟩,⟨by repeat (first|(with_reducible first|exact HB.out|apply wA|apply wN|apply wD|refine wS ?_ (IsS71.ge HI405.out)|refine wS ?_ GE410.out)|exact HB.out)⟩⟩
               ·replace c34:=Bool.eq_false_iff.mpr c34
                subst c34
                rw [if_neg (show ¬ (false=true) by decide)] at H
                have H':=Z H
                clear H
                have p426:0≤(x69_3:Int):=of_decide_eq_true (by first|(with_reducible assumption)|assumption)
                have q426:x69_3 < (x8_1.length:Int):=of_decide_eq_true (by first|(with_reducible assumption)|assumption)
                obtain ⟨ad426,e426,hx426_0⟩:=Kd.at_int (Kd.R_reads' HO_67.out).2.2 x69_3 p426 q426
                cases e426
                replace p426:=eq_true p426
                replace q426:=eq_true q426
                go_wp2
                go_roundg k3
                case measure=>have:=HK1.out;have:=HK2.out;have:=HK3.out;omega
                case rel=>exact ⟨(false),(wrap64 (x69_3+1)),pE,pE,H',⟨by have:=HK1.out;have:=HK2.out;have:=HK3.out;omega⟩,⟨pR HO_8⟩,⟨pR HO_67⟩,⟨pR HO_411000⟩,⟨pK BK410⟩,⟨by repeat (first|(with_reducible first|exact HI405.out|apply IsS71.alloc|apply IsS71.drewN|apply IsS71.drew|apply IsS71.set_1|refine IsS71.far ?_ NB405_410.out _)|exact HI405.out)⟩,⟨by repeat (first|(with_reducible first|exact HB.out|apply wA|apply wN|apply wD|refine wS ?_ (IsS71.ge HI405.out)|refine wS ?_ GE410.out)|exact HB.out)⟩⟩
              ·rw [if_neg c33] at H
               exact absurd H (by simp)
             ·rw [if_neg c32] at H
              exact absurd H (by simp)
            ·rw [if_neg c31] at H
             have c31b0:decide (x69_3 < (x8_1.length:Int))=false:=decide_eq_false c31
             clear c31
             replace H:=Option.bind_eq_some_iff.mp H
             obtain ⟨t427,A350,H⟩:=H
             try dsimp only at H
             have A35:=Z A350
             clear A350
             by_cases c36:(t427 != x13_3)=true
             ·rw [if_pos c36] at H
              have c36b0:(t427 != x13_3)=true:=c36
              (try (have c36b1:decide (t427=x13_3)=false:=by simpa using c36))
              (try (have c36b2:(t427 == x13_3)=false:=by simpa using c36))
              (try (have c36b3:¬ (t427=x13_3):=by simpa using c36))
              clear c36
              exact absurd H (by simp)
             ·rw [if_neg c36] at H
              have c36b0:(t427 != x13_3)=false:=by simpa using c36
              (try (have c36b1:decide (t427=x13_3)=true:=by simpa using c36))
              (try (have c36b2:(t427 == x13_3)=true:=by simpa using c36))
              clear c36
              replace H:=Option.bind_eq_some_iff.mp H
              obtain ⟨t428,A370,H⟩:=H
              try dsimp only at H
              have A37:=Z A370
              clear A370
              by_cases c38:0≤t411
              ·rw [if_pos c38] at H
               have c38b0:=eq_true c38
               have c38b1:decide (0≤t411)=true:=decide_eq_true c38
               clear c38
               obtain ⟨ji39,hji39⟩:∃ j_:Int,(shl .i64 1 t411)=j_:=⟨_,rfl⟩
               replace H:((blocking_Blocks.f k3 t406 t411 (Go.bits .or .i64 t424 (ji39))).bind fun t429=>(if (t428 != t429)=true then (some false) else (trustquorumlaw11_BlockingMeets.l1 k3 t411 x8_1 (wrap64 (x11_2+1)) t403 t425 t406)))=some true:=by first|(rw [hji39] at H;exact H)|(simp only [hji39] at H ⊢;exact H)
               (try rw [hji39] at A35)
               (try rw [hji39] at A37)
               have hji39_:(IntKind.i64.wrap (1 * 2 ^ min t411.toNat 64))=ji39:=hji39
               have hji39z:t411≤64→(IntKind.i64.wrap (1 * 2 ^ t411.toNat))=ji39:=shl_small hji39
               have hji39u:(IntKind.i64.wrap (2 ^ min t411.toNat 64))=ji39:=by have h_:=hji39_;rw [Int.one_mul] at h_;exact h_
               have hji39v:t411≤64→(IntKind.i64.wrap (2 ^ t411.toNat))=ji39:=fun hle_=>by have h_:=hji39z hle_;rw [Int.one_mul] at h_;exact h_
               have hji39y:(wrap64 (1 * 2 ^ min t411.toNat 64))=ji39:=(i64_w _).symm.trans hji39_
               have hji39x:t411≤64→(wrap64 (1 * 2 ^ t411.toNat))=ji39:=fun h_=>(i64_w _).symm.trans (hji39z h_)
               replace H:=Option.bind_eq_some_iff.mp H
               obtain ⟨t429,A400,H⟩:=H
               try dsimp only at H
               have A40:=Z A400
               clear A400
               by_cases c41:(t428 != t429)=true
               ·rw [if_pos c41] at H
                have c41b0:(t428 != t429)=true:=c41
                (try (have c41b1:decide (t428=t429)=false:=by simpa using c41))
                (try (have c41b2:(t428 == t429)=false:=by simpa using c41))
                (try (have c41b3:¬ (t428=t429):=by simpa using c41))
                clear c41
                exact absurd H (by simp)
               ·rw [if_neg c41] at H
                have c41b0:(t428 != t429)=false:=by simpa using c41
                (try (have c41b1:decide (t428=t429)=true:=by simpa using c41))
                (try (have c41b2:(t428 == t429)=true:=by simpa using c41))
                clear c41
                have H':=Z H
                clear H
                try go_wp2
                have n0_:=Z (Kd.R_drew HO_8.out)
                have n1_:=Z (Kd.R_drew HO_67.out)
                have n2_:=Z (Kd.R_drew HO_411000.out)
                have n3_:=Z (kD BK410.out)
                have n4_:=Z (IsS71.drew HI405.out)
                have n5_:=Z (wD HB.out)
                clear HO_8
                clear HO_67
                clear HO_411000
                clear BK410
                clear HI405
                clear HB
                have HO_8:=n0_
                have HO_67:=n1_
                have HO_411000:=n2_
                have BK410:=n3_
                have HI405:=n4_
                have HB:=n5_
                clear n0_ n1_ n2_ n3_ n4_ n5_
                refine start_ (n:=20) (S:=fun w'=>w'.cell? ⟨gb410,0,none⟩=some (.slice (some ad413) t406.length co13)) (ds:=[]) #[false,false,false,false,false,false,false,false,false,false,false,false,false,false,false,false,false,false,false,false] (by kernel_rfl) rfl rfl ((kC BK410.out 0).trans rfl) (fun hHeld=>?_);refine with_tabW trustquorumlaw11_BlockingMeets.tab23 trustquorumlaw11_BlockingMeets.bits23 (fun HT_ HW_=>?_)
                generalize wr.drew=w42 at HO_8 HO_67 HO_411000 BK410 HI405 HB hHeld ⊢
                refine pure_ (i:=1) (N:=some 82) (v:=?_) (a':=?_) #[false,true,false,false,false,false,false,false,false,false,false,false,false,false,false,false,false,false,false,false] rfl rfl (any_of HT_.out (by kernel_rfl)) (fun _ _ _ h=>h) (Or.inl ⟨by rfl,?_⟩) ?_ ?_
                rotate_left
                ·intro w'
                 go_simp
                 with_reducible rfl
                rotate_left
                ·simp only [Act.put,List.setIfInBounds_toArray,List.set_cons_zero,List.set_cons_succ,i64_w,i32_w]
                 rfl
                refine pure_ (i:=2) (N:=some 83) (v:=?_) (a':=?_) #[false,true,true,false,false,false,false,false,false,false,false,false,false,false,false,false,false,false,false,false] rfl rfl (any_of HT_.out (by kernel_rfl)) (fun _ _ _ h=>h) (Or.inl ⟨by rfl,?_⟩) ?_ ?_
                rotate_left
                ·intro w'
                 go_simp
                 with_reducible rfl
                rotate_left
                ·simp only [Act.put,List.setIfInBounds_toArray,List.set_cons_zero,List.set_cons_succ,i64_w,i32_w]
                 rfl
                refine pure_ (i:=4) (N:=some 85) (v:=?_) (a':=?_) #[false,true,true,false,true,false,false,false,false,false,false,false,false,false,false,false,false,false,false,false] rfl rfl (any_of HT_.out (by kernel_rfl)) (fun _ _ _ h=>h) (Or.inl ⟨by rfl,?_⟩) ?_ ?_
                rotate_left
                ·intro w'
                 go_simp
                 with_reducible rfl
                rotate_left
                ·simp only [Act.put,List.setIfInBounds_toArray,List.set_cons_zero,List.set_cons_succ,i64_w,i32_w]
                 rfl
                refine take_ (i:=0) (N:=some 81) (v:=?_) (a':=?_) #[true,true,true,false,true,false,false,false,false,false,false,false,false,false,false,false,false,false,false,false] rfl rfl (take_ofW HT_.out HW_.out (by kernel_rfl)) (fun _ _ _ h=>h) (Or.inl ⟨by rfl,?_⟩) hHeld ?_ ?_
                rotate_left
                ·intro w' s0
                 go_simp
                 with_reducible rfl
                rotate_left
                ·simp only [Act.put,List.setIfInBounds_toArray,List.set_cons_zero,List.set_cons_succ,i64_w,i32_w]
                 rfl
                refine one_ (i:=3) (N:=some 84) #[true,true,true,true,true,false,false,false,false,false,false,false,false,false,false,false,false,false,false,false] rfl rfl (one_of HT_.out (by kernel_rfl)) (by decide) (fun K hK=>?_)
                refine goes_ Try.func19 (by kernel_rfl) rfl #[.agg #[.slice (some ad413) t406.length co13],.int .i64 t411,.int .i64 t424] (by rfl) rfl rfl pG ?_
                with_reducible refine (blocking_Blocks.calls k3 _ _ t406 t411 t424 t427 _ ?side1 ?side2 A35.out).mono ?_
                (case side1=>repeat (first|exact (Kd.R_reads' HO_411000.out).2.2|(with_reducible refine Kd.C_alloc ?_ _)|(with_reducible refine Kd.C_drewN ?_ _)|(with_reducible refine Kd.C_drew ?_)))
                (case side2=>exact (Kd.R_reads' HO_411000.out).2.1)
                rintro e w43 ⟨rfl,hb⟩
                refine ⟨_,rfl,?_⟩
                have n0_:=Z (Kd.R_below (pR HO_8) hb)
                have n1_:=Z (Kd.R_below (pR HO_67) hb)
                have n2_:=Z (Kd.R_below (pR HO_411000) hb)
                have n3_:=Z (blk_below (g:=gb410) (o:=.cells #[.slice (some ad413) t406.length co13] 27 (0,0)) (pK BK410) hb)
                have n4_:=Z (IsS71.below (by repeat (first|(with_reducible first|exact HI405.out|apply IsS71.alloc|apply IsS71.drewN|apply IsS71.drew|apply IsS71.set_1|refine IsS71.far ?_ NB405_410.out _)|exact HI405.out)) hb)
                have n5_:=Z (below_step (by repeat (first|(with_reducible first|exact HB.out|apply wA|apply wN|apply wD|refine wS ?_ (IsS71.ge HI405.out)|refine wS ?_ GE410.out)|exact HB.out)) hb)
                clear HO_8
                clear HO_67
                clear HO_411000
                clear BK410
                clear HI405
                clear HB
                have HO_8:=n0_
                have HO_67:=n1_
                have HO_411000:=n2_
                have BK410:=n3_
                have HI405:=n4_
                have HB:=n5_
                clear n0_ n1_ n2_ n3_ n4_ n5_
                (try clear hb)
                (try clear hb2)
                (try clear hk)
                (try clear hi)
                refine hK.out _ _ ((kC BK410.out 0).trans rfl) (fun hHeld=>?_)
                clear hK K
                refine norm_ (a':=?_) ?_ ?_
                rotate_left
                ·show Act.put _ (some 84) _=_
                 simp only [Act.put,List.setIfInBounds_toArray,List.set_cons_zero,List.set_cons_succ,i64_w,i32_w]
                 rfl
                refine pure_ (i:=5) (N:=some 86) (v:=?_) (a':=?_) #[true,true,true,true,true,true,false,false,false,false,false,false,false,false,false,false,false,false,false,false] rfl rfl (any_of HT_.out (by kernel_rfl)) (fun _ _ _ h=>h) (Or.inl ⟨by rfl,?_⟩) ?_ ?_
                rotate_left
                ·intro w'
                 go_simp
                 with_reducible rfl
                rotate_left
                ·simp only [Act.put,List.setIfInBounds_toArray,List.set_cons_zero,List.set_cons_succ,i64_w,i32_w]
                 rfl
                refine pure_ (i:=6) (N:=some 87) (v:=?_) (a':=?_) #[true,true,true,true,true,true,true,false,false,false,false,false,false,false,false,false,false,false,false,false] rfl rfl (any_of HT_.out (by kernel_rfl)) (fun _ _ _ h=>h) (Or.inl ⟨by rfl,?_⟩) ?_ ?_
                rotate_left
                ·intro w'
                 go_simp
                 with_reducible rfl
                rotate_left
                ·simp only [Act.put,List.setIfInBounds_toArray,List.set_cons_zero,List.set_cons_succ,i64_w,i32_w]
                 rfl
                refine pure_ (i:=8) (N:=some 89) (v:=?_) (a':=?_) #[true,true,true,true,true,true,true,false,true,false,false,false,false,false,false,false,false,false,false,false] rfl rfl (any_of HT_.out (by kernel_rfl)) (fun _ _ _ h=>h) (Or.inl ⟨by rfl,?_⟩) ?_ ?_
                rotate_left
                ·intro w'
                 go_simp
                 with_reducible rfl
                rotate_left
                ·simp only [Act.put,List.setIfInBounds_toArray,List.set_cons_zero,List.set_cons_succ,i64_w,i32_w]
                 rfl
                refine pure_ (i:=9) (N:=some 90) (v:=?_) (a':=?_) #[true,true,true,true,true,true,true,false,true,true,false,false,false,false,false,false,false,false,false,false] rfl rfl (any_of HT_.out (by kernel_rfl)) (fun _ _ _ h=>h) (Or.inl ⟨by rfl,?_⟩) ?_ ?_
                rotate_left
                ·intro w'
                 go_simp
                 with_reducible rfl
                rotate_left
                ·simp only [Act.put,List.setIfInBounds_toArray,List.set_cons_zero,List.set_cons_succ,i64_w,i32_w]
                 rfl
                refine pure_ (i:=12) (N:=some 93) (v:=?_) (a':=?_) #[true,true,true,true,true,true,true,false,true,true,false,false,true,false,false,false,false,false,false,false] rfl rfl (any_of HT_.out (by kernel_rfl)) (fun _ _ _ h=>h) (Or.inl ⟨by rfl,?_⟩) ?_ ?_
                rotate_left
                ·intro w'
                 go_simp
                 with_reducible rfl
                rotate_left
                ·simp only [Act.put,List.setIfInBounds_toArray,List.set_cons_zero,List.set_cons_succ,i64_w,i32_w]
                 rfl
                refine pure_ (i:=13) (N:=some 94) (v:=?_) (a':=?_) #[true,true,true,true,true,true,true,false,true,true,false,false,true,true,false,false,false,false,false,false] rfl rfl (any_of HT_.out (by kernel_rfl)) (fun _ _ _ h=>h) (Or.inl ⟨by rfl,?_⟩) ?_ ?_
                rotate_left
                ·intro w'
                 go_simp
                 with_reducible rfl
                rotate_left
                ·simp only [Act.put,List.setIfInBounds_toArray,List.set_cons_zero,List.set_cons_succ,i64_w,i32_w]
                 rfl
                refine pure_ (i:=14) (N:=some 95) (v:=?_) (a':=?_) #[true,true,true,true,true,true,true,false,true,true,false,false,true,true,true,false,false,false,false,false] rfl rfl (any_of HT_.out (by kernel_rfl)) (fun _ _ _ h=>h) (Or.inl ⟨by rfl,?_⟩) ?_ ?_
                rotate_left
                ·intro w'
                 go_simp
                 with_reducible rfl
                rotate_left
                ·simp only [Act.put,List.setIfInBounds_toArray,List.set_cons_zero,List.set_cons_succ,i64_w,i32_w]
                 rfl
                refine pure_ (i:=15) (N:=some 96) (v:=?_) (a':=?_) #[true,true,true,true,true,true,true,false,true,true,false,false,true,true,true,true,false,false,false,false] rfl rfl (any_of HT_.out (by kernel_rfl)) (fun _ _ _ h=>h) (Or.inl ⟨by rfl,?_⟩) ?_ ?_
                rotate_left
                ·intro w'
                 go_simp
                 with_reducible rfl
                rotate_left
                ·simp only [Act.put,List.setIfInBounds_toArray,List.set_cons_zero,List.set_cons_succ,i64_w,i32_w]
                 rfl
                refine pure_ (i:=16) (N:=some 97) (v:=?_) (a':=?_) #[true,true,true,true,true,true,true,false,true,true,false,false,true,true,true,true,true,false,false,false] rfl rfl (any_of HT_.out (by kernel_rfl)) (fun _ _ _ h=>h) (Or.inl ⟨by rfl,?_⟩) ?_ ?_
                rotate_left
                ·intro w'
                 go_simp
                 with_reducible rfl
                rotate_left
                ·simp only [Act.put,List.setIfInBounds_toArray,List.set_cons_zero,List.set_cons_succ,i64_w,i32_w]
                 rfl
                refine take_ (i:=7) (N:=some 88) (v:=?_) (a':=?_) #[true,true,true,true,true,true,true,true,true,true,false,false,true,true,true,true,true,false,false,false] rfl rfl (take_ofW HT_.out HW_.out (by kernel_rfl)) (fun _ _ _ h=>h) (Or.inl ⟨by rfl,?_⟩) hHeld ?_ ?_
                rotate_left
                ·intro w' s0
                 go_simp
                 with_reducible rfl
                rotate_left
                ·simp only [Act.put,List.setIfInBounds_toArray,List.set_cons_zero,List.set_cons_succ,i64_w,i32_w]
                 rfl
                refine take_ (i:=11) (N:=some 92) (v:=?_) (a':=?_) #[true,true,true,true,true,true,true,true,true,true,false,true,true,true,true,true,true,false,false,false] rfl rfl (take_ofW HT_.out HW_.out (by kernel_rfl)) (fun _ _ _ h=>h) (Or.inl ⟨by rfl,?_⟩) hHeld ?_ ?_
                rotate_left
                ·intro w' s0
                 go_simp
                 with_reducible rfl
                rotate_left
                ·simp only [Act.put,List.setIfInBounds_toArray,List.set_cons_zero,List.set_cons_succ,i64_w,i32_w]
                 rfl
                refine one_ (i:=10) (N:=some 91) #[true,true,true,true,true,true,true,true,true,true,true,true,true,true,true,true,true,false,false,false] rfl rfl (one_of HT_.out (by kernel_rfl)) (by decide) (fun K hK=>?_)
                refine goes_ Try.func19 (by kernel_rfl) rfl #[.agg #[.slice (some ad413) t406.length co13],.int .i64 t411,.int .i64 t424] (by rfl) rfl rfl pG ?_
                with_reducible refine (blocking_Blocks.calls k3 _ _ t406 t411 t424 t428 _ ?side1 ?side2 A37.out).mono ?_
                (case side1=>repeat (first|exact (Kd.R_reads' HO_411000.out).2.2|(with_reducible refine Kd.C_alloc ?_ _)|(with_reducible refine Kd.C_drewN ?_ _)|(with_reducible refine Kd.C_drew ?_)))
                (case side2=>exact (Kd.R_reads' HO_411000.out).2.1)
                rintro e w44 ⟨rfl,hb⟩
                refine ⟨_,rfl,?_⟩
                have n0_:=Z (Kd.R_below (pR HO_8) hb)
                have n1_:=Z (Kd.R_below (pR HO_67) hb)
                have n2_:=Z (Kd.R_below (pR HO_411000) hb)
                have n3_:=Z (blk_below (g:=gb410) (o:=.cells #[.slice (some ad413) t406.length co13] 27 (0,0)) (pK BK410) hb)
                have n4_:=Z (IsS71.below (by repeat (first|(with_reducible first|exact HI405.out|apply IsS71.alloc|apply IsS71.drewN|apply IsS71.drew|apply IsS71.set_1|refine IsS71.far ?_ NB405_410.out _)|exact HI405.out)) hb)
                have n5_:=Z (below_step (by repeat (first|(with_reducible first|exact HB.out|apply wA|apply wN|apply wD|refine wS ?_ (IsS71.ge HI405.out)|refine wS ?_ GE410.out)|exact HB.out)) hb)
                clear HO_8
                clear HO_67
                clear HO_411000
                clear BK410
                clear HI405
                clear HB
                have HO_8:=n0_
                have HO_67:=n1_
                have HO_411000:=n2_
                have BK410:=n3_
                have HI405:=n4_
                have HB:=n5_
                clear n0_ n1_ n2_ n3_ n4_ n5_
                (try clear hb)
                (try clear hb2)
                (try clear hk)
                (try clear hi)
                refine hK.out _ _ ((kC BK410.out 0).trans rfl) (fun hHeld=>?_)
                clear hK K
                refine norm_ (a':=?_) ?_ ?_
                rotate_left
                ·show Act.put _ (some 91) _=_
                 simp only [Act.put,List.setIfInBounds_toArray,List.set_cons_zero,List.set_cons_succ,i64_w,i32_w]
                 rfl
                refine one_ (i:=17) (N:=some 98) #[true,true,true,true,true,true,true,true,true,true,true,true,true,true,true,true,true,true,false,false] rfl rfl (one_of HT_.out (by kernel_rfl)) (by decide) (fun K hK=>?_)
                refine goes_ Try.func19 (by kernel_rfl) rfl #[.agg #[.slice (some ad413) t406.length co13],.int .i64 t411,.int .i64 (Go.bits .or .i64 t424 (ji39))] (by rfl) rfl rfl (by (try simp only [List.map_toArray,List.map_cons,List.map_nil]);first|done|(simp only [hji39];rfl)|rfl|(simp only [List.length_drop,List.length_take];rfl)) ?_
                with_reducible refine (blocking_Blocks.calls k3 _ _ t406 t411 (Go.bits .or .i64 t424 (ji39)) t429 _ ?side1 ?side2 A40.out).mono ?_
                (case side1=>repeat (first|exact (Kd.R_reads' HO_411000.out).2.2|(with_reducible refine Kd.C_alloc ?_ _)|(with_reducible refine Kd.C_drewN ?_ _)|(with_reducible refine Kd.C_drew ?_)))
                (case side2=>exact (Kd.R_reads' HO_411000.out).2.1)
                rintro e w45 ⟨rfl,hb⟩
                refine ⟨_,rfl,?_⟩
                have n0_:=Z (Kd.R_below (pR HO_8) hb)
                have n1_:=Z (Kd.R_below (pR HO_67) hb)
                have n2_:=Z (Kd.R_below (pR HO_411000) hb)
                have n3_:=Z (blk_below (g:=gb410) (o:=.cells #[.slice (some ad413) t406.length co13] 27 (0,0)) (pK BK410) hb)
                have n4_:=Z (IsS71.below (by repeat (first|(with_reducible first|exact HI405.out|apply IsS71.alloc|apply IsS71.drewN|apply IsS71.drew|apply IsS71.set_1|refine IsS71.far ?_ NB405_410.out _)|exact HI405.out)) hb)
                have n5_:=Z (below_step (by repeat (first|(with_reducible first|exact HB.out|apply wA|apply wN|apply wD|refine wS ?_ (IsS71.ge HI405.out)|refine wS ?_ GE410.out)|exact HB.out)) hb)
                clear HO_8
                clear HO_67
                clear HO_411000
                clear BK410
                clear HI405
                clear HB
                have HO_8:=n0_
                have HO_67:=n1_
                have HO_411000:=n2_
                have BK410:=n3_
                have HI405:=n4_
                have HB:=n5_
                clear n0_ n1_ n2_ n3_ n4_ n5_
                (try clear hb)
                (try clear hb2)
                (try clear hk)
                (try clear hi)
                refine hK.out _ _ ((kC BK410.out 0).trans rfl) (fun hHeld=>?_)
                clear hK K
                refine norm_ (a':=?_) ?_ ?_
                rotate_left
                ·show Act.put _ (some 98) _=_
                 simp only [Act.put,List.setIfInBounds_toArray,List.set_cons_zero,List.set_cons_succ,i64_w,i32_w]
                 rfl
                refine pure_ (i:=18) (N:=some 99) (v:=?_) (a':=?_) #[true,true,true,true,true,true,true,true,true,true,true,true,true,true,true,true,true,true,true,false] rfl rfl (any_of HT_.out (by kernel_rfl)) (fun _ _ _ h=>h) (Or.inl ⟨by rfl,?_⟩) ?_ ?_
                rotate_left
                ·intro w'
                 go_simp
                 with_reducible rfl
                rotate_left
                ·simp only [Act.put,List.setIfInBounds_toArray,List.set_cons_zero,List.set_cons_succ,i64_w,i32_w]
                 rfl
                refine pure_ (i:=19) (N:=some 100) (v:=?_) (a':=?_) #[true,true,true,true,true,true,true,true,true,true,true,true,true,true,true,true,true,true,true,true] rfl rfl (any_of HT_.out (by kernel_rfl)) (fun _ _ _ h=>h) (Or.inl ⟨by rfl,?_⟩) ?_ ?_
                rotate_left
                ·intro w'
                 go_simp
                 with_reducible rfl
                rotate_left
                ·simp only [Act.put,List.setIfInBounds_toArray,List.set_cons_zero,List.set_cons_succ,i64_w,i32_w]
                 rfl
                refine done_ (done_of HT_.out (by kernel_rfl)) ?_
                try go_wp2
                go_roundg k3
                case measure=>have:=HK1.out;have:=HK2.out;have:=HK3.out;omega
                case rel=>exact ⟨(wrap64 (x11_2+1)),(t425),pE,H',⟨by have:=HK1.out;have:=HK2.out;have:=HK3.out;omega⟩,⟨pR HO_8⟩,⟨by (with_reducible repeat (first|apply Kd.R_alloc|apply Kd.R_drewN|apply Kd.R_drew));exact Kd.R_mono HO_411000.out (fun _ hk=>hk.1)⟩,⟨pK BK410⟩,⟨by repeat (first|(with_reducible first|exact HI405.out|apply IsS71.alloc|apply IsS71.drewN|apply IsS71.drew|apply IsS71.set_1|refine IsS71.far ?_ NB405_410.out _)|exact HI405.out)⟩,⟨by repeat (first|(with_reducible first|exact HB.out|apply wA|apply wN|apply wD|refine wS ?_ (IsS71.ge HI405.out)|refine wS ?_ GE410.out)|exact HB.out)⟩⟩
              ·rw [if_neg c38] at H
               exact absurd H (by simp)
         ·rw [if_neg c27] at H
          have c27b0:decide (x11_2 < 20)=false:=decide_eq_false c27
          clear c27
          replace H:=Option.bind_eq_some_iff.mp H
          obtain ⟨⟨t430,t431⟩,A460,H⟩:=H
          try dsimp only at H
          have A46:=Z A460
          clear A460
          replace H:=Option.bind_eq_some_iff.mp H
          obtain ⟨⟨t434,t437⟩,A470,H⟩:=H
          try dsimp only at H
          have A47:=Z A470
          clear A470
          by_cases c48:t431=0
          ·rw [if_pos c48] at H
           have c48b0:(t431 == 0)=true:=beq_iff_eq.mpr c48
           have c48b1:(t431 != 0)=false:=bne_eq_false_iff_eq.mpr c48
           clear c48
           by_cases c49:t437=0
           ·rw [if_pos c49] at H
            have c49b0:(t437 == 0)=true:=beq_iff_eq.mpr c49
            have c49b1:(t437 != 0)=false:=bne_eq_false_iff_eq.mpr c49
            clear c49
            replace H:=Option.bind_eq_some_iff.mp H
            obtain ⟨t438,A500,H⟩:=H
            try dsimp only at H
            have A50:=Z A500
            clear A500
            by_cases c51:t438=true
            ·subst c51
             rw [if_pos rfl] at H
             replace H:=Option.bind_eq_some_iff.mp H
             obtain ⟨t439,A520,H⟩:=H
             try dsimp only at H
             have A52:=Z A520
             clear A520
             obtain rfl:=Option.some.inj H
             have hnb53:=NB410_405.out
             have hnc53:=NB405_410.out
             have hcz54_0:wr.cell? ⟨gb410,0,none⟩=some (.slice (some ad413) t406.length co13):=(kC BK410.out 0).trans rfl
             have hfz54_0:=kF BK410.out 0
             obtain ⟨Ao55,co55,eo55⟩:=Kd.R_slice HO_8.out
             subst eo55
             go_wp2_with (first|((with_reducible refine gate_callee (f:=20) rfl ?_);refine goesL_ (some 106) rfl rfl Try.func20 (by kernel_rfl) rfl #[.slice Ao55 x8_1.length co55,.int .i64 (t406.length:Int)] rfl pG ?_;(with_reducible refine (trustquorumref01_Meeting.calls k2 _ _ x8_1 (t406.length:Int) t430 t431 _ ?side1 ?side2 A46.out).mono ?_);(case side1=>repeat (first|exact (Kd.R_reads' HO_8.out).2.2|(with_reducible refine Kd.C_alloc ?_ _)|(with_reducible refine Kd.C_drewN ?_ _)|(with_reducible refine Kd.C_drew ?_)));(case side2=>exact (Kd.R_reads' HO_8.out).2.1);rintro e w56 ⟨v432,rfl,ho0,hb⟩;refine ⟨_,rfl,?_⟩;have n0_:=Z (Kd.R_elder' (pR HO_8) (Kd.R_base ho0) hb);have n1_:=Z (Kd.R_elder' (pR HO_411000) (Kd.R_base ho0) hb);have n2_:=Z (Kd.R_lower (Kd.R_new' ho0 (Kd.R_lt (pR HO_8))) (below_size (by repeat (first|(with_reducible first|exact HB.out|apply wA|apply wN|apply wD|refine wS ?_ (IsS71.ge HI405.out)|refine wS ?_ GE410.out)|exact HB.out))));have n3_:=Z (blk_below (g:=gb410) (o:=.cells #[.slice (some ad413) t406.length co13] 27 (0,0)) (pK BK410) hb);have n4_:=Z (IsS71.below (by repeat (first|(with_reducible first|exact HI405.out|apply IsS71.alloc|apply IsS71.drewN|apply IsS71.drew|apply IsS71.set_1|refine IsS71.far ?_ NB405_410.out _)|exact HI405.out)) hb);have n5_:=Z (below_step (by repeat (first|(with_reducible first|exact HB.out|apply wA|apply wN|apply wD|refine wS ?_ (IsS71.ge HI405.out)|refine wS ?_ GE410.out)|exact HB.out)) hb);clear HO_8;clear HO_411000;clear BK410;clear HI405;clear HB;have HO_8:=n0_;have HO_411000:=n1_;have HO433:=n2_;have BK410:=n3_;have HI405:=n4_;have HB:=n5_;clear n0_ n1_ n2_ n3_ n4_ n5_;(try clear hb);(try clear hb2);(try clear hk);(try clear hi);(try clear ho0);have hcz57_0:w56.cell? ⟨gb410,0,none⟩=some (.slice (some ad413) t406.length co13):=(kC BK410.out 0).trans rfl;have hfz57_0:=kF BK410.out 0)|((with_reducible refine gate_callee (f:=21) rfl ?_);refine goesL_ (some 112) rfl rfl Try.func21 (by kernel_rfl) rfl #[.agg #[.slice (some ad413) t406.length co13],.int .i64 t411] rfl pG ?_;(with_reducible refine (blocking_Least.calls k2 _ _ t406 t411 t434 t437 _ ?side1 ?side2 A47.out).mono ?_);(case side1=>repeat (first|exact (Kd.R_reads' HO_411000.out).2.2|(with_reducible refine Kd.C_alloc ?_ _)|(with_reducible refine Kd.C_drewN ?_ _)|(with_reducible refine Kd.C_drew ?_)));(case side2=>exact (Kd.R_reads' HO_411000.out).2.1);rintro e w58 ⟨v435,rfl,ho0,hb⟩;refine ⟨_,rfl,?_⟩;have n0_:=Z (Kd.R_elder' (pR HO_8) (Kd.R_base ho0) hb);have n1_:=Z (Kd.R_elder' (pR HO_411000) (Kd.R_base ho0) hb);have n2_:=Z (Kd.R_elder' (pR HO433) (Kd.R_base ho0) hb);have n3_:=Z (Kd.R_lower (Kd.R_new' (Kd.R_new' ho0 (Kd.R_lt (pR HO_8))) (Kd.R_lt (pR HO433))) (below_size (by repeat (first|(with_reducible first|exact HB.out|apply wA|apply wN|apply wD|refine wS ?_ (IsS71.ge HI405.out)|refine wS ?_ GE410.out)|exact HB.out))));have n4_:=Z (blk_below (g:=gb410) (o:=.cells #[.slice (some ad413) t406.length co13] 27 (0,0)) (pK BK410) hb);have n5_:=Z (IsS71.below (by repeat (first|(with_reducible first|exact HI405.out|apply IsS71.alloc|apply IsS71.drewN|apply IsS71.drew|apply IsS71.set_1|refine IsS71.far ?_ NB405_410.out _)|exact HI405.out)) hb);have n6_:=Z (below_step (by repeat (first|(with_reducible first|exact HB.out|apply wA|apply wN|apply wD|refine wS ?_ (IsS71.ge HI405.out)|refine wS ?_ GE410.out)|exact HB.out)) hb);clear HO_8;clear HO_411000;clear HO433;clear BK410;clear HI405;clear HB;have HO_8:=n0_;have HO_411000:=n1_;have HO433:=n2_;have HO436:=n3_;have BK410:=n4_;have HI405:=n5_;have HB:=n6_;clear n0_ n1_ n2_ n3_ n4_ n5_ n6_;(try clear hb);(try clear hb2);(try clear hk);(try clear hi);(try clear ho0);obtain ⟨Ao59,co59,eo59⟩:=Kd.R_slice HO436.out;subst eo59;obtain ⟨Ao60,co60,eo60⟩:=Kd.R_slice HO433.out;subst eo60)|(go_at_call 22;(with_reducible refine (trustquorummake_Ints.calls k2 _ _ t434 _ _ t430 true _ ?side1 ?side2 ?side3 ?side4 A50.out).mono ?_);(case side1=>repeat (first|exact (Kd.R_reads' HO436.out).2.2|(with_reducible refine Kd.C_alloc ?_ _)|(with_reducible refine Kd.C_drewN ?_ _)|(with_reducible refine Kd.C_drew ?_)));(case side2=>exact (Kd.R_reads' HO436.out).2.1);(case side3=>repeat (first|exact (Kd.R_reads' HO433.out).2.2|(with_reducible refine Kd.C_alloc ?_ _)|(with_reducible refine Kd.C_drewN ?_ _)|(with_reducible refine Kd.C_drew ?_)));(case side4=>exact (Kd.R_reads' HO433.out).2.1);rintro e w' ⟨rfl,⟨nd,rfl⟩⟩)|(go_at_call 17;(with_reducible refine (trustquorumlaw11_awake.calls k2   _ A52.out).mono ?_);rintro e w61 ⟨rfl,hb⟩;have n0_:=Z (Kd.R_below (pR HO_8) hb);have n1_:=Z (Kd.R_below (pR HO_411000) hb);have n2_:=Z (Kd.R_below (pR HO433) hb);have n3_:=Z (Kd.R_below (pR HO436) hb);have n4_:=Z (blk_below (g:=gb410) (o:=.cells #[.slice (some ad413) t406.length co13] 27 (0,0)) (pK BK410) hb);have n5_:=Z (IsS71.below (by repeat (first|(with_reducible first|exact HI405.out|apply IsS71.alloc|apply IsS71.drewN|apply IsS71.drew|apply IsS71.set_1|refine IsS71.far ?_ NB405_410.out _)|exact HI405.out)) hb);have n6_:=Z (below_step (by repeat (first|(with_reducible first|exact HB.out|apply wA|apply wN|apply wD|refine wS ?_ (IsS71.ge HI405.out)|refine wS ?_ GE410.out)|exact HB.out)) hb);clear HO_8;clear HO_411000;clear HO433;clear HO436;clear BK410;clear HI405;clear HB;have HO_8:=n0_;have HO_411000:=n1_;have HO433:=n2_;have HO436:=n3_;have BK410:=n4_;have HI405:=n5_;have HB:=n6_;clear n0_ n1_ n2_ n3_ n4_ n5_ n6_;(try clear hb);(try clear hb2);(try clear hk);(try clear hi)))
             go_ret
             exact ⟨by first|rfl|exact congrArg (fun b_:Bool=>Ending.returned (Value.bool b_)) HT.out|(simp [errW_none,errW_some] <;> rfl)|(simp [*,errW_none,errW_some] <;> rfl),by repeat (first|(with_reducible first|exact HB.out|apply wA|apply wN|apply wD|refine wS ?_ (IsS71.ge HI405.out)|refine wS ?_ GE410.out)|exact HB.out)⟩
            ·replace c51:=Bool.eq_false_iff.mpr c51
             subst c51
             rw [if_neg (show ¬ (false=true) by decide)] at H
             exact absurd H (by simp)
           ·rw [if_neg c49] at H
            have c49b0:(t437 == 0)=false:=beq_eq_false_iff_ne.mpr c49
            have c49b1:(t437 != 0)=true:=bne_iff_ne.mpr c49
            exact absurd H (by simp)
          ·rw [if_neg c48] at H
           have c48b0:(t431 == 0)=false:=beq_eq_false_iff_ne.mpr c48
           have c48b1:(t431 != 0)=true:=bne_iff_ne.mpr c48
           exact absurd H (by simp)
   ·replace c8:=Bool.eq_false_iff.mpr c8
    subst c8
    rw [if_neg (show ¬ (false=true) by decide)] at H
    replace H:=Option.bind_eq_some_iff.mp H
    obtain ⟨t414,A620,H⟩:=H
    try dsimp only at H
    have A62:=Z A620
    clear A620
    obtain rfl:=Option.some.inj H
    go_enter Try.func3,Try.ntmps3
    go_wp2_with (first|((with_reducible refine gate_callee (f:=14) rfl ?_);refine goesL_ (some 21) rfl rfl Try.func14 (by kernel_rfl) rfl #[.slice A0 l0.length c0] rfl pG ?_;(with_reducible refine (trustquorummake_New.calls _ _ l0 t403 t404 w _ ?side1 ?side2 ?side3 A2.out).mono ?_);(case side1=>exact pB);(case side2=>exact HR0.out);(case side3=>exact HC0.out);rintro e w63 ⟨g405,rfl,hi,hb,hb2⟩;refine ⟨_,rfl,?_⟩;have n0_:=Z (hb);have n1_:=Z (hi);clear HB;have HB:=n0_;have HI405:=n1_;clear n0_ n1_;(try clear hb);(try clear hb2);(try clear hk);(try clear hi))|((with_reducible refine gate_callee (f:=15) rfl ?_);refine goesL_ (some 23) rfl rfl Try.func15 (by kernel_rfl) rfl #[.pointer (some ⟨g405,0,none⟩),.int .i64 7] rfl pG ?_;(with_reducible refine (trustquorummake_Config.calls k g405 t403 t404 7 t406 t409 w _ ?side1 ?side2 A3.out).mono ?_);(case side1=>repeat (first|(with_reducible first|exact HI405.out|apply IsS71.alloc|apply IsS71.drewN|apply IsS71.drew|apply IsS71.set_1)|exact HI405.out));(case side2=>repeat (first|(with_reducible first|exact HB.out|apply wA|apply wN|apply wD|refine wS ?_ (IsS71.ge HI405.out))|exact HB.out));rintro e w64 ⟨v407,rfl,ho0,hi,hb,hk⟩;refine ⟨_,rfl,?_⟩;have n0_:=Z (Kd.R_lower ho0 (below_size (by repeat (first|(with_reducible first|exact HB.out|apply wA|apply wN|apply wD|refine wS ?_ (IsS71.ge HI405.out))|exact HB.out))));have n1_:=Z (hb);have n2_:=Z (hi);clear HB;clear HI405;have HO408:=n0_;have HB:=n1_;have HI405:=n2_;clear n0_ n1_ n2_;(try clear hb);(try clear hb2);(try clear hk);(try clear hi);(try clear ho0))|((with_reducible refine gate_dst (N:=4) rfl ?_);refine box_event ?hg (N:=4) ?hd (cs:=#[.slice none 0 0]) (t:=27) ?hr ?_;(case hd=>rfl);(case hg=>rfl);(case hr=>first|(go_simp;done)|(go_simp;rfl));intro gb410 hg w65 hbox hb;have n0_:=Z (Kd.R_below (pR HO408) hb);have n1_:=Z (IsS71.below (by repeat (first|(with_reducible first|exact HI405.out|apply IsS71.alloc|apply IsS71.drewN|apply IsS71.drew|apply IsS71.set_1)|exact HI405.out)) hb);have n2_:=Z (below_step (by repeat (first|(with_reducible first|exact HB.out|apply wA|apply wN|apply wD|refine wS ?_ (IsS71.ge HI405.out))|exact HB.out)) hb);have n3_:=Z (hbox);have n4_:=Z ((by rw [hg];exact (below_size (by repeat (first|(with_reducible first|exact HB.out|apply wA|apply wN|apply wD|refine wS ?_ (IsS71.ge HI405.out))|exact HB.out))):w.heap.size≤gb410));have n5_:=Z ((by rw [hg];exact (below_size (by repeat (first|(with_reducible first|exact HB.out|apply wA|apply wN|apply wD|refine wS ?_ (IsS71.ge HI405.out))|exact HB.out))):w.heap.size≤gb410));have n6_:=Z ((by rw [hg];exact Nat.ne_of_lt (IsS71.lt (show IsS71 w _ g405 t403 t409 from by repeat (first|(with_reducible first|exact HI405.out|apply IsS71.alloc|apply IsS71.drewN|apply IsS71.drew|apply IsS71.set_1)|exact HI405.out))):g405 ≠ gb410));have n7_:=Z ((by rw [hg];exact Nat.ne_of_gt (IsS71.lt (show IsS71 w _ g405 t403 t409 from by repeat (first|(with_reducible first|exact HI405.out|apply IsS71.alloc|apply IsS71.drewN|apply IsS71.drew|apply IsS71.set_1)|exact HI405.out))):gb410 ≠ g405));clear HO408;clear HI405;clear HB;have HO408:=n0_;have HI405:=n1_;have HB:=n2_;have BK410:=n3_;have GW410:=n4_;have GE410:=n5_;have NB405_410:=n6_;have NB410_405:=n7_;clear n0_ n1_ n2_ n3_ n4_ n5_ n6_ n7_;clear hb hbox hg;obtain ⟨Ao66,co66,eo66⟩:=Kd.R_slice HO408.out;subst eo66;have hnb67:=NB410_405.out;have hnc67:=NB405_410.out;have hcz68_0:w65.cell? ⟨gb410,0,none⟩=some (.slice none 0 0):=(kC BK410.out 0).trans rfl;have hfz68_0:=kF BK410.out 0)|((with_reducible refine gate_callee (f:=16) rfl ?_);refine goesL_ (some 28) rfl rfl Try.func16 (by kernel_rfl) rfl #[.pointer (some ⟨g405,0,none⟩),.int .i64 (t406.length:Int)] rfl pG ?_;(with_reducible refine (trustquorummake_Tape_N.calls g405 t403 t409 (t406.length:Int) t411 t412 w _ ?side1 ?side2 A4.out).mono ?_);(case side1=>repeat (first|(with_reducible first|exact HI405.out|apply IsS71.alloc|apply IsS71.drewN|apply IsS71.drew|apply IsS71.set_1|refine IsS71.far ?_ NB405_410.out _)|exact HI405.out));(case side2=>repeat (first|(with_reducible first|exact HB.out|apply wA|apply wN|apply wD|refine wS ?_ (IsS71.ge HI405.out)|refine wS ?_ GE410.out)|exact HB.out));rintro e w69 ⟨rfl,hi,hb,hk⟩;refine ⟨_,rfl,?_⟩;have n0_:=Z (Kd.R_mono (Kd.R_keep (IsS71.apart (show IsS71 w _ g405 t403 t409 from by repeat (first|(with_reducible first|exact HI405.out|apply IsS71.alloc|apply IsS71.drewN|apply IsS71.drew|apply IsS71.set_1|refine IsS71.far ?_ NB405_410.out _)|exact HI405.out)) (by (with_reducible repeat (first|apply Kd.R_alloc|apply Kd.R_drewN|apply Kd.R_drew));exact (Kd.R_mono (Kd.R_far (p:=⟨gb410,0,none⟩) (Kd.R_types HO408.out BK410.out (by decide)) (fun _ hk=>hk.2) (.slice Ao66 t406.length co66)) (fun _ h_=>h_.1))) (by decide)) hk (fun _ h=>h.2)) (fun _ h=>h.1));have n1_:=Z (KeepBut.blk hk (g':=gb410) (o:=.cells #[.slice Ao66 t406.length co66] 27 (0,0)) (by (with_reducible repeat (first|refine kN ?_ _|refine kD ?_|refine kA ?_ _));refine blk_put (cs:=#[.slice none 0 0]) ?_ 0 _ rfl;(with_reducible repeat (first|refine kN ?_ _|refine kD ?_|refine kA ?_ _));exact BK410.out) NB410_405.out (by simp));have n2_:=Z (hb);have n3_:=Z (hi);clear HO408;clear BK410;clear HB;clear HI405;have HO408:=n0_;have BK410:=n1_;have HB:=n2_;have HI405:=n3_;clear n0_ n1_ n2_ n3_;(try clear hb);(try clear hb2);(try clear hk);(try clear hi);have hcz70_0:w69.cell? ⟨gb410,0,none⟩=some (.slice Ao66 t406.length co66):=(kC BK410.out 0).trans rfl;have hfz70_0:=kF BK410.out 0;have p413:0≤(t411:Int):=of_decide_eq_true (by first|(with_reducible assumption)|assumption);have q413:t411 < (t406.length:Int):=of_decide_eq_true (by first|(with_reducible assumption)|assumption);obtain ⟨ad413,A413_2,c413_2,A413_3,c413_3,e413,hx413_0,hx413_1,hx413_2,hx413_3,hl413_2,hi413_2,hl413_3,hi413_3⟩:=at_T34 (Kd.R_reads' HO408.out).2.2 t411 p413 q413;(try rw [← Nbq7.out] at hx413_0);cases e413;obtain ⟨ce413,hce413,hMe413,hcc413⟩:=Kd.R_get HO408.out z34 t411 p413 (by first|exact q413|exact of_decide_eq_true (by first|(with_reducible assumption)|assumption)|(have e_:=(Kd.R_reads' HO408.out).1;omega));obtain ⟨ve413_2,ve413_3,rfl,ge413_2,ge413_3⟩:=k34_openM hMe413;have hv413_2:=hcc413 2 _ rfl;rw [add_field _ _ 2 (by omega)] at hv413_2;replace hv413_2:=Option.some.inj (hv413_2.symm.trans hx413_2);rw [hv413_2] at ge413_2;have HL413_2:=Z (show Kd.R (Kd.int .i64) 3 _ _ _ _ ((rd_T34 t406 t411).f1.f1) from ge413_2);clear hv413_2 ge413_2;have hv413_3:=hcc413 3 _ rfl;rw [add_field _ _ 3 (by omega)] at hv413_3;replace hv413_3:=Option.some.inj (hv413_3.symm.trans hx413_3);rw [hv413_3] at ge413_3;have HL413_3:=Z (show Kd.R k32 32 _ _ _ _ ((rd_T34 t406 t411).f1.f2) from ge413_3);clear hv413_3 ge413_3;clear hcc413 hce413;have HR413_2:=Z hi413_2;have HC413_2:=Z hl413_2;clear hi413_2 hl413_2;have HR413_3:=Z hi413_3;have HC413_3:=Z hl413_3;clear hi413_3 hl413_3;replace p413:=eq_true p413;replace q413:=eq_true q413)|((with_reducible refine gate_callee (f:=17) rfl ?_);refine goesL_ (some 36) rfl rfl Try.func17 (by kernel_rfl) rfl #[] rfl pG ?_;(with_reducible refine (trustquorumlaw11_awake.calls k   _ A62.out).mono ?_);rintro e w71 ⟨rfl,hb⟩;refine ⟨_,rfl,?_⟩;have n0_:=Z (Kd.R_below (pR HO408) hb);have n1_:=Z (Kd.R_below (pR HL413_2) hb);have n2_:=Z (Kd.R_below (pR HL413_3) hb);have n3_:=Z (IsS71.below (by repeat (first|(with_reducible first|exact HI405.out|apply IsS71.alloc|apply IsS71.drewN|apply IsS71.drew|apply IsS71.set_1|refine IsS71.far ?_ NB405_410.out _)|exact HI405.out)) hb);have n4_:=Z (blk_below (g:=gb410) (o:=.cells #[.slice (some ad413) t406.length co66] 27 (0,0)) (pK BK410) hb);have n5_:=Z (Kd.C_below (by repeat (first|(with_reducible exact HR413_2.out)|(with_reducible refine Kd.C_alloc ?_ _)|(with_reducible refine Kd.C_drewN ?_ _)|(with_reducible refine Kd.C_drew ?_)|exact HR413_2.out)) hb);have n6_:=Z (Kd.C_below (by repeat (first|(with_reducible exact HR413_3.out)|(with_reducible refine Kd.C_alloc ?_ _)|(with_reducible refine Kd.C_drewN ?_ _)|(with_reducible refine Kd.C_drew ?_)|exact HR413_3.out)) hb);have n7_:=Z (below_step (by repeat (first|(with_reducible first|exact HB.out|apply wA|apply wN|apply wD|refine wS ?_ (IsS71.ge HI405.out)|refine wS ?_ GE410.out)|exact HB.out)) hb);clear HO408;clear HL413_2;clear HL413_3;clear HI405;clear BK410;clear HR413_2;clear HR413_3;clear HB;have HO408:=n0_;have HL413_2:=n1_;have HL413_3:=n2_;have HI405:=n3_;have BK410:=n4_;have HR413_2:=n5_;have HR413_3:=n6_;have HB:=n7_;clear n0_ n1_ n2_ n3_ n4_ n5_ n6_ n7_;(try clear hb);(try clear hb2);(try clear hk);(try clear hi)))
    go_ret
    exact ⟨by first|rfl|exact congrArg (fun b_:Bool=>Ending.returned (Value.bool b_)) HT.out|(simp [errW_none,errW_some] <;> rfl)|(simp [*,errW_none,errW_some] <;> rfl),by repeat (first|(with_reducible first|exact HB.out|apply wA|apply wN|apply wD|refine wS ?_ (IsS71.ge HI405.out)|refine wS ?_ GE410.out)|exact HB.out)⟩
  ·rw [if_neg c6] at H
   exact absurd H (by simp)
 ·rw [if_neg c5] at H
  exact absurd H (by simp)
def trustquorumlaw11_BlockingMeets.Pure:Prop:=∀ (l0:List Int),l0.length≤maxLen→l0.length * 8≤140737488351232→(∀ x∈l0,(Lit.int .i64 x).wf=true)→∃ k,trustquorumlaw11_BlockingMeets.f k l0=some true
theorem trustquorumlaw11_BlockingMeets.walk (P:trustquorumlaw11_BlockingMeets.Pure) (a0:Option Addr) (len0 cap0:Nat) (z0:List Int) (w:World) (w0:(a0=none∧len0=0∧cap0=0∧z0=[]) ∨ ∃ x,a0=some x∧len0≤cap0∧cap0≤maxLen∧z0.length=cap0∧(∀ i,i < z0.length→w.cell? (x.add i)=some (.int .i64 (z0.getD i 0)))∧∀ n∈z0,(Lit.int .i64 n).wf=true) (y0:len0 * 8≤140737488351232) :
  Calls Try.prog 3 #[.slice a0 len0 cap0] w fun e w'=>e=.returned (.bool true)∧Below w.heap.size w w':=by
 obtain ⟨l0,rfl,hr0,hm0,hw0,hc0⟩:=ReadsInt.ofRowC w0
 obtain ⟨k,h⟩:=P l0 hm0 y0 hw0
 refine (trustquorumlaw11_BlockingMeets.calls k _ _ l0 w (Kd.C_of_reads (d:=(0:Int)) (h1:=fun _=>rfl) hr0) hc0 h).mono ?_
 rintro e w' ⟨rfl,hd⟩
 exact ⟨rfl,hd⟩
end Go.Proofs.Ytkjlcbfjllpcnaa.X
