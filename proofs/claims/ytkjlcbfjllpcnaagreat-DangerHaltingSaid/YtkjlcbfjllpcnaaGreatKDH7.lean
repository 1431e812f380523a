/- Proof of the statement DangerHalting: part 7 of 9, what it computes and why that answers true. -/
import Derived.Test.YtkjlcbfjllpcnaaGreatKDH6
set_option linter.unusedVariables false
set_option linter.unusedSimpArgs false
namespace Go.Proofs.YtkjlcbfjllpcnaaGreat.X
open Go.RowKit YtkjlcbfjllpcnaaGreatW.PrintWords YtkjlcbfjllpcnaaGreatW.PrintLast YtkjlcbfjllpcnaaGreatW.PrintMore
attribute [local go_sem] max2_int min2_int max_two min_two max_three min_three max_four min_four
def configuration_member.f (k:Nat) (a0_0:Bool) (a0_1:Int) (l0_2:List Int) (l0_3:List (S90)) (a1:Int):Option (Int):=if a0_0=true then ((threshold_Valid.f k a0_1 l0_2 l0_3).bind fun t139=>(if t139=0 then ((threshold_Uses.f k a0_1 l0_2 l0_3).bind fun t140=>(if 0≤a1 then (if t140 ≥ (shl .i64 1 a1) then (some 5) else (some 0)) else (none))) else (some t139))) else ((configuration_blank.f a0_1 l0_2 l0_3).bind fun t138=>(if t138=true then (some 0) else (some 1)))
set_option maxHeartbeats 8000000 in
set_option maxRecDepth 100000 in
theorem configuration_member.calls (k:Nat) (a0_0:Bool) (a0_1:Int) (A0_2:Option Addr) (c0_2:Nat) (l0_2:List Int) (A0_3:Option Addr) (c0_3:Nat) (l0_3:List (S90)) (a1:Int) (r:Int) (w:World) (hr0_2:Kd.C (Kd.int .i64) w A0_2 l0_2.length l0_2) (hc0_2:l0_2.length≤c0_2) (hr0_3:Kd.C k90 w A0_3 l0_3.length l0_3) (hc0_3:l0_3.length≤c0_3) (h:configuration_member.f k a0_0 a0_1 l0_2 l0_3 a1=some r) :
  Calls Tryz.prog 156 #[.agg #[.bool a0_0,.int .i64 a0_1,.slice A0_2 l0_2.length c0_2,.slice A0_3 l0_3.length c0_3],.int .i64 a1] w fun e w'=>e=.returned (.int .i64 r)∧Below w.heap.size w w':=by
 have hu92:=Tryz.underlying92
 have hu90:=Tryz.underlying90
 have HR0_2:=Z hr0_2
 have HC0_2:=Z hc0_2
 clear hr0_2 hc0_2
 have HR0_3:=Z hr0_3
 have HC0_3:=Z hc0_3
 clear hr0_3 hc0_3
 have HB:=Z (Below.refl w.heap.size w)
 have H:(if a0_0=true then ((threshold_Valid.f k a0_1 l0_2 l0_3).bind fun t139=>(if t139=0 then ((threshold_Uses.f k a0_1 l0_2 l0_3).bind fun t140=>(if 0≤a1 then (if t140 ≥ (shl .i64 1 a1) then (some 5) else (some 0)) else (none))) else (some t139))) else ((configuration_blank.f a0_1 l0_2 l0_3).bind fun t138=>(if t138=true then (some 0) else (some 1))))=some r:=h
 clear h
 by_cases c3:a0_0=true
 ·subst c3
  rw [if_pos rfl] at H
  replace H:=pO H
  obtain ⟨t139,A40,H⟩:=H
  try dsimp only at H
  have A4:=Z A40
  clear A40
  by_cases c5:t139=0
  ·rw [if_pos c5] at H
   have c5b0:(t139 == 0)=true:=beq_iff_eq.mpr c5
   have c5b1:(t139 != 0)=false:=bne_eq_false_iff_eq.mpr c5
   clear c5
   replace H:=pO H
   obtain ⟨t140,A60,H⟩:=H
   try dsimp only at H
   have A6:=Z A60
   clear A60
   by_cases c7:0≤a1
   ·rw [if_pos c7] at H
    have c7b0:=eq_true c7
    have c7b1:decide (0≤a1)=true:=decide_eq_true c7
    clear c7
    obtain ⟨ji8,hji8⟩:∃ j_:Int,(shl .i64 1 a1)=j_:=⟨_,rfl⟩
    replace H:(if t140 ≥ (ji8) then (some 5) else (some 0))=some r:=by first|(rw [hji8] at H;exact H)|(simp only [hji8] at H ⊢;exact H)
    (try rw [hji8] at A4)
    (try rw [hji8] at A6)
    have hji8_:(IntKind.i64.wrap (1 * 2 ^ min a1.toNat 64))=ji8:=hji8
    have hji8z:a1≤64→(IntKind.i64.wrap (1 * 2 ^ a1.toNat))=ji8:=shl_small hji8
    have hji8u:(IntKind.i64.wrap (2 ^ min a1.toNat 64))=ji8:=by have h_:=hji8_;rw [Int.one_mul] at h_;exact h_
    have hji8v:a1≤64→(IntKind.i64.wrap (2 ^ a1.toNat))=ji8:=fun hle_=>by have h_:=hji8z hle_;rw [Int.one_mul] at h_;exact h_
    have hji8y:(wrap64 (1 * 2 ^ min a1.toNat 64))=ji8:=(i64_w _).symm.trans hji8_
    have hji8x:a1≤64→(wrap64 (1 * 2 ^ a1.toNat))=ji8:=fun h_=>(i64_w _).symm.trans (hji8z h_)
    by_cases c9:t140 ≥ (ji8)
    ·rw [if_pos c9] at H
     have c9b0:decide ((ji8)≤t140)=true:=decide_eq_true c9
     clear c9
     obtain rfl:=Option.some.inj H
     go_enter Tryz.func156,Tryz.ntmps156
     try go_wp2_with (first|((with_reducible refine gate_dst (N:=2) rfl ?_);refine box_event ?hg (N:=2) ?hd (cs:=#[.bool true,.int .i64 a0_1,.slice A0_2 l0_2.length c0_2,.slice A0_3 l0_3.length c0_3]) (t:=92) ?hr ?_;(case hd=>rfl);(case hg=>rfl);(case hr=>first|(go_simp;done)|(go_simp;rfl));intro gb137 hg w10 hbox hb;have n0_:=Z (below_step pB hb);have BK137:=Z (hbox);have GW137:=Z ((pT hg:w.heap.size≤gb137));have GE137:=Z ((pT hg:w.heap.size≤gb137));clear HB;have HB:=n0_;clear n0_ hb hbox hg;obtain ⟨hcz11_0,hcz11_1,hcz11_2,hcz11_3,hfz11_0,hfz11_1,hfz11_2,hfz11_3⟩:=p4 BK137)|((with_reducible refine gate_callee (f:=189) rfl ?_);refine goesL_ (some 15) rfl rfl Tryz.func189 pU rfl #[.agg #[.int .i64 a0_1,.slice A0_2 l0_2.length c0_2,.slice A0_3 l0_3.length c0_3]] rfl pG ?_;(with_reducible refine (threshold_Valid.calls k a0_1 _ _ l0_2 _ _ l0_3 t139 _ ?side1 ?side2 ?side3 ?side4 A4.out).mono ?_);(case side1=>exact pC HR0_2);(case side2=>exact HC0_2.out);(case side3=>exact pC HR0_3);(case side4=>exact HC0_3.out);rintro e w12 ⟨rfl,hb⟩;refine ⟨_,rfl,?_⟩;replace BK137:=Z (blk_below (g:=gb137) (o:=.cells #[.bool true,.int .i64 a0_1,.slice A0_2 l0_2.length c0_2,.slice A0_3 l0_3.length c0_3] 92 (0,0)) (pK BK137) hb);have n1_:=Z (below_step pB hb);clear HB;have HB:=n1_;clear n1_;(try clear hb);(try clear hb2);(try clear hk);(try clear hi)))
     have n0_:=Z (kD BK137.out)
     have n1_:=Z (wD HB.out)
     clear BK137 HB
     have BK137:=n0_
     have HB:=n1_
     clear n0_ n1_
     refine start_ (n:=6) (S:=fun w'=>w'.cell? ⟨gb137,0,none⟩=some (.bool true)∧w'.cell? ⟨gb137,1,none⟩=some (.int .i64 a0_1)∧w'.cell? ⟨gb137,2,none⟩=some (.slice A0_2 l0_2.length c0_2)∧w'.cell? ⟨gb137,3,none⟩=some (.slice A0_3 l0_3.length c0_3)) (ds:=[]) #[false,false,false,false,false,false] pU rfl rfl ⟨(kC BK137.out 0).trans rfl,(kC BK137.out 1).trans rfl,(kC BK137.out 2).trans rfl,(kC BK137.out 3).trans rfl⟩ (fun hHeld=>?_)
     generalize w12.drew=w13 at BK137 HB hHeld ⊢
     refine pure_ (i:=0) (N:=some 19) (v:=?_) (a':=?_) #[true,false,false,false,false,false] rfl rfl pU (fun _ _ _ h=>h) (Or.inl ⟨by rfl,?_⟩) ?_ ?_
     rotate_left
     ·intro w'
      go_simp
      with_reducible rfl
     rotate_left
     ·simp only [Act.put,List.setIfInBounds_toArray,List.set_cons_zero,List.set_cons_succ,i64_w,i32_w]
      rfl
     refine pure_ (i:=3) (N:=some 22) (v:=?_) (a':=?_) #[true,false,false,true,false,false] rfl rfl pU (fun _ _ _ h=>h) (Or.inl ⟨by rfl,?_⟩) ?_ ?_
     rotate_left
     ·intro w'
      go_simp
      with_reducible rfl
     rotate_left
     ·simp only [Act.put,List.setIfInBounds_toArray,List.set_cons_zero,List.set_cons_succ,i64_w,i32_w]
      rfl
     refine pure_ (i:=4) (N:=some 23) (v:=?_) (a':=?_) #[true,false,false,true,true,false] rfl rfl pU (fun _ _ _ h=>h) (Or.inl ⟨by rfl,?_⟩) ?_ ?_
     rotate_left
     ·intro w'
      go_simp
      with_reducible rfl
     rotate_left
     ·simp only [Act.put,List.setIfInBounds_toArray,List.set_cons_zero,List.set_cons_succ,i64_w,i32_w]
      rfl
     refine take_ (i:=1) (N:=some 20) (v:=?_) (a':=?_) #[true,true,false,true,true,false] rfl rfl pU (fun _ _ _ h=>h) (Or.inl ⟨by rfl,?_⟩) hHeld ?_ ?_
     rotate_left
     ·rintro w' ⟨s0,s1,s2,s3⟩
      go_simp
      with_reducible rfl
     rotate_left
     ·simp only [Act.put,List.setIfInBounds_toArray,List.set_cons_zero,List.set_cons_succ,i64_w,i32_w]
      rfl
     refine one_ (i:=2) (N:=some 21) #[true,true,true,true,true,false] rfl rfl pU (by decide) (fun K hK=>?_)
     refine goes_ Tryz.func168 pU rfl #[.agg #[.int .i64 a0_1,.slice A0_2 l0_2.length c0_2,.slice A0_3 l0_3.length c0_3]] (by rfl) rfl rfl pG ?_
     with_reducible refine (threshold_Uses.calls k a0_1 _ _ l0_2 _ _ l0_3 t140 _ ?side1 ?side2 ?side3 ?side4 A6.out).mono ?_
     (case side1=>exact pC HR0_2)
     (case side2=>exact HC0_2.out)
     (case side3=>exact pC HR0_3)
     (case side4=>exact HC0_3.out)
     rintro e w14 ⟨rfl,hb⟩
     refine ⟨_,rfl,?_⟩
     have n0_:=Z (blk_below (g:=gb137) (o:=.cells #[.bool true,.int .i64 a0_1,.slice A0_2 l0_2.length c0_2,.slice A0_3 l0_3.length c0_3] 92 (0,0)) (pK BK137) hb)
     have n1_:=Z (below_step pB hb)
     clear BK137 HB
     have BK137:=n0_
     have HB:=n1_
     clear n0_ n1_
     (try clear hb)
     (try clear hb2)
     (try clear hk)
     (try clear hi)
     refine hK.out _ _ ⟨(kC BK137.out 0).trans rfl,(kC BK137.out 1).trans rfl,(kC BK137.out 2).trans rfl,(kC BK137.out 3).trans rfl⟩ (fun hHeld=>?_)
     clear hK K
     refine norm_ (a':=?_) ?_ ?_
     rotate_left
     ·show Act.put _ (some 21) _=_
      simp only [Act.put,List.setIfInBounds_toArray,List.set_cons_zero,List.set_cons_succ,i64_w,i32_w]
      rfl
     refine pure_ (i:=5) (N:=some 24) (v:=?_) (a':=?_) #[true,true,true,true,true,true] rfl rfl pU (fun _ _ _ h=>h) (Or.inl ⟨by rfl,?_⟩) ?_ ?_
     rotate_left
     ·intro w'
      go_simp
      with_reducible rfl
     rotate_left
     ·simp only [Act.put,List.setIfInBounds_toArray,List.set_cons_zero,List.set_cons_succ,i64_w,i32_w]
      rfl
     refine done_ pU ?_
     try go_wp2
     go_ret
     exact ⟨by first|rfl|(simp [errW_none,errW_some] <;> rfl)|(simp only [← hji8];first|rfl|(simp [errW_none,errW_some] <;> rfl))|(simp [*,errW_none,errW_some] <;> rfl),pB⟩
    ·rw [if_neg c9] at H
     have c9b0:decide ((ji8)≤t140)=false:=decide_eq_false c9
     clear c9
     obtain rfl:=Option.some.inj H
     go_enter Tryz.func156,Tryz.ntmps156
     try go_wp2_with (first|((with_reducible refine gate_dst (N:=2) rfl ?_);refine box_event ?hg (N:=2) ?hd (cs:=#[.bool true,.int .i64 a0_1,.slice A0_2 l0_2.length c0_2,.slice A0_3 l0_3.length c0_3]) (t:=92) ?hr ?_;(case hd=>rfl);(case hg=>rfl);(case hr=>first|(go_simp;done)|(go_simp;rfl));intro gb137 hg w15 hbox hb;have n0_:=Z (below_step pB hb);have BK137:=Z (hbox);have GW137:=Z ((pT hg:w.heap.size≤gb137));have GE137:=Z ((pT hg:w.heap.size≤gb137));clear HB;have HB:=n0_;clear n0_ hb hbox hg;obtain ⟨hcz16_0,hcz16_1,hcz16_2,hcz16_3,hfz16_0,hfz16_1,hfz16_2,hfz16_3⟩:=p4 BK137)|((with_reducible refine gate_callee (f:=189) rfl ?_);refine goesL_ (some 15) rfl rfl Tryz.func189 pU rfl #[.agg #[.int .i64 a0_1,.slice A0_2 l0_2.length c0_2,.slice A0_3 l0_3.length c0_3]] rfl pG ?_;(with_reducible refine (threshold_Valid.calls k a0_1 _ _ l0_2 _ _ l0_3 t139 _ ?side1 ?side2 ?side3 ?side4 A4.out).mono ?_);(case side1=>exact pC HR0_2);(case side2=>exact HC0_2.out);(case side3=>exact pC HR0_3);(case side4=>exact HC0_3.out);rintro e w17 ⟨rfl,hb⟩;refine ⟨_,rfl,?_⟩;replace BK137:=Z (blk_below (g:=gb137) (o:=.cells #[.bool true,.int .i64 a0_1,.slice A0_2 l0_2.length c0_2,.slice A0_3 l0_3.length c0_3] 92 (0,0)) (pK BK137) hb);have n1_:=Z (below_step pB hb);clear HB;have HB:=n1_;clear n1_;(try clear hb);(try clear hb2);(try clear hk);(try clear hi)))
     have n0_:=Z (kD BK137.out)
     have n1_:=Z (wD HB.out)
     clear BK137 HB
     have BK137:=n0_
     have HB:=n1_
     clear n0_ n1_
     refine start_ (n:=6) (S:=fun w'=>w'.cell? ⟨gb137,0,none⟩=some (.bool true)∧w'.cell? ⟨gb137,1,none⟩=some (.int .i64 a0_1)∧w'.cell? ⟨gb137,2,none⟩=some (.slice A0_2 l0_2.length c0_2)∧w'.cell? ⟨gb137,3,none⟩=some (.slice A0_3 l0_3.length c0_3)) (ds:=[]) #[false,false,false,false,false,false] pU rfl rfl ⟨(kC BK137.out 0).trans rfl,(kC BK137.out 1).trans rfl,(kC BK137.out 2).trans rfl,(kC BK137.out 3).trans rfl⟩ (fun hHeld=>?_)
     generalize w17.drew=w18 at BK137 HB hHeld ⊢
     refine pure_ (i:=0) (N:=some 19) (v:=?_) (a':=?_) #[true,false,false,false,false,false] rfl rfl pU (fun _ _ _ h=>h) (Or.inl ⟨by rfl,?_⟩) ?_ ?_
     rotate_left
     ·intro w'
      go_simp
      with_reducible rfl
     rotate_left
     ·simp only [Act.put,List.setIfInBounds_toArray,List.set_cons_zero,List.set_cons_succ,i64_w,i32_w]
      rfl
     refine pure_ (i:=3) (N:=some 22) (v:=?_) (a':=?_) #[true,false,false,true,false,false] rfl rfl pU (fun _ _ _ h=>h) (Or.inl ⟨by rfl,?_⟩) ?_ ?_
     rotate_left
     ·intro w'
      go_simp
      with_reducible rfl
     rotate_left
     ·simp only [Act.put,List.setIfInBounds_toArray,List.set_cons_zero,List.set_cons_succ,i64_w,i32_w]
      rfl
     refine pure_ (i:=4) (N:=some 23) (v:=?_) (a':=?_) #[true,false,false,true,true,false] rfl rfl pU (fun _ _ _ h=>h) (Or.inl ⟨by rfl,?_⟩) ?_ ?_
     rotate_left
     ·intro w'
      go_simp
      with_reducible rfl
     rotate_left
     ·simp only [Act.put,List.setIfInBounds_toArray,List.set_cons_zero,List.set_cons_succ,i64_w,i32_w]
      rfl
     refine take_ (i:=1) (N:=some 20) (v:=?_) (a':=?_) #[true,true,false,true,true,false] rfl rfl pU (fun _ _ _ h=>h) (Or.inl ⟨by rfl,?_⟩) hHeld ?_ ?_
     rotate_left
     ·rintro w' ⟨s0,s1,s2,s3⟩
      go_simp
      with_reducible rfl
     rotate_left
     ·simp only [Act.put,List.setIfInBounds_toArray,List.set_cons_zero,List.set_cons_succ,i64_w,i32_w]
      rfl
     refine one_ (i:=2) (N:=some 21) #[true,true,true,true,true,false] rfl rfl pU (by decide) (fun K hK=>?_)
     refine goes_ Tryz.func168 pU rfl #[.agg #[.int .i64 a0_1,.slice A0_2 l0_2.length c0_2,.slice A0_3 l0_3.length c0_3]] (by rfl) rfl rfl pG ?_
     with_reducible refine (threshold_Uses.calls k a0_1 _ _ l0_2 _ _ l0_3 t140 _ ?side1 ?side2 ?side3 ?side4 A6.out).mono ?_
     (case side1=>exact pC HR0_2)
     (case side2=>exact HC0_2.out)
     (case side3=>exact pC HR0_3)
     (case side4=>exact HC0_3.out)
     rintro e w19 ⟨rfl,hb⟩
     refine ⟨_,rfl,?_⟩
     have n0_:=Z (blk_below (g:=gb137) (o:=.cells #[.bool true,.int .i64 a0_1,.slice A0_2 l0_2.length c0_2,.slice A0_3 l0_3.length c0_3] 92 (0,0)) (pK BK137) hb)
     have n1_:=Z (below_step pB hb)
     clear BK137 HB
     have BK137:=n0_
     have HB:=n1_
     clear n0_ n1_
     (try clear hb)
     (try clear hb2)
     (try clear hk)
     (try clear hi)
     refine hK.out _ _ ⟨(kC BK137.out 0).trans rfl,(kC BK137.out 1).trans rfl,(kC BK137.out 2).trans rfl,(kC BK137.out 3).trans rfl⟩ (fun hHeld=>?_)
     clear hK K
     refine norm_ (a':=?_) ?_ ?_
     rotate_left
     ·show Act.put _ (some 21) _=_
      simp only [Act.put,List.setIfInBounds_toArray,List.set_cons_zero,List.set_cons_succ,i64_w,i32_w]
      rfl
     refine pure_ (i:=5) (N:=some 24) (v:=?_) (a':=?_) #[true,true,true,true,true,true] rfl rfl pU (fun _ _ _ h=>h) (Or.inl ⟨by rfl,?_⟩) ?_ ?_
     rotate_left
     ·intro w'
      go_simp
      with_reducible rfl
     rotate_left
     ·simp only [Act.put,List.setIfInBounds_toArray,List.set_cons_zero,List.set_cons_succ,i64_w,i32_w]
      rfl
     refine done_ pU ?_
     try go_wp2
     go_ret
     exact ⟨by first|rfl|(simp [errW_none,errW_some] <;> rfl)|(simp only [← hji8];first|rfl|(simp [errW_none,errW_some] <;> rfl))|(simp [*,errW_none,errW_some] <;> rfl),pB⟩
   ·rw [if_neg c7] at H
    exact absurd H (by simp)
  ·rw [if_neg c5] at H
   have c5b0:(t139 == 0)=false:=beq_eq_false_iff_ne.mpr c5
   have c5b1:(t139 != 0)=true:=bne_iff_ne.mpr c5
   obtain rfl:=Option.some.inj H
   go_enter Tryz.func156,Tryz.ntmps156
   go_wp2_with (first|((with_reducible refine gate_dst (N:=2) rfl ?_);refine box_event ?hg (N:=2) ?hd (cs:=#[.bool true,.int .i64 a0_1,.slice A0_2 l0_2.length c0_2,.slice A0_3 l0_3.length c0_3]) (t:=92) ?hr ?_;(case hd=>rfl);(case hg=>rfl);(case hr=>first|(go_simp;done)|(go_simp;rfl));intro gb137 hg w20 hbox hb;have n0_:=Z (below_step pB hb);have BK137:=Z (hbox);have GW137:=Z ((pT hg:w.heap.size≤gb137));have GE137:=Z ((pT hg:w.heap.size≤gb137));clear HB;have HB:=n0_;clear n0_ hb hbox hg;obtain ⟨hcz21_0,hcz21_1,hcz21_2,hcz21_3,hfz21_0,hfz21_1,hfz21_2,hfz21_3⟩:=p4 BK137)|((with_reducible refine gate_callee (f:=189) rfl ?_);refine goesL_ (some 15) rfl rfl Tryz.func189 pU rfl #[.agg #[.int .i64 a0_1,.slice A0_2 l0_2.length c0_2,.slice A0_3 l0_3.length c0_3]] rfl pG ?_;(with_reducible refine (threshold_Valid.calls k a0_1 _ _ l0_2 _ _ l0_3 t139 _ ?side1 ?side2 ?side3 ?side4 A4.out).mono ?_);(case side1=>exact pC HR0_2);(case side2=>exact HC0_2.out);(case side3=>exact pC HR0_3);(case side4=>exact HC0_3.out);rintro e w22 ⟨rfl,hb⟩;refine ⟨_,rfl,?_⟩;replace BK137:=Z (blk_below (g:=gb137) (o:=.cells #[.bool true,.int .i64 a0_1,.slice A0_2 l0_2.length c0_2,.slice A0_3 l0_3.length c0_3] 92 (0,0)) (pK BK137) hb);have n1_:=Z (below_step pB hb);clear HB;have HB:=n1_;clear n1_;(try clear hb);(try clear hb2);(try clear hk);(try clear hi)))
   go_ret
   exact ⟨pF,pB⟩
 ·replace c3:=Bool.eq_false_iff.mpr c3
  subst c3
  rw [if_neg (show ¬ (false=true) by decide)] at H
  replace H:=pO H
  obtain ⟨t138,A230,H⟩:=H
  try dsimp only at H
  have A23:=Z A230
  clear A230
  by_cases c24:t138=true
  ·subst c24
   rw [if_pos rfl] at H
   obtain rfl:=Option.some.inj H
   go_enter Tryz.func156,Tryz.ntmps156
   go_wp2_with (first|((with_reducible refine gate_dst (N:=2) rfl ?_);refine box_event ?hg (N:=2) ?hd (cs:=#[.bool false,.int .i64 a0_1,.slice A0_2 l0_2.length c0_2,.slice A0_3 l0_3.length c0_3]) (t:=92) ?hr ?_;(case hd=>rfl);(case hg=>rfl);(case hr=>first|(go_simp;done)|(go_simp;rfl));intro gb137 hg w25 hbox hb;have n0_:=Z (below_step pB hb);have BK137:=Z (hbox);have GW137:=Z ((pT hg:w.heap.size≤gb137));have GE137:=Z ((pT hg:w.heap.size≤gb137));clear HB;have HB:=n0_;clear n0_ hb hbox hg;obtain ⟨hcz26_0,hcz26_1,hcz26_2,hcz26_3,hfz26_0,hfz26_1,hfz26_2,hfz26_3⟩:=p4 BK137)|((with_reducible refine gate_callee (f:=188) rfl ?_);refine goesL_ (some 11) rfl rfl Tryz.func188 pU rfl #[.agg #[.int .i64 a0_1,.slice A0_2 l0_2.length c0_2,.slice A0_3 l0_3.length c0_3]] rfl pG ?_;(with_reducible refine (configuration_blank.calls a0_1 _ _ l0_2 _ _ l0_3 true _ ?side1 ?side2 ?side3 ?side4 A23.out).mono ?_);(case side1=>exact pC HR0_2);(case side2=>exact HC0_2.out);(case side3=>exact pC HR0_3);(case side4=>exact HC0_3.out);rintro e w27 ⟨rfl,hb⟩;refine ⟨_,rfl,?_⟩;replace BK137:=Z (blk_below (g:=gb137) (o:=.cells #[.bool false,.int .i64 a0_1,.slice A0_2 l0_2.length c0_2,.slice A0_3 l0_3.length c0_3] 92 (0,0)) (pK BK137) hb);have n1_:=Z (below_step pB hb);clear HB;have HB:=n1_;clear n1_;(try clear hb);(try clear hb2);(try clear hk);(try clear hi)))
   go_ret
   exact ⟨pF,pB⟩
  ·replace c24:=Bool.eq_false_iff.mpr c24
   subst c24
   rw [if_neg (show ¬ (false=true) by decide)] at H
   obtain rfl:=Option.some.inj H
   go_enter Tryz.func156,Tryz.ntmps156
   go_wp2_with (first|((with_reducible refine gate_dst (N:=2) rfl ?_);refine box_event ?hg (N:=2) ?hd (cs:=#[.bool false,.int .i64 a0_1,.slice A0_2 l0_2.length c0_2,.slice A0_3 l0_3.length c0_3]) (t:=92) ?hr ?_;(case hd=>rfl);(case hg=>rfl);(case hr=>first|(go_simp;done)|(go_simp;rfl));intro gb137 hg w28 hbox hb;have n0_:=Z (below_step pB hb);have BK137:=Z (hbox);have GW137:=Z ((pT hg:w.heap.size≤gb137));have GE137:=Z ((pT hg:w.heap.size≤gb137));clear HB;have HB:=n0_;clear n0_ hb hbox hg;obtain ⟨hcz29_0,hcz29_1,hcz29_2,hcz29_3,hfz29_0,hfz29_1,hfz29_2,hfz29_3⟩:=p4 BK137)|((with_reducible refine gate_callee (f:=188) rfl ?_);refine goesL_ (some 11) rfl rfl Tryz.func188 pU rfl #[.agg #[.int .i64 a0_1,.slice A0_2 l0_2.length c0_2,.slice A0_3 l0_3.length c0_3]] rfl pG ?_;(with_reducible refine (configuration_blank.calls a0_1 _ _ l0_2 _ _ l0_3 false _ ?side1 ?side2 ?side3 ?side4 A23.out).mono ?_);(case side1=>exact pC HR0_2);(case side2=>exact HC0_2.out);(case side3=>exact pC HR0_3);(case side4=>exact HC0_3.out);rintro e w30 ⟨rfl,hb⟩;refine ⟨_,rfl,?_⟩;replace BK137:=Z (blk_below (g:=gb137) (o:=.cells #[.bool false,.int .i64 a0_1,.slice A0_2 l0_2.length c0_2,.slice A0_3 l0_3.length c0_3] 92 (0,0)) (pK BK137) hb);have n1_:=Z (below_step pB hb);clear HB;have HB:=n1_;clear n1_;(try clear hb);(try clear hb2);(try clear hk);(try clear hi)))
   go_ret
   exact ⟨pF,pB⟩
def configuration_Valid.l0:Nat→List (S92)→Int→Int→List (S92)→Option (Int)
 | 0,_,_,_,_=>none
 | k+1,x11,x12,x13,x142000=>if x13 < x12 then (if 0≤x13 then (if x13 < (x11.length:Int) then ((configuration_member.f k ((rd_T92 x11 x13).f0) ((rd_T92 x11 x13).f1.f0) ((rd_T92 x11 x13).f1.f1) ((rd_T92 x11 x13).f1.f2) (x142000.length:Int)).bind fun t144=>(if t144=0 then (configuration_Valid.l0 k x11 x12 (wrap64 (x13+1)) x142000) else (some t144))) else (none)) else (none)) else (some 0)
def configuration_Valid.f (k:Nat) (l0_0:List (S92)):Option (Int):=if (l0_0.length:Int) > 10 then (some 3) else (configuration_Valid.l0 k l0_0 (l0_0.length:Int) 0 l0_0)
set_option maxHeartbeats 8000000 in
set_option maxRecDepth 100000 in
theorem configuration_Valid.calls (k:Nat) (A0_0:Option Addr) (c0_0:Nat) (l0_0:List (S92)) (r:Int) (w:World) (hr0_0:Kd.C k92 w A0_0 l0_0.length l0_0) (hc0_0:l0_0.length≤c0_0) (h:configuration_Valid.f k l0_0=some r) :
  Calls Tryz.prog 95 #[.agg #[.slice A0_0 l0_0.length c0_0]] w fun e w'=>e=.returned (.int .i64 r)∧Below w.heap.size w w':=by
 have hu25:=Tryz.underlying25
 have hu92:=Tryz.underlying92
 have HR0_0:=Z hr0_0
 have HC0_0:=Z hc0_0
 clear hr0_0 hc0_0
 have HB:=Z (Below.refl w.heap.size w)
 have H:(if (l0_0.length:Int) > 10 then (some 3) else (configuration_Valid.l0 k l0_0 (l0_0.length:Int) 0 l0_0))=some r:=h
 clear h
 by_cases c2:(l0_0.length:Int) > 10
 ·rw [if_pos c2] at H
  have c2b0:decide (10 < (l0_0.length:Int))=true:=decide_eq_true c2
  have c2b1:decide (10 < l0_0.length)=true:=decide_eq_true (by omega)
  clear c2
  obtain rfl:=Option.some.inj H
  go_enter Tryz.func95,Tryz.ntmps95
  go_wp2_with (first|((with_reducible refine gate_dst (N:=1) rfl ?_);refine box_event ?hg (N:=1) ?hd (cs:=#[.slice A0_0 l0_0.length c0_0]) (t:=25) ?hr ?_;(case hd=>rfl);(case hg=>rfl);(case hr=>first|(go_simp;done)|(go_simp;rfl));intro gb141 hg w3 hbox hb;have n0_:=Z (below_step pB hb);have BK141:=Z (hbox);have GW141:=Z ((pT hg:w.heap.size≤gb141));have GE141:=Z ((pT hg:w.heap.size≤gb141));clear HB;have HB:=n0_;clear n0_ hb hbox hg;obtain ⟨hcz4_0,hfz4_0⟩:=p1 BK141))
  go_ret
  exact ⟨pF,pB⟩
 ·rw [if_neg c2] at H
  have c2b0:decide (10 < (l0_0.length:Int))=false:=decide_eq_false c2
  have c2b1:decide (10 < l0_0.length)=false:=decide_eq_false (by omega)
  clear c2
  have H':=Z H
  clear H
  go_enter Tryz.func95,Tryz.ntmps95
  go_wp2_with (first|((with_reducible refine gate_dst (N:=1) rfl ?_);refine box_event ?hg (N:=1) ?hd (cs:=#[.slice A0_0 l0_0.length c0_0]) (t:=25) ?hr ?_;(case hd=>rfl);(case hg=>rfl);(case hr=>first|(go_simp;done)|(go_simp;rfl));intro gb141 hg w5 hbox hb;have n0_:=Z (below_step pB hb);have BK141:=Z (hbox);have GW141:=Z ((pT hg:w.heap.size≤gb141));have GE141:=Z ((pT hg:w.heap.size≤gb141));clear HB;have HB:=n0_;clear n0_ hb hbox hg;obtain ⟨hcz6_0,hfz6_0⟩:=p1 BK141))
  go_loopg [13] k (fun kq v13 w'=>∃ (x13_1:Int),v13=.int .i64 x13_1∧Aside0 (configuration_Valid.l0 kq l0_0 (l0_0.length:Int) x13_1 l0_0=some r)∧Aside0 (kq≤k)∧Aside0 (w'.heap[gb141]?=some (.cells #[(.slice A0_0 l0_0.length c0_0)] 25 (0,0)))∧Aside0 (Below w.heap.size w w'))
  case atStart=>exact ⟨(0),pE,H',⟨Nat.le_refl _⟩,⟨pK BK141⟩,⟨pB⟩⟩
  case round =>
   clear H'
   try clear c2
   try clear c2b0
   try clear c2b1
   try clear p2
   try clear hcz4_0
   try clear hcz6_0
   try clear hfz4_0
   try clear hfz6_0
   obtain ⟨x13_1,rfl,HA,HK1,BK141,HB⟩:=hrel
   cases gk with
   | zero=>exact absurd HA.out (by simp [configuration_Valid.l0])
   | succ k1 =>
    have H:=HA.out
    clear HA
    simp only [configuration_Valid.l0] at H
    by_cases c7:x13_1 < (l0_0.length:Int)
    ·rw [if_pos c7] at H
     have c7b0:decide (x13_1 < (l0_0.length:Int))=true:=decide_eq_true c7
     clear c7
     by_cases c8:0≤x13_1
     ·rw [if_pos c8] at H
      have c8b0:decide (0≤x13_1)=true:=decide_eq_true c8
      clear c8
      by_cases c9:x13_1 < (l0_0.length:Int)
      ·rw [if_pos c9] at H
       have c9b0:decide (x13_1 < (l0_0.length:Int))=true:=decide_eq_true c9
       clear c9
       replace H:=pO H
       obtain ⟨t144,A100,H⟩:=H
       try dsimp only at H
       have A10:=Z A100
       clear A100
       by_cases c11:t144=0
       ·rw [if_pos c11] at H
        have c11b0:(t144 == 0)=true:=beq_iff_eq.mpr c11
        have c11b1:(t144 != 0)=false:=bne_eq_false_iff_eq.mpr c11
        clear c11
        have H':=Z H
        clear H
        have p142:0≤(x13_1:Int):=of_decide_eq_true pA
        have q142:x13_1 < (l0_0.length:Int):=of_decide_eq_true pA
        obtain ⟨ad142,A142_2,c142_2,A142_3,c142_3,e142,hx142_0,hx142_1,hx142_2,hx142_3,hl142_2,hi142_2,hl142_3,hi142_3⟩:=at_T92 HR0_0.out x13_1 p142 q142
        cases e142
        replace hx142_0:=pX HB hx142_0
        replace hx142_1:=pX HB hx142_1
        replace hx142_2:=pX HB hx142_2
        replace hx142_3:=pX HB hx142_3
        have HR142_2:=Z hi142_2
        have HC142_2:=Z hl142_2
        clear hi142_2 hl142_2
        have HR142_3:=Z hi142_3
        have HC142_3:=Z hl142_3
        clear hi142_3 hl142_3
        replace p142:=eq_true p142
        replace q142:=eq_true q142
        go_wp2_with (first|((with_reducible refine gate_dst (N:=4) rfl ?_);refine box_event ?hg (N:=4) ?hd (cs:=#[.bool false,.int .i64 0,.slice none 0 0,.slice none 0 0]) (t:=92) ?hr ?_;(case hd=>rfl);(case hg=>rfl);(case hr=>first|(go_simp;done)|(go_simp;rfl));intro gb143 hg w12 hbox hb;have n0_:=Z (blk_below (g:=gb141) (o:=.cells #[.slice (some ad142) l0_0.length c0_0] 25 (0,0)) (pK BK141) hb);have n1_:=Z (below_step pB hb);have BK143:=Z (hbox);have GW143:=Z ((pT hg:w.heap.size≤gb143));have GE143:=Z ((pT hg:w.heap.size≤gb143));have NB141_143:=Z ((pL hg (pK BK141):gb141 ≠ gb143));have NB143_141:=Z ((pM hg (pK BK141):gb143 ≠ gb141));clear BK141 HB;have BK141:=n0_;have HB:=n1_;clear n0_ n1_ hb hbox hg;have hnb13:=NB143_141.out;have hnc13:=NB141_143.out;obtain ⟨hcz14_0,hcz14_1,hcz14_2,hcz14_3,hfz14_0,hfz14_1,hfz14_2,hfz14_3⟩:=p4 BK143;obtain ⟨hcz15_0,hfz15_0⟩:=p1 BK141)|((with_reducible refine gate_callee (f:=156) rfl ?_);refine goesL_ (some 21) rfl rfl Tryz.func156 pU rfl #[.agg #[.bool ((rd_T92 l0_0 x13_1).f0),.int .i64 ((rd_T92 l0_0 x13_1).f1.f0),.slice A142_2 ((rd_T92 l0_0 x13_1).f1.f1).length c142_2,.slice A142_3 ((rd_T92 l0_0 x13_1).f1.f2).length c142_3],.int .i64 (l0_0.length:Int)] rfl pG ?_;(with_reducible refine (configuration_member.calls k1 ((rd_T92 l0_0 x13_1).f0) ((rd_T92 l0_0 x13_1).f1.f0) _ _ ((rd_T92 l0_0 x13_1).f1.f1) _ _ ((rd_T92 l0_0 x13_1).f1.f2) (l0_0.length:Int) t144 _ ?side1 ?side2 ?side3 ?side4 A10.out).mono ?_);(case side1=>exact Kd.C_below HR142_2.out pB);(case side2=>exact HC142_2.out);(case side3=>exact Kd.C_below HR142_3.out pB);(case side4=>exact HC142_3.out);rintro e w16 ⟨rfl,hb⟩;refine ⟨_,rfl,?_⟩;replace BK141:=Z (blk_below (g:=gb141) (o:=.cells #[.slice (some ad142) l0_0.length c0_0] 25 (0,0)) (by refine pQ ?_;refine blk_far ?_ NB141_143.out _;refine pQ ?_;refine blk_far ?_ NB141_143.out _;refine pQ ?_;refine blk_far ?_ NB141_143.out _;refine pQ ?_;refine blk_far ?_ NB141_143.out _;exact pK BK141) hb);replace BK143:=Z (blk_below (g:=gb143) (o:=.cells #[.bool ((rd_T92 l0_0 x13_1).f0),.int .i64 ((rd_T92 l0_0 x13_1).f1.f0),.slice A142_2 ((rd_T92 l0_0 x13_1).f1.f1).length c142_2,.slice A142_3 ((rd_T92 l0_0 x13_1).f1.f2).length c142_3] 92 (0,0)) (by refine pQ ?_;refine blk_put (cs:=#[.bool ((rd_T92 l0_0 x13_1).f0),.int .i64 ((rd_T92 l0_0 x13_1).f1.f0),.slice A142_2 ((rd_T92 l0_0 x13_1).f1.f1).length c142_2,.slice none 0 0]) ?_ 3 _ rfl;refine pQ ?_;refine blk_put (cs:=#[.bool ((rd_T92 l0_0 x13_1).f0),.int .i64 ((rd_T92 l0_0 x13_1).f1.f0),.slice none 0 0,.slice none 0 0]) ?_ 2 _ rfl;refine pQ ?_;refine blk_put (cs:=#[.bool ((rd_T92 l0_0 x13_1).f0),.int .i64 0,.slice none 0 0,.slice none 0 0]) ?_ 1 _ rfl;refine pQ ?_;refine blk_put (cs:=#[.bool false,.int .i64 0,.slice none 0 0,.slice none 0 0]) ?_ 0 _ rfl;exact pK BK143) hb);have n2_:=Z (below_step pB hb);clear HB;have HB:=n2_;clear n2_;(try clear hb);(try clear hb2);(try clear hk);(try clear hi)))
        go_roundg k1
        case measure=>have:=HK1.out;omega
        case rel=>exact ⟨(wrap64 (x13_1+1)),pE,H',⟨by have:=HK1.out;omega⟩,⟨pK BK141⟩,⟨pB⟩⟩
       ·rw [if_neg c11] at H
        have c11b0:(t144 == 0)=false:=beq_eq_false_iff_ne.mpr c11
        have c11b1:(t144 != 0)=true:=bne_iff_ne.mpr c11
        obtain rfl:=Option.some.inj H
        have p142:0≤(x13_1:Int):=of_decide_eq_true pA
        have q142:x13_1 < (l0_0.length:Int):=of_decide_eq_true pA
        obtain ⟨ad142,A142_2,c142_2,A142_3,c142_3,e142,hx142_0,hx142_1,hx142_2,hx142_3,hl142_2,hi142_2,hl142_3,hi142_3⟩:=at_T92 HR0_0.out x13_1 p142 q142
        cases e142
        replace hx142_0:=pX HB hx142_0
        replace hx142_1:=pX HB hx142_1
        replace hx142_2:=pX HB hx142_2
        replace hx142_3:=pX HB hx142_3
        have HR142_2:=Z hi142_2
        have HC142_2:=Z hl142_2
        clear hi142_2 hl142_2
        have HR142_3:=Z hi142_3
        have HC142_3:=Z hl142_3
        clear hi142_3 hl142_3
        replace p142:=eq_true p142
        replace q142:=eq_true q142
        go_wp2_with (first|((with_reducible refine gate_dst (N:=4) rfl ?_);refine box_event ?hg (N:=4) ?hd (cs:=#[.bool false,.int .i64 0,.slice none 0 0,.slice none 0 0]) (t:=92) ?hr ?_;(case hd=>rfl);(case hg=>rfl);(case hr=>first|(go_simp;done)|(go_simp;rfl));intro gb143 hg w17 hbox hb;have n0_:=Z (blk_below (g:=gb141) (o:=.cells #[.slice (some ad142) l0_0.length c0_0] 25 (0,0)) (pK BK141) hb);have n1_:=Z (below_step pB hb);have BK143:=Z (hbox);have GW143:=Z ((pT hg:w.heap.size≤gb143));have GE143:=Z ((pT hg:w.heap.size≤gb143));have NB141_143:=Z ((pL hg (pK BK141):gb141 ≠ gb143));have NB143_141:=Z ((pM hg (pK BK141):gb143 ≠ gb141));clear BK141 HB;have BK141:=n0_;have HB:=n1_;clear n0_ n1_ hb hbox hg;have hnb18:=NB143_141.out;have hnc18:=NB141_143.out;obtain ⟨hcz19_0,hcz19_1,hcz19_2,hcz19_3,hfz19_0,hfz19_1,hfz19_2,hfz19_3⟩:=p4 BK143;obtain ⟨hcz20_0,hfz20_0⟩:=p1 BK141)|((with_reducible refine gate_callee (f:=156) rfl ?_);refine goesL_ (some 21) rfl rfl Tryz.func156 pU rfl #[.agg #[.bool ((rd_T92 l0_0 x13_1).f0),.int .i64 ((rd_T92 l0_0 x13_1).f1.f0),.slice A142_2 ((rd_T92 l0_0 x13_1).f1.f1).length c142_2,.slice A142_3 ((rd_T92 l0_0 x13_1).f1.f2).length c142_3],.int .i64 (l0_0.length:Int)] rfl pG ?_;(with_reducible refine (configuration_member.calls k1 ((rd_T92 l0_0 x13_1).f0) ((rd_T92 l0_0 x13_1).f1.f0) _ _ ((rd_T92 l0_0 x13_1).f1.f1) _ _ ((rd_T92 l0_0 x13_1).f1.f2) (l0_0.length:Int) t144 _ ?side1 ?side2 ?side3 ?side4 A10.out).mono ?_);(case side1=>exact Kd.C_below HR142_2.out pB);(case side2=>exact HC142_2.out);(case side3=>exact Kd.C_below HR142_3.out pB);(case side4=>exact HC142_3.out);rintro e w21 ⟨rfl,hb⟩;refine ⟨_,rfl,?_⟩;replace BK141:=Z (blk_below (g:=gb141) (o:=.cells #[.slice (some ad142) l0_0.length c0_0] 25 (0,0)) (by refine pQ ?_;refine blk_far ?_ NB141_143.out _;refine pQ ?_;refine blk_far ?_ NB141_143.out _;refine pQ ?_;refine blk_far ?_ NB141_143.out _;refine pQ ?_;refine blk_far ?_ NB141_143.out _;exact pK BK141) hb);replace BK143:=Z (blk_below (g:=gb143) (o:=.cells #[.bool ((rd_T92 l0_0 x13_1).f0),.int .i64 ((rd_T92 l0_0 x13_1).f1.f0),.slice A142_2 ((rd_T92 l0_0 x13_1).f1.f1).length c142_2,.slice A142_3 ((rd_T92 l0_0 x13_1).f1.f2).length c142_3] 92 (0,0)) (by refine pQ ?_;refine blk_put (cs:=#[.bool ((rd_T92 l0_0 x13_1).f0),.int .i64 ((rd_T92 l0_0 x13_1).f1.f0),.slice A142_2 ((rd_T92 l0_0 x13_1).f1.f1).length c142_2,.slice none 0 0]) ?_ 3 _ rfl;refine pQ ?_;refine blk_put (cs:=#[.bool ((rd_T92 l0_0 x13_1).f0),.int .i64 ((rd_T92 l0_0 x13_1).f1.f0),.slice none 0 0,.slice none 0 0]) ?_ 2 _ rfl;refine pQ ?_;refine blk_put (cs:=#[.bool ((rd_T92 l0_0 x13_1).f0),.int .i64 0,.slice none 0 0,.slice none 0 0]) ?_ 1 _ rfl;refine pQ ?_;refine blk_put (cs:=#[.bool false,.int .i64 0,.slice none 0 0,.slice none 0 0]) ?_ 0 _ rfl;exact pK BK143) hb);have n2_:=Z (below_step pB hb);clear HB;have HB:=n2_;clear n2_;(try clear hb);(try clear hb2);(try clear hk);(try clear hi)))
        go_ret
        exact ⟨pF,pB⟩
      ·rw [if_neg c9] at H
       exact absurd H (by simp)
     ·rw [if_neg c8] at H
      exact absurd H (by simp)
    ·rw [if_neg c7] at H
     have c7b0:decide (x13_1 < (l0_0.length:Int))=false:=decide_eq_false c7
     clear c7
     obtain rfl:=Option.some.inj H
     go_wp2
     go_ret
     exact ⟨pF,pB⟩
end Go.Proofs.YtkjlcbfjllpcnaaGreat.X
namespace Go.Proofs.YtkjlcbfjllpcnaaGreat.X
open Go.RowKit Go.Lib Go.Sort YtkjlcbfjllpcnaaGreatW.PrintWords YtkjlcbfjllpcnaaGreatW.PrintLast YtkjlcbfjllpcnaaGreatW.PrintMore
def sub (t s:Int):Bool:=Go.bits .andNot .i64 t s == 0
def leastStep (out:List Int) (s:Int):List Int:=if (out.any fun t=>sub t s)=true then out else out++[s]
def leastFold (l:List Int):List Int:=l.foldl leastStep []
def leastS (l:List Int):List Int:=leastFold (sortS (l.filter vld))
def nodeset_Least.f (a0:List Int):Option (List Int):=if a0.length≤1048576 then some (leastS a0) else none
theorem leastFold_le (l:List Int):(leastFold l).length≤l.length:=by
 have h:∀ (l acc:List Int),(l.foldl leastStep acc).length≤acc.length+l.length:=by
  intro l
  induction l with
  | nil=>intro acc;simp
  | cons x r ih =>
   intro acc
   have:=ih (leastStep acc x)
   have h2:(leastStep acc x).length≤acc.length+1:=by unfold leastStep;split <;> simp
   simp only [List.foldl_cons,List.length_cons];omega
 simpa [leastFold] using h l []
theorem least2_calls (t s:Int) (B:Nat) (W:World) (hc:W.cell? ⟨B,0,none⟩=some (.int .i64 s)):Calls Tryz.prog 164 #[.int .i64 t,.pointer (some ⟨B,0,none⟩)] W fun e w'=>e=.returned (.bool (sub t s))∧∃ q,w'=W.drewN q:=by
 go_enter Tryz.func164,Tryz.ntmps164
 go_wp2
 go_ret
 exact ⟨rfl,0,rfl⟩
theorem contains_row {W:World} {A:Option Addr} {c:Nat} {l:List Int} {s:Int} {B:Nat} (hr:Kd.C (Kd.int .i64) W A l.length l) (hc:W.cell? ⟨B,0,none⟩=some (.int .i64 s)) :
  Calls Tryz.prog 163 #[.slice A l.length c,.func (.func 164) #[] #[.pointer (some ⟨B,0,none⟩)]] W fun e w'=>e=.returned (.bool (l.any fun t=>sub t s))∧∃ q,w'=W.drewN q:=by
 rcases Nat.eq_zero_or_pos l.length with h0|h0
 ·obtain rfl:=List.eq_nil_of_length_eq_zero h0
  refine (Tryz.slices_ContainsFunc_empty (α:=Int) A c _ W).mono ?_
  rintro e w' ⟨rfl,rfl⟩
  exact ⟨rfl,0,rfl⟩
 ·obtain ⟨b,off,rfl,_,hcc⟩:=C_ints hr h0
  have hB:=World.block_lt_of_cell? W _ hc
  refine (Tryz.slices_ContainsFunc (Value.int .i64) (fun t=>sub t s) 164 #[.pointer (some ⟨B,0,none⟩)] (enters_of Tryz.func164 pU rfl) b off l.length c l W (fun W' x hb=>least2_calls x s B W' ((hb.cell (p:=⟨B,0,none⟩) hB).trans hc)) (Nat.le_refl _) (C_max hr) hcc).mono ?_
  rintro e w' ⟨rfl,hq⟩
  rw [List.take_length]
  exact ⟨rfl,hq⟩
set_option maxHeartbeats 4000000 in
set_option maxRecDepth 100000 in
theorem nodeset_Least.calls (A0 : Option Addr) (c0 : Nat) (l0 : List Int) (r : List Int) (w : World) (hr0 : Kd.C (Kd.int .i64) w A0 l0.length l0) (hc0 : l0.length ≤ c0) (h : nodeset_Least.f l0 = some r) :
    Calls Tryz.prog 96 #[.slice A0 l0.length c0] w fun e w' => ∃ v0_ : Value, e = .returned (v0_) ∧ Kd.R (Kd.int .i64) 3 w' w.heap.size (fun _ => True) v0_ r ∧ Below w.heap.size w w' := by
  unfold nodeset_Least.f at h
  split at h
  case isFalse => cases h
  rename_i hlen
  obtain rfl := Option.some.inj h
  clear h
  have HL := Aside0.mk hlen
  have hfl := List.length_filter_le vld l0
  have HF : Aside0 ((l0.filter vld).length < 4611686018427387904) := ⟨by omega⟩
  have HR := Aside0.mk hr0
  clear hr0 hfl hlen
  unfold leastS
  obtain ⟨S, HS⟩ : ∃ S, Aside0 (S = sortS (l0.filter vld)) := ⟨_, ⟨rfl⟩⟩
  have HSl : Aside0 (S.length ≤ 1048576) := ⟨by rw [HS.out, sortS_length]; have := List.length_filter_le vld l0; have := HL.out; omega⟩
  rw [← HS.out]
  go_enter Tryz.func96, Tryz.ntmps96
  go_wp2_with (first
    | (go_at_call 158; refine (clone_row HR.out (by have := HL.out; omega)).mono ?_; rintro e w1 ⟨v1, rfl, h1, hb1⟩; have H1 := Aside0.mk h1; have B1 := Aside0.mk hb1; clear h1 hb1)
    | (go_at_call 157; refine (delete_row H1.out (by have := HL.out; omega)).mono ?_; rintro e w2 ⟨v2, rfl, h2, ho2, hg2⟩; have H2 := Aside0.mk h2; have B2 := Aside0.mk (B1.out.grown hg2 B1.out.size (own_base (own_of_R H1.out))); clear h2 ho2 hg2)
    | (go_at_call 161; refine (sort_row H2.out HF.out).mono ?_; rintro e w3 ⟨rfl, h3, hg3⟩; rw [← HS.out] at h3; have H3 := Aside0.mk h3; have B3 := Aside0.mk (B2.out.grown hg3 B2.out.size (own_base (own_of_R H2.out))); clear h3 hg3; obtain ⟨A2, c2, e2⟩ := Kd.R_slice H3.out; subst e2))
  have B1' := B1.out
  clear H1 H2 B1 B2 B1' HF HL HR
  go_loopw [3, 13] (fun o i wr => ∃ x : Int, i = .int .i64 x ∧ Aside0 (0 ≤ x ∧ x ≤ S.length) ∧ Aside0 (RI wr w.heap.size (fun _ => True) o (leastFold (S.take x.toNat))) ∧ Aside0 (RI wr w.heap.size (fun k => True ∧ some k ≠ o.ownBlock) (.slice A2 S.length c2) S) ∧ Aside0 (RowKit.Below w.heap.size w wr)) (fun _ i _ => S.length - (intOf i).toNat)
  case atStart => exact ⟨0, rfl, ⟨by omega⟩, ⟨Kd.R_nil _ _ _ _ _⟩, ⟨Kd.R_mono H3.out (fun k _ => ⟨trivial, by simp [Value.ownBlock]⟩)⟩, B3⟩
  case round =>
    obtain ⟨x, rfl, Hx, HO, HS3, HB⟩ := hrel
    clear H3 B3
    obtain ⟨ob, rfl⟩ : ∃ ob, ob = wr := ⟨_, rfl⟩
    by_cases hlt : x < S.length
    · have hd : decide (x < (S.length : Int)) = true := decide_eq_true hlt
      have p0 := Hx.out.1
      obtain ⟨F, HF⟩ : ∃ F, Aside0 (F = leastFold (S.take x.toNat)) := ⟨_, ⟨rfl⟩⟩
      rw [← HF.out] at HO
      obtain ⟨A, c, e0⟩ := Kd.R_slice HO.out
      subst e0
      obtain ⟨ad, ea, hx⟩ := Kd.at_int (Kd.R_reads' HS3.out).2.2 x p0 hlt
      cases ea
      obtain ⟨y, Hy⟩ : ∃ y, Aside0 (y = rd S x) := ⟨_, ⟨rfl⟩⟩
      rw [← Hy.out] at hx
      obtain ⟨b, Hb⟩ : ∃ b, Aside0 (b = F.any fun t => sub t y) := ⟨_, ⟨rfl⟩⟩
      have Hlt := Aside0.mk hlt
      have HFl : Aside0 (F.length ≤ 1048576) := ⟨by rw [HF.out]; have := leastFold_le (S.take x.toNat); have := HSl.out; simp at *; omega⟩
      have Hnext : Aside0 (leastFold (S.take (wrap64 (x + 1)).toNat) = leastStep F y ∧ wrap64 (x + 1) = x + 1) := by
        have h1 : wrap64 (x + 1) = x + 1 := by unfold wrap64; have := HSl.out; omega
        refine ⟨?_, h1⟩
        have h2 : (x + 1).toNat = x.toNat + 1 := by omega
        have h3 : x.toNat < S.length := by omega
        have h4 : YtkjlcbfjllpcnaaGreatW.PrintWords.rd S x = S[x.toNat] := by simp [rd_, List.getD, h3]
        rw [h1, h2, HF.out, Hy.out, h4, List.take_succ_eq_append_getElem h3]
        unfold leastFold
        rw [List.foldl_append]
        rfl
      replace hlt := eq_true hlt
      replace p0 := eq_true p0
      cases b
      all_goals
        go_wp2_with (first
          | (go_at_call 163; refine (contains_row (s := y) (B := ob.heap.size) (Kd.R_reads' (Kd.R_alloc HO.out _)).2.2 (by simp)).mono ?_; rintro e w1 ⟨he, hq⟩; rw [← Hb.out] at he; subst he; have HO1 : Aside0 (RI w1 w.heap.size (fun _ => True) (.slice A F.length c) F) := (by obtain ⟨q, rfl⟩ := hq; exact ⟨Kd.R_drewN (Kd.R_alloc HO.out _) _⟩); have HS1 : Aside0 (RI w1 w.heap.size (fun k => True ∧ some k ≠ (Value.slice A F.length c).ownBlock) (.slice (some ad) S.length c2) S) := (by obtain ⟨q, rfl⟩ := hq; exact ⟨Kd.R_drewN (Kd.R_alloc HS3.out _) _⟩); have HB1 : Aside0 (RowKit.Below w.heap.size w w1) := (by obtain ⟨q, rfl⟩ := hq; exact ⟨wN (wA HB.out _) _⟩); have hcl : w1.cell? ⟨ob.heap.size, 0, none⟩ = some (.int .i64 y) := (by obtain ⟨q, rfl⟩ := hq; simp); clear hq)
          | (at_builtin; go_loud (refine Kd.R_append (Kd.int .i64) (w0 := w) w.heap.size rfl (.tmp 21) (.tmp 23) 22 3 (.int .i64 0) 8 rfl Tryz.underlying22 info3 rfl (by decide) (by omega) (.slice A F.length c) F y [.int .i64 y] (fun _ => True) (fun _ => False) rfl rfl ?aP (fun _ hk => hk.elim) (fun _ _ => trivial) ?aO ?aB ?aS ?aL ?_; (case aP => exact rfl); (case aO => exact HO1.out); (case aB => exact HB1.out); (case aS => exact HB1.out.size); (case aL => have := HFl.out; omega); intro v4 w4 h4 hb4 hg4 hat4; have H4 := Aside0.mk h4; have B4 := Aside0.mk hb4; have HS4 := Aside0.mk (Kd.R_after HS1.out hg4 hat4); clear h4 hb4 hg4 hat4)))
        go_roundw
        case rel =>
          first
          | exact ⟨wrap64 (x + 1), rfl, ⟨by have := Hnext.out.2; have := Hlt.out; have := Hx.out; omega⟩, ⟨by rw [Hnext.out.1]; unfold leastStep; rw [← Hb.out]; exact H4.out⟩, HS4, B4⟩
          | exact ⟨wrap64 (x + 1), rfl, ⟨by have := Hnext.out.2; have := Hlt.out; have := Hx.out; omega⟩, ⟨by rw [Hnext.out.1]; unfold leastStep; rw [← Hb.out]; exact HO1.out⟩, HS1, HB1⟩
        case measure => have h1 := Hnext.out.2; have := Hlt.out; have := Hx.out; simp only [intOf]; simp [h1]; omega
    · have hd : decide (x < (S.length : Int)) = false := decide_eq_false hlt
      have Hlt := Aside0.mk hlt
      clear hlt
      go_wp2
      go_ret
      have hx : x = S.length := by have := Hx.out; have := Hlt.out; omega
      rw [hx] at HO
      exact ⟨_, rfl, by simpa using HO.out, HB.out⟩
def subsBelow (s:Int) (m:Nat):List Int:=((List.range m).map Int.ofNat).filter fun t=>sub t s
def subsetsS (s:Int):List Int:=if vld s then sortS (subsBelow s (s.toNat+1)) else []
def nodeset_Subsets.f (a0:Int):Option (List Int):=some (subsetsS a0)
theorem subsBelow_le (s:Int) (m:Nat):(subsBelow s m).length≤m:=by
 unfold subsBelow
 have:=List.length_filter_le (fun t=>sub t s) ((List.range m).map Int.ofNat)
 simpa using this
theorem subsBelow_succ (s:Int) (m:Nat):subsBelow s (m+1)=if sub (m:Int) s=true then subsBelow s m++[(m:Int)] else subsBelow s m:=by
 unfold subsBelow
 rw [List.range_succ,List.map_append,List.filter_append]
 split
 ·rename_i h;simp [h]
 ·rename_i h;simp [h]
set_option maxHeartbeats 4000000 in
set_option maxRecDepth 100000 in
theorem nodeset_Subsets.calls (a0 : Int) (r : List Int) (w : World) (h : nodeset_Subsets.f a0 = some r) : Calls Tryz.prog 136 #[.int .i64 a0] w fun e w' => ∃ v0_ : Value, e = .returned (v0_) ∧ Kd.R (Kd.int .i64) 3 w' w.heap.size (fun _ => True) v0_ r ∧ Below w.heap.size w w' := by
  obtain rfl := Option.some.inj h
  clear h
  obtain ⟨b, Hb⟩ : ∃ b, Aside0 (b = vld a0) := ⟨_, ⟨rfl⟩⟩
  unfold subsetsS
  rw [← Hb.out]
  cases b with
  | false =>
    go_enter Tryz.func136, Tryz.ntmps136
    go_wp2
    go_loopw [3, 4] (fun o i wr => o = .slice none 0 0 ∧ i = .int .i64 0 ∧ Aside0 (RowKit.Below w.heap.size w wr)) (fun _ _ _ => 0)
    case atStart => exact ⟨rfl, rfl, ⟨Below.refl _ _⟩⟩
    case round =>
      obtain ⟨rfl, rfl, HB⟩ := hrel
      obtain ⟨ob, rfl⟩ : ∃ ob, ob = wr := ⟨_, rfl⟩
      go_wp2_with (first
        | (go_at_call 160; refine (nodeset_Valid.calls a0 false _ (by rw [Hb.out]; exact Valid_eq a0)).mono ?_; rintro e w1 ⟨rfl, ⟨q, rfl⟩⟩)
        | (go_at_call 161; refine (sort_row (base := w.heap.size) (ok := fun _ => True) (l := []) (Kd.R_nil _ _ _ _ _) (by simp)).mono ?_; rintro e w3 ⟨rfl, h3, hg3⟩))
      go_ret
      exact ⟨_, rfl, Kd.R_nil _ _ _ _ _, (wN HB.out _).grown hg3 (by have := HB.out.size; simpa using this) (by simp [Value.ownBlock])⟩
  | true =>
    simp only [if_true]
    have Hv : Aside0 (0 ≤ a0 ∧ a0 < 1024) := ⟨vld_iff.1 Hb.out.symm⟩
    go_enter Tryz.func136, Tryz.ntmps136
    go_wp2
    go_loopw [3, 4] (fun o i wr => ∃ x : Int, i = .int .i64 x ∧ Aside0 (0 ≤ x ∧ x ≤ a0 + 1) ∧ Aside0 (RI wr w.heap.size (fun _ => True) o (subsBelow a0 x.toNat)) ∧ Aside0 (RowKit.Below w.heap.size w wr)) (fun _ i _ => (a0 + 1 - intOf i).toNat)
    case atStart => exact ⟨0, rfl, ⟨by have := Hv.out; omega⟩, ⟨by exact Kd.R_nil _ _ _ _ _⟩, ⟨Below.refl _ _⟩⟩
    case round =>
      obtain ⟨x, rfl, Hx, HO, HB⟩ := hrel
      obtain ⟨ob, rfl⟩ : ∃ ob, ob = wr := ⟨_, rfl⟩
      obtain ⟨F, HF⟩ : ∃ F, Aside0 (F = subsBelow a0 x.toNat) := ⟨_, ⟨rfl⟩⟩
      rw [← HF.out] at HO
      have HFl : Aside0 (F.length ≤ 1025) := ⟨by rw [HF.out]; have := subsBelow_le a0 x.toNat; have := Hx.out; have := Hv.out; omega⟩
      have Hnext : Aside0 (wrap64 (x + 1) = x + 1 ∧ subsBelow a0 (x + 1).toNat = if sub x a0 = true then F ++ [x] else F) := ⟨by
        have h1 := Hx.out
        have h2 := Hv.out
        refine ⟨by unfold wrap64; omega, ?_⟩
        obtain ⟨m, rfl⟩ := Int.eq_ofNat_of_zero_le h1.1
        rw [HF.out, show ((m : Int) + 1).toNat = m + 1 from by omega, show (m : Int).toNat = m from by omega]
        exact subsBelow_succ a0 m⟩
      by_cases hlt : x ≤ a0
      · have hd : decide (x ≤ a0) = true := decide_eq_true hlt
        have Hlt := Aside0.mk hlt
        clear hlt
        obtain ⟨c, Hc⟩ : ∃ c, Aside0 (c = sub x a0) := ⟨_, ⟨rfl⟩⟩
        have hc : (Go.bits .andNot .i64 x a0 == 0) = c := by rw [Hc.out]; rfl
        cases c
        all_goals
          go_wp2_with (first
            | (go_at_call 160; refine (nodeset_Valid.calls a0 true _ (by rw [Hb.out]; exact Valid_eq a0)).mono ?_; rintro e w1 ⟨rfl, hq⟩; have HO1 := Aside0.mk (Kd.R_below HO.out hq.below); have HB1 := Aside0.mk (HB.out.trans (hq.below.mono HB.out.size)); clear hq)
            | (at_builtin; refine Kd.R_append (Kd.int .i64) (w0 := w) w.heap.size rfl (.tmp 18) (.tmp 20) 22 3 (.int .i64 0) 8 rfl Tryz.underlying22 info3 rfl (by decide) (by omega) _ F x [.int .i64 x] (fun _ => True) (fun _ => False) rfl rfl ?aP (fun _ hk => hk.elim) (fun _ _ => trivial) ?aO ?aB ?aS ?aL ?_; (case aP => exact rfl); (case aO => exact HO1.out); (case aB => exact HB1.out); (case aS => exact HB1.out.size); (case aL => have := HFl.out; omega); intro v4 w4 h4 hb4 hg4 hat4; have H4 := Aside0.mk h4; have B4 := Aside0.mk hb4; clear h4 hb4 hg4 hat4))
          go_roundw
          case rel =>
            first
            | exact ⟨wrap64 (x + 1), rfl, ⟨by have := Hnext.out.1; have := Hlt.out; have := Hx.out; omega⟩, ⟨by rw [Hnext.out.1, Hnext.out.2, ← Hc.out]; exact H4.out⟩, B4⟩
            | exact ⟨wrap64 (x + 1), rfl, ⟨by have := Hnext.out.1; have := Hlt.out; have := Hx.out; omega⟩, ⟨by rw [Hnext.out.1, Hnext.out.2, ← Hc.out]; exact HO1.out⟩, HB1⟩
          case measure => have h1 := Hnext.out.1; have := Hlt.out; have := Hx.out; simp [intOf, h1]; omega
      · have hd : decide (x ≤ a0) = false := decide_eq_false hlt
        have Hlt := Aside0.mk hlt
        clear hlt
        have hx : Aside0 (x.toNat = a0.toNat + 1) := ⟨by have := Hx.out; have := Hlt.out; have := Hv.out; omega⟩
        go_wp2_with (first
          | (go_at_call 160; refine (nodeset_Valid.calls a0 true _ (by rw [Hb.out]; exact Valid_eq a0)).mono ?_; rintro e w1 ⟨rfl, hq⟩; have HO1 := Aside0.mk (Kd.R_below HO.out hq.below); have HB1 := Aside0.mk (HB.out.trans (hq.below.mono HB.out.size)); clear hq)
          | (go_at_call 161; refine (sort_row HO1.out (by have := HFl.out; omega)).mono ?_; rintro e w3 ⟨rfl, h3, hg3⟩; have H3 := Aside0.mk h3; have B3 := Aside0.mk (HB1.out.grown hg3 HB1.out.size (own_base (own_of_R HO1.out))); clear h3 hg3))
        go_ret
        exact ⟨_, rfl, by rw [← hx.out, ← HF.out]; exact H3.out, B3.out⟩
end Go.Proofs.YtkjlcbfjllpcnaaGreat.X
namespace Go.Proofs.YtkjlcbfjllpcnaaGreat.X
open Go.RowKit YtkjlcbfjllpcnaaGreatW.PrintWords YtkjlcbfjllpcnaaGreatW.PrintLast YtkjlcbfjllpcnaaGreatW.PrintMore
attribute [local go_sem] max2_int min2_int max_two min_two max_three min_three max_four min_four
def danger_least_halts.l0:Nat→List Int→List Int→Int→Int→List (S92)→Option (List Int)
 | 0,_,_,_,_,_=>none
 | k+1,x5,x10,x11,x12,x152000=>if x12 < x11 then (if 0≤x12 then (if x12 < (x10.length:Int) then ((danger_halts.f k x152000 (rd x10 x12)).bind fun t157=>(if t157=true then (if x5.length < 17592186044416 then (danger_least_halts.l0 k (x5++[rd x10 x12]) x10 x11 (wrap64 (x12+1)) x152000) else (none)) else (danger_least_halts.l0 k x5 x10 x11 (wrap64 (x12+1)) x152000))) else (none)) else (none)) else ((nodeset_Least.f x5).bind fun t161=>(some t161))
def danger_least_halts.f (k:Nat) (l0_0:List (S92)):Option (List Int):=(danger_members.f l0_0).bind fun t152=>((nodeset_Subsets.f t152).bind fun t153=>(danger_least_halts.l0 k ([]:List Int) t153 (t153.length:Int) 0 l0_0))
set_option maxHeartbeats 8000000 in
set_option maxRecDepth 100000 in
theorem danger_least_halts.calls (k:Nat) (A0_0:Option Addr) (c0_0:Nat) (l0_0:List (S92)) (r:List Int) (w:World) (hr0_0:Kd.C k92 w A0_0 l0_0.length l0_0) (hc0_0:l0_0.length≤c0_0) (h:danger_least_halts.f k l0_0=some r) :
  Calls Tryz.prog 108 #[.agg #[.slice A0_0 l0_0.length c0_0],.func (.func 109) #[] #[]] w fun e w'=>∃ v0_:Value,e=.returned (v0_)∧Kd.R (Kd.int .i64) 3 w' w.heap.size (fun _=>True) v0_ r∧Below w.heap.size w w':=by
 have hu25:=Tryz.underlying25
 have HR0_0:=Z hr0_0
 have HC0_0:=Z hc0_0
 clear hr0_0 hc0_0
 have HB:=Z (Below.refl w.heap.size w)
 have H:((danger_members.f l0_0).bind fun t152=>((nodeset_Subsets.f t152).bind fun t153=>(danger_least_halts.l0 k ([]:List Int) t153 (t153.length:Int) 0 l0_0)))=some r:=h
 clear h
 replace H:=pO H
 obtain ⟨t152,A20,H⟩:=H
 try dsimp only at H
 have A2:=Z A20
 clear A20
 replace H:=pO H
 obtain ⟨t153,A30,H⟩:=H
 try dsimp only at H
 have A3:=Z A30
 clear A30
 have H':=Z H
 clear H
 go_enter Tryz.func108,Tryz.ntmps108
 go_wp2_with (first|((with_reducible refine gate_dst (N:=2) rfl ?_);refine box_event ?hg (N:=2) ?hd (cs:=#[.slice A0_0 l0_0.length c0_0]) (t:=25) ?hr ?_;(case hd=>rfl);(case hg=>rfl);(case hr=>first|(go_simp;done)|(go_simp;rfl));intro gb151 hg w4 hbox hb;have n0_:=Z (below_step pB hb);have BK151:=Z (hbox);have GW151:=Z ((pT hg:w.heap.size≤gb151));have GE151:=Z ((pT hg:w.heap.size≤gb151));clear HB;have HB:=n0_;clear n0_ hb hbox hg;obtain ⟨hcz5_0,hfz5_0⟩:=p1 BK151)|((with_reducible refine gate_callee (f:=169) rfl ?_);refine goesL_ (some 9) rfl rfl Tryz.func169 pU rfl #[.agg #[.slice A0_0 l0_0.length c0_0]] rfl pG ?_;(with_reducible refine (danger_members.calls _ _ l0_0 t152 _ ?side1 ?side2 A2.out).mono ?_);(case side1=>exact pC HR0_0);(case side2=>exact HC0_0.out);rintro e w6 ⟨rfl,hb⟩;refine ⟨_,rfl,?_⟩;replace BK151:=Z (blk_below (g:=gb151) (o:=.cells #[.slice A0_0 l0_0.length c0_0] 25 (0,0)) (pK BK151) hb);have n1_:=Z (below_step pB hb);clear HB;have HB:=n1_;clear n1_;(try clear hb);(try clear hb2);(try clear hk);(try clear hi))|((with_reducible refine gate_callee (f:=136) rfl ?_);refine goesL_ (some 10) rfl rfl Tryz.func136 pU rfl #[.int .i64 t152] rfl pG ?_;(with_reducible refine (nodeset_Subsets.calls t152 t153 _ A3.out).mono ?_);rintro e w7 ⟨v154,rfl,ho0,hb⟩;refine ⟨_,rfl,?_⟩;have HO155:=Z (Kd.R_lower ho0 (below_size pB));replace BK151:=Z (blk_below (g:=gb151) (o:=.cells #[.slice A0_0 l0_0.length c0_0] 25 (0,0)) (pK BK151) hb);have n2_:=Z (below_step pB hb);clear HB;have HB:=n2_;clear n2_;(try clear hb);(try clear hb2);(try clear hk);(try clear hi);(try clear ho0);obtain ⟨Ao8,co8,eo8⟩:=Kd.R_slice HO155.out;subst eo8))
 go_loopg [5,12] k (fun kq v5 v12 w'=>∃ (x5_1:List Int) (x12_1:Int),v12=.int .i64 x12_1∧Aside0 (danger_least_halts.l0 kq x5_1 t153 (t153.length:Int) x12_1 l0_0=some r)∧Aside0 (kq≤k)∧Aside0 (Kd.R (Kd.int .i64) 3 w' w.heap.size (fun k_=>some k_ ≠ ((.slice Ao8 t153.length co8):Value).ownBlock) v5 x5_1)∧Aside0 (Kd.R (Kd.int .i64) 3 w' w.heap.size (fun k_=>some k_ ≠ (v5:Value).ownBlock) (.slice Ao8 t153.length co8) t153)∧Aside0 (w'.heap[gb151]?=some (.cells #[(.slice A0_0 l0_0.length c0_0)] 25 (0,0)))∧Aside0 (Below w.heap.size w w'))
 case atStart=>exact ⟨(([]:List Int)),(0),pE,H',⟨Nat.le_refl _⟩,⟨pN⟩,⟨by refine pP ?_;exact Kd.R_mono HO155.out (fun _ hk=>(by simp [Value.ownBlock]))⟩,⟨pK BK151⟩,⟨pB⟩⟩
 case round =>
  clear H'
  try clear c1
  try clear p2
  try clear hcz5_0
  try clear hfz5_0
  obtain ⟨x5_1,x12_1,rfl,HA,HK1,HO_5,HO_10,BK151,HB⟩:=hrel
  cases gk with
  | zero=>exact absurd HA.out (by simp [danger_least_halts.l0])
  | succ k1 =>
   have H:=HA.out
   clear HA
   simp only [danger_least_halts.l0] at H
   by_cases c9:x12_1 < (t153.length:Int)
   ·rw [if_pos c9] at H
    have c9b0:decide (x12_1 < (t153.length:Int))=true:=decide_eq_true c9
    clear c9
    by_cases c10:0≤x12_1
    ·rw [if_pos c10] at H
     have c10b0:decide (0≤x12_1)=true:=decide_eq_true c10
     clear c10
     by_cases c11:x12_1 < (t153.length:Int)
     ·rw [if_pos c11] at H
      have c11b0:decide (x12_1 < (t153.length:Int))=true:=decide_eq_true c11
      clear c11
      replace H:=pO H
      obtain ⟨t157,A120,H⟩:=H
      try dsimp only at H
      have A12:=Z A120
      clear A120
      by_cases c13:t157=true
      ·subst c13
       rw [if_pos rfl] at H
       by_cases c14:x5_1.length < 17592186044416
       ·rw [if_pos c14] at H
        have LMc14:=Z c14
        clear c14
        obtain ⟨y158,hy158⟩:∃ y_:List Int,y_=(x5_1++[rd t153 x12_1]):=⟨_,rfl⟩
        first|rw [← hy158] at H|(replace H:=(Option.bind_some _ _).symm.trans H;rw [← hy158] at H)
        have Ny158:=Z hy158
        clear hy158
        have H':=Z H
        clear H
        have p156:0≤(x12_1:Int):=of_decide_eq_true pA
        have q156:x12_1 < (t153.length:Int):=of_decide_eq_true pA
        obtain ⟨ad156,e156,hx156_0⟩:=Kd.at_int (Kd.R_reads' HO_10.out).2.2 x12_1 p156 q156
        cases e156
        replace p156:=eq_true p156
        replace q156:=eq_true q156
        have hcz15_0:=pV BK151 (.slice A0_0 l0_0.length c0_0) 0 rfl
        have hfz15_0:=kF BK151.out 0
        go_wp2_with (first|((with_reducible refine gate_val (x:=.tmp 16) rfl ?_);refine goesV_ (some 19) rfl rfl (x:=.tmp 16) Tryz.func109 pU rfl #[.agg #[.slice A0_0 l0_0.length c0_0],.int .i64 (rd t153 x12_1)] rfl rfl pG ?_;(with_reducible refine (danger_halts.calls k1 _ _ l0_0 (rd t153 x12_1) true _ ?side1 ?side2 A12.out).mono ?_);(case side1=>exact pC HR0_0);(case side2=>exact HC0_0.out);rintro e w16 ⟨rfl,hb⟩;refine ⟨_,rfl,?_⟩;replace HO_5:=Z (Kd.R_below (pR HO_5) hb);replace HO_10:=Z (Kd.R_below (pR HO_10) hb);replace BK151:=Z (blk_below (g:=gb151) (o:=.cells #[.slice A0_0 l0_0.length c0_0] 25 (0,0)) (pK BK151) hb);have n3_:=Z (below_step pB hb);clear HB;have HB:=n3_;clear n3_;(try clear hb);(try clear hb2);(try clear hk);(try clear hi))|((with_reducible refine gate_builtin (b:=.append) (xs:=#[.tmp 20,.tmp 22]) rfl ?_);at_builtin;refine Kd.R_append (Kd.int .i64) (w0:=w) w.heap.size rfl (.tmp 20) (.tmp 22) 22 3 (.int .i64 0) 8 rfl Tryz.underlying22 info3 rfl (by decide) (by omega) u5 x5_1 (rd t153 x12_1) [.int .i64 (rd t153 x12_1)] (fun k_=>some k_ ≠ (.slice (some ad156) t153.length co8:Value).ownBlock) (fun _=>False) rfl rfl ?aP (fun _ hk=>hk.elim) ?aF ?aO ?aB ?aS ?aL ?_;(case aP=>exact rfl);(case aB=>exact pB);(case aF=>exact (fun k_ hk=>Kd.fresh' (Kd.R_lt (pR HO_10)) k_ hk));(case aO=>exact (pR HO_5));(case aS=>exact (below_size pB));(case aL=>have:=LMc14.out;omega);intro v159 w17 ho hb hg hat;rw [← Ny158.out] at ho;have n0_:=Z (Kd.R_after (ok:=(fun _=>True)) (by refine pP ?_;exact Kd.R_mono HO_10.out (fun _ hk=>⟨trivial,hk⟩)) hg hat);have n1_:=Z (blk_grown (g:=gb151) (o:=.cells #[.slice A0_0 l0_0.length c0_0] 25 (0,0)) (pK BK151) hg (Kd.R_ne HO_5.out BK151.out (by decide)));have n2_:=Z (hb);have n3_:=Z (ho);clear HO_10 BK151 HB HO_5;have HO_10:=n0_;have BK151:=n1_;have HB:=n2_;have HO160:=n3_;clear n0_ n1_ n2_ n3_ ho hb hg hat))
        go_roundg k1
        case measure=>have:=HK1.out;omega
        case rel=>exact ⟨(y158),(wrap64 (x12_1+1)),pE,H',⟨by have:=HK1.out;omega⟩,⟨pR HO160⟩,⟨by refine pP ?_;exact Kd.R_mono HO_10.out (fun _ hk=>hk.2)⟩,⟨pK BK151⟩,⟨pB⟩⟩
       ·rw [if_neg c14] at H
        exact absurd H (by simp)
      ·replace c13:=Bool.eq_false_iff.mpr c13
       subst c13
       rw [if_neg (show ¬ (false=true) by decide)] at H
       have H':=Z H
       clear H
       have p156:0≤(x12_1:Int):=of_decide_eq_true pA
       have q156:x12_1 < (t153.length:Int):=of_decide_eq_true pA
       obtain ⟨ad156,e156,hx156_0⟩:=Kd.at_int (Kd.R_reads' HO_10.out).2.2 x12_1 p156 q156
       cases e156
       replace p156:=eq_true p156
       replace q156:=eq_true q156
       have hcz18_0:=pV BK151 (.slice A0_0 l0_0.length c0_0) 0 rfl
       have hfz18_0:=kF BK151.out 0
       go_wp2_with (first|((with_reducible refine gate_val (x:=.tmp 16) rfl ?_);refine goesV_ (some 19) rfl rfl (x:=.tmp 16) Tryz.func109 pU rfl #[.agg #[.slice A0_0 l0_0.length c0_0],.int .i64 (rd t153 x12_1)] rfl rfl pG ?_;(with_reducible refine (danger_halts.calls k1 _ _ l0_0 (rd t153 x12_1) false _ ?side1 ?side2 A12.out).mono ?_);(case side1=>exact pC HR0_0);(case side2=>exact HC0_0.out);rintro e w19 ⟨rfl,hb⟩;refine ⟨_,rfl,?_⟩;replace HO_5:=Z (Kd.R_below (pR HO_5) hb);replace HO_10:=Z (Kd.R_below (pR HO_10) hb);replace BK151:=Z (blk_below (g:=gb151) (o:=.cells #[.slice A0_0 l0_0.length c0_0] 25 (0,0)) (pK BK151) hb);have n3_:=Z (below_step pB hb);clear HB;have HB:=n3_;clear n3_;(try clear hb);(try clear hb2);(try clear hk);(try clear hi)))
       go_roundg k1
       case measure=>have:=HK1.out;omega
       case rel=>exact ⟨(x5_1),(wrap64 (x12_1+1)),pE,H',⟨by have:=HK1.out;omega⟩,⟨pR HO_5⟩,⟨pR HO_10⟩,⟨pK BK151⟩,⟨pB⟩⟩
     ·rw [if_neg c11] at H
      exact absurd H (by simp)
    ·rw [if_neg c10] at H
     exact absurd H (by simp)
   ·rw [if_neg c9] at H
    have c9b0:decide (x12_1 < (t153.length:Int))=false:=decide_eq_false c9
    clear c9
    replace H:=pO H
    obtain ⟨t161,A200,H⟩:=H
    try dsimp only at H
    have A20:=Z A200
    clear A200
    obtain rfl:=Option.some.inj H
    obtain ⟨Ao21,co21,eo21⟩:=Kd.R_slice HO_5.out
    subst eo21
    go_wp2_with (first|((with_reducible refine gate_callee (f:=96) rfl ?_);refine goesL_ (some 26) rfl rfl Tryz.func96 pU rfl #[.slice Ao21 x5_1.length co21] rfl pG ?_;(with_reducible refine (nodeset_Least.calls _ _ x5_1 t161 _ ?side1 ?side2 A20.out).mono ?_);(case side1=>repeat (first|exact (Kd.R_reads' HO_5.out).2.2|(with_reducible refine Kd.C_alloc ?_ _)|(with_reducible refine Kd.C_drewN ?_ _)|(with_reducible refine Kd.C_drew ?_)));(case side2=>exact (Kd.R_reads' HO_5.out).2.1);rintro e w22 ⟨v162,rfl,ho0,hb⟩;refine ⟨_,rfl,?_⟩;have n0_:=Z (Kd.R_elder' (pR HO_5) (Kd.R_base ho0) hb);have n1_:=Z (Kd.R_elder' (pR HO_10) (Kd.R_base ho0) hb);have HO163:=Z (Kd.R_lower (Kd.R_new' (Kd.R_new' ho0 (Kd.R_lt (pR HO_5))) (Kd.R_lt (pR HO_10))) (below_size pB));replace BK151:=Z (blk_below (g:=gb151) (o:=.cells #[.slice A0_0 l0_0.length c0_0] 25 (0,0)) (pK BK151) hb);have n4_:=Z (below_step pB hb);clear HO_5 HO_10 HB;have HO_5:=n0_;have HO_10:=n1_;have HB:=n4_;clear n0_ n1_ n4_;(try clear hb);(try clear hb2);(try clear hk);(try clear hi);(try clear ho0)))
    go_ret
    exact ⟨_,pF,by refine pP ?_;exact Kd.R_mono HO163.out (fun _ hk=>trivial),pB⟩
def danger_Halting.f (k:Nat) (l0_0:List (S92)):Option (List Int × Int):=(configuration_Valid.f k l0_0).bind fun t545=>(if t545=0 then ((danger_least_halts.f k l0_0).bind fun t546=>(some (t546,0))) else (some (([]:List Int),t545)))
set_option maxHeartbeats 8000000 in
set_option maxRecDepth 100000 in
theorem danger_Halting.calls (k:Nat) (A0_0:Option Addr) (c0_0:Nat) (l0_0:List (S92)) (r1:List Int) (r2:Int) (w:World) (hr0_0:Kd.C k92 w A0_0 l0_0.length l0_0) (hc0_0:l0_0.length≤c0_0) (h:danger_Halting.f k l0_0=some (r1,r2)) :
  Calls Tryz.prog 34 #[.agg #[.slice A0_0 l0_0.length c0_0]] w fun e w'=>∃ v0_:Value,e=.returned (.tuple #[v0_,.int .i64 r2])∧Kd.R (Kd.int .i64) 3 w' w.heap.size (fun _=>True) v0_ r1∧Below w.heap.size w w':=by
 have hu25:=Tryz.underlying25
 have HR0_0:=Z hr0_0
 have HC0_0:=Z hc0_0
 clear hr0_0 hc0_0
 have HB:=Z (Below.refl w.heap.size w)
 have H:((configuration_Valid.f k l0_0).bind fun t545=>(if t545=0 then ((danger_least_halts.f k l0_0).bind fun t546=>(some (t546,0))) else (some (([]:List Int),t545))))=some (r1,r2):=h
 clear h
 replace H:=pO H
 obtain ⟨t545,A20,H⟩:=H
 try dsimp only at H
 have A2:=Z A20
 clear A20
 by_cases c3:t545=0
 ·rw [if_pos c3] at H
  have c3b0:(t545 == 0)=true:=beq_iff_eq.mpr c3
  have c3b1:(t545 != 0)=false:=bne_eq_false_iff_eq.mpr c3
  clear c3
  replace H:=pO H
  obtain ⟨t546,A40,H⟩:=H
  try dsimp only at H
  have A4:=Z A40
  clear A40
  simp only [Option.some.injEq,Prod.mk.injEq] at H
  obtain ⟨rfl,rfl⟩:=H
  go_enter Tryz.func34,Tryz.ntmps34
  go_wp2_with (first|((with_reducible refine gate_dst (N:=1) rfl ?_);refine box_event ?hg (N:=1) ?hd (cs:=#[.slice A0_0 l0_0.length c0_0]) (t:=25) ?hr ?_;(case hd=>rfl);(case hg=>rfl);(case hr=>first|(go_simp;done)|(go_simp;rfl));intro gb544 hg w5 hbox hb;have n0_:=Z (below_step pB hb);have BK544:=Z (hbox);have GW544:=Z ((pT hg:w.heap.size≤gb544));have GE544:=Z ((pT hg:w.heap.size≤gb544));clear HB;have HB:=n0_;clear n0_ hb hbox hg;obtain ⟨hcz6_0,hfz6_0⟩:=p1 BK544)|((with_reducible refine gate_callee (f:=95) rfl ?_);refine goesL_ (some 6) rfl rfl Tryz.func95 pU rfl #[.agg #[.slice A0_0 l0_0.length c0_0]] rfl pG ?_;(with_reducible refine (configuration_Valid.calls k _ _ l0_0 t545 _ ?side1 ?side2 A2.out).mono ?_);(case side1=>exact pC HR0_0);(case side2=>exact HC0_0.out);rintro e w7 ⟨rfl,hb⟩;refine ⟨_,rfl,?_⟩;replace BK544:=Z (blk_below (g:=gb544) (o:=.cells #[.slice A0_0 l0_0.length c0_0] 25 (0,0)) (pK BK544) hb);have n1_:=Z (below_step pB hb);clear HB;have HB:=n1_;clear n1_;(try clear hb);(try clear hb2);(try clear hk);(try clear hi);obtain ⟨hcz8_0,hfz8_0⟩:=p1 BK544)|((with_reducible refine gate_callee (f:=108) rfl ?_);refine goesL_ (some 11) rfl rfl Tryz.func108 pU rfl #[.agg #[.slice A0_0 l0_0.length c0_0],.func (.func 109) #[] #[]] rfl pG ?_;(with_reducible refine (danger_least_halts.calls k _ _ l0_0 t546 _ ?side1 ?side2 A4.out).mono ?_);(case side1=>exact pC HR0_0);(case side2=>exact HC0_0.out);rintro e w9 ⟨v547,rfl,ho0,hb⟩;refine ⟨_,rfl,?_⟩;have HO548:=Z (Kd.R_lower ho0 (below_size pB));replace BK544:=Z (blk_below (g:=gb544) (o:=.cells #[.slice A0_0 l0_0.length c0_0] 25 (0,0)) (pK BK544) hb);have n2_:=Z (below_step pB hb);clear HB;have HB:=n2_;clear n2_;(try clear hb);(try clear hb2);(try clear hk);(try clear hi);(try clear ho0)))
  go_ret2
  exact ⟨_,pF,pR HO548,pB⟩
 ·rw [if_neg c3] at H
  have c3b0:(t545 == 0)=false:=beq_eq_false_iff_ne.mpr c3
  have c3b1:(t545 != 0)=true:=bne_iff_ne.mpr c3
  simp only [Option.some.injEq,Prod.mk.injEq] at H
  obtain ⟨rfl,rfl⟩:=H
  go_enter Tryz.func34,Tryz.ntmps34
  go_wp2_with (first|((with_reducible refine gate_dst (N:=1) rfl ?_);refine box_event ?hg (N:=1) ?hd (cs:=#[.slice A0_0 l0_0.length c0_0]) (t:=25) ?hr ?_;(case hd=>rfl);(case hg=>rfl);(case hr=>first|(go_simp;done)|(go_simp;rfl));intro gb544 hg w10 hbox hb;have n0_:=Z (below_step pB hb);have BK544:=Z (hbox);have GW544:=Z ((pT hg:w.heap.size≤gb544));have GE544:=Z ((pT hg:w.heap.size≤gb544));clear HB;have HB:=n0_;clear n0_ hb hbox hg;obtain ⟨hcz11_0,hfz11_0⟩:=p1 BK544)|((with_reducible refine gate_callee (f:=95) rfl ?_);refine goesL_ (some 6) rfl rfl Tryz.func95 pU rfl #[.agg #[.slice A0_0 l0_0.length c0_0]] rfl pG ?_;(with_reducible refine (configuration_Valid.calls k _ _ l0_0 t545 _ ?side1 ?side2 A2.out).mono ?_);(case side1=>exact pC HR0_0);(case side2=>exact HC0_0.out);rintro e w12 ⟨rfl,hb⟩;refine ⟨_,rfl,?_⟩;replace BK544:=Z (blk_below (g:=gb544) (o:=.cells #[.slice A0_0 l0_0.length c0_0] 25 (0,0)) (pK BK544) hb);have n1_:=Z (below_step pB hb);clear HB;have HB:=n1_;clear n1_;(try clear hb);(try clear hb2);(try clear hk);(try clear hi)))
  go_ret2
  exact ⟨_,pF,pN,pB⟩
mutual
def qref01_Meeting.j0:Nat→List Int→Int→Bool→Option (List Int × Int)
 | 0,_,_,_=>none
 | k+1,x0,x1,x18=>if x18=true then (some (([]:List Int),1)) else (qref01_Meeting.l0 k x0 x1 x0 (x0.length:Int) 0)
def qref01_Meeting.l0:Nat→List Int→Int→List Int→Int→Int→Option (List Int × Int)
 | 0,_,_,_,_,_=>none
 | k+1,x0,x1,x19,x20,x21=>if x21 < x20 then (if 0≤x21 then (if x21 < (x19.length:Int) then (if (rd x19 x21) < 0 then (some (([]:List Int),1)) else (if 0≤x1 then (if (rd x19 x21) ≥ (shl .i64 1 x1) then (some (([]:List Int),1)) else (qref01_Meeting.l0 k x0 x1 x19 x20 (wrap64 (x21+1)))) else (none))) else (none)) else (none)) else (if (x0.length:Int) > 1024 then (some (([]:List Int),3)) else (qref01_Meeting.l1 k x0 x1 ([]:List Int) 0))
def qref01_Meeting.l1:Nat→List Int→Int→List Int→Int→Option (List Int × Int)
 | 0,_,_,_,_=>none
 | k+1,x0,x1,x8,x9=>if 0≤x1 then (if x9 < (shl .i64 1 x1) then (qref01_Meeting.l2 k x0 x1 x8 x9 true x0 (x0.length:Int) 0) else ((qref01_Least.f x8).bind fun t550=>(some (t550,0)))) else (none)
def qref01_Meeting.l2:Nat→List Int→Int→List Int→Int→Bool→List Int→Int→Int→Option (List Int × Int)
 | 0,_,_,_,_,_,_,_,_=>none
 | k+1,x0,x1,x8,x9,x10,x43,x44,x45=>if x45 < x44 then (if 0≤x45 then (if x45 < (x43.length:Int) then (if x10=true then (qref01_Meeting.l2 k x0 x1 x8 x9 ((Go.bits .and .i64 (rd x43 x45) x9) != 0) x43 x44 (wrap64 (x45+1))) else (qref01_Meeting.l2 k x0 x1 x8 x9 false x43 x44 (wrap64 (x45+1)))) else (none)) else (none)) else (if x10=true then (if x8.length < 17592186044416 then (qref01_Meeting.l1 k x0 x1 (x8++[x9]) (wrap64 (x9+1))) else (none)) else (qref01_Meeting.l1 k x0 x1 x8 (wrap64 (x9+1))))
end
def qref01_Meeting.f (k:Nat) (l0:List Int) (a1:Int):Option (List Int × Int):=if a1 < 0 then (qref01_Meeting.j0 k l0 a1 true) else (qref01_Meeting.j0 k l0 a1 (decide (a1 > 10)))
set_option maxHeartbeats 8000000 in
set_option maxRecDepth 100000 in
theorem qref01_Meeting.calls (k:Nat) (A0:Option Addr) (c0:Nat) (l0:List Int) (a1:Int) (r1:List Int) (r2:Int) (w:World) (hr0:Kd.C (Kd.int .i64) w A0 l0.length l0) (hc0:l0.length≤c0) (h:qref01_Meeting.f k l0 a1=some (r1,r2)) :
  Calls Tryz.prog 35 #[.slice A0 l0.length c0,.int .i64 a1] w fun e w'=>∃ v0_:Value,e=.returned (.tuple #[v0_,.int .i64 r2])∧Kd.R (Kd.int .i64) 3 w' w.heap.size (fun _=>True) v0_ r1∧Below w.heap.size w w':=by
 have HR0:=Z hr0
 have HC0:=Z hc0
 clear hr0 hc0
 have HB:=Z (Below.refl w.heap.size w)
 have H:(if a1 < 0 then (qref01_Meeting.j0 k l0 a1 true) else (qref01_Meeting.j0 k l0 a1 (decide (a1 > 10))))=some (r1,r2):=h
 clear h
 have HC3:=Z H
 clear H
 go_enter Tryz.func35,Tryz.ntmps35
 go_upto_region 1 with (fail)
 go_cut [18] (fun v18 wc=>∃ (kq:Nat) (x18_2:Bool),v18=.bool x18_2∧Aside0 (qref01_Meeting.j0 kq l0 a1 x18_2=some (r1,r2))∧Aside0 (kq≤k)∧Aside0 (Below w.heap.size w wc))
 case first =>
  have H:=HC3.out
  clear HC3
  by_cases c4:a1 < 0
  ·rw [if_pos c4] at H
   have c4b0:decide (a1 < 0)=true:=decide_eq_true c4
   clear c4
   (first|rw [c4b0]|(simp only [i64_w,i32_w];rw [c4b0])|skip)
   have H':=Z H
   clear H
   go_wp2
   go_meet
   case rel=>exact ⟨_,(true),pE,H',⟨by first|omega|exact Nat.le_refl _⟩,⟨pB⟩⟩
  ·rw [if_neg c4] at H
   have c4b0:decide (a1 < 0)=false:=decide_eq_false c4
   clear c4
   (first|rw [c4b0]|(simp only [i64_w,i32_w];rw [c4b0])|skip)
   have H':=Z H
   clear H
   go_wp2
   go_meet
   case rel=>exact ⟨_,(decide (a1 > 10)),pE,H',⟨by first|omega|exact Nat.le_refl _⟩,⟨pB⟩⟩
 case rest =>
  clear HC3
  try clear p2
  try clear c3
  try clear c4
  try clear c4b0
  obtain ⟨kq,x18_2,rfl,HA,HJ2,HB⟩:=hcut
  cases kq with
  | zero=>exact absurd HA.out (by simp [qref01_Meeting.j0])
  | succ kj2 =>
   have H:=HA.out
   clear HA
   simp only [qref01_Meeting.j0] at H
   by_cases c5:x18_2=true
   ·subst c5
    rw [if_pos rfl] at H
    simp only [Option.some.injEq,Prod.mk.injEq] at H
    obtain ⟨rfl,rfl⟩:=H
    go_wp2
    go_ret2
    exact ⟨_,pF,pN,pB⟩
   ·replace c5:=Bool.eq_false_iff.mpr c5
    subst c5
    rw [if_neg (show ¬ (false=true) by decide)] at H
    have H':=Z H
    clear H
    go_wp2
    go_loopg [21] kj2 (fun kq v21 w'=>∃ (x21_2:Int),v21=.int .i64 x21_2∧Aside0 (qref01_Meeting.l0 kq l0 a1 l0 (l0.length:Int) x21_2=some (r1,r2))∧Aside0 (kq≤kj2)∧Aside0 (Below w.heap.size w w'))
    case atStart=>exact ⟨(0),pE,H',⟨Nat.le_refl _⟩,⟨pB⟩⟩
    case round =>
     clear H'
     try clear p2
     try clear c3
     try clear c4
     try clear c4b0
     try clear c5
     obtain ⟨x21_2,rfl,HA,HK2,HB⟩:=hrel
     cases gk with
     | zero=>exact absurd HA.out (by simp [qref01_Meeting.l0])
     | succ k2 =>
      have H:=HA.out
      clear HA
      simp only [qref01_Meeting.l0] at H
      by_cases c6:x21_2 < (l0.length:Int)
      ·rw [if_pos c6] at H
       have c6b0:decide (x21_2 < (l0.length:Int))=true:=decide_eq_true c6
       clear c6
       by_cases c7:0≤x21_2
       ·rw [if_pos c7] at H
        have c7b0:decide (0≤x21_2)=true:=decide_eq_true c7
        clear c7
        by_cases c8:x21_2 < (l0.length:Int)
        ·rw [if_pos c8] at H
         have c8b0:decide (x21_2 < (l0.length:Int))=true:=decide_eq_true c8
         clear c8
         by_cases c9:(rd l0 x21_2) < 0
         ·rw [if_pos c9] at H
          have c9b0:decide ((rd l0 x21_2) < 0)=true:=decide_eq_true c9
          clear c9
          simp only [Option.some.injEq,Prod.mk.injEq] at H
          obtain ⟨rfl,rfl⟩:=H
          have p549:0≤(x21_2:Int):=of_decide_eq_true pA
          have q549:x21_2 < (l0.length:Int):=of_decide_eq_true pA
          obtain ⟨ad549,e549,hx549_0⟩:=Kd.at_int HR0.out x21_2 p549 q549
          cases e549
          replace hx549_0:=pX HB hx549_0
          replace p549:=eq_true p549
          replace q549:=eq_true q549
          go_wp2
          go_ret2
          exact ⟨_,pF,pN,pB⟩
         ·rw [if_neg c9] at H
          have c9b0:decide ((rd l0 x21_2) < 0)=false:=decide_eq_false c9
          clear c9
          by_cases c10:0≤a1
          ·rw [if_pos c10] at H
           have c10b0:=eq_true c10
           have c10b1:decide (0≤a1)=true:=decide_eq_true c10
           clear c10
           obtain ⟨ji11,hji11⟩:∃ j_:Int,(shl .i64 1 a1)=j_:=⟨_,rfl⟩
           replace H:(if (rd l0 x21_2) ≥ (ji11) then (some (([]:List Int),1)) else (qref01_Meeting.l0 k2 l0 a1 l0 (l0.length:Int) (wrap64 (x21_2+1))))=some (r1,r2):=by first|(rw [hji11] at H;exact H)|(simp only [hji11] at H ⊢;exact H)
           have hji11_:(IntKind.i64.wrap (1 * 2 ^ min a1.toNat 64))=ji11:=hji11
           have hji11z:a1≤64→(IntKind.i64.wrap (1 * 2 ^ a1.toNat))=ji11:=shl_small hji11
           have hji11u:(IntKind.i64.wrap (2 ^ min a1.toNat 64))=ji11:=by have h_:=hji11_;rw [Int.one_mul] at h_;exact h_
           have hji11v:a1≤64→(IntKind.i64.wrap (2 ^ a1.toNat))=ji11:=fun hle_=>by have h_:=hji11z hle_;rw [Int.one_mul] at h_;exact h_
           have hji11y:(wrap64 (1 * 2 ^ min a1.toNat 64))=ji11:=(i64_w _).symm.trans hji11_
           have hji11x:a1≤64→(wrap64 (1 * 2 ^ a1.toNat))=ji11:=fun h_=>(i64_w _).symm.trans (hji11z h_)
           by_cases c12:(rd l0 x21_2) ≥ (ji11)
           ·rw [if_pos c12] at H
            have c12b0:decide ((ji11)≤(rd l0 x21_2))=true:=decide_eq_true c12
            clear c12
            simp only [Option.some.injEq,Prod.mk.injEq] at H
            obtain ⟨rfl,rfl⟩:=H
            have p549:0≤(x21_2:Int):=of_decide_eq_true pA
            have q549:x21_2 < (l0.length:Int):=of_decide_eq_true pA
            obtain ⟨ad549,e549,hx549_0⟩:=Kd.at_int HR0.out x21_2 p549 q549
            cases e549
            replace hx549_0:=pX HB hx549_0
            replace p549:=eq_true p549
            replace q549:=eq_true q549
            go_wp2
            go_ret2
            exact ⟨_,by first|rfl|(simp [errW_none,errW_some] <;> rfl)|(simp only [← hji11];first|rfl|(simp [errW_none,errW_some] <;> rfl))|(simp [*,errW_none,errW_some] <;> rfl),pN,pB⟩
           ·rw [if_neg c12] at H
            have c12b0:decide ((ji11)≤(rd l0 x21_2))=false:=decide_eq_false c12
            clear c12
            have H':=Z H
            clear H
            have p549:0≤(x21_2:Int):=of_decide_eq_true pA
            have q549:x21_2 < (l0.length:Int):=of_decide_eq_true pA
            obtain ⟨ad549,e549,hx549_0⟩:=Kd.at_int HR0.out x21_2 p549 q549
            cases e549
            replace hx549_0:=pX HB hx549_0
            replace p549:=eq_true p549
            replace q549:=eq_true q549
            go_wp2
            go_roundg k2
            case measure=>have:=HJ2.out;have:=HK2.out;omega
            case rel=>exact ⟨(wrap64 (x21_2+1)),pE,H',⟨by have:=HJ2.out;have:=HK2.out;omega⟩,⟨pB⟩⟩
          ·rw [if_neg c10] at H
           exact absurd H (by simp)
        ·rw [if_neg c8] at H
         exact absurd H (by simp)
       ·rw [if_neg c7] at H
        exact absurd H (by simp)
      ·rw [if_neg c6] at H
       have c6b0:decide (x21_2 < (l0.length:Int))=false:=decide_eq_false c6
       clear c6
       by_cases c13:(l0.length:Int) > 1024
       ·rw [if_pos c13] at H
        have c13b0:decide (1024 < (l0.length:Int))=true:=decide_eq_true c13
        have c13b1:decide (1024 < l0.length)=true:=decide_eq_true (by omega)
        clear c13
        simp only [Option.some.injEq,Prod.mk.injEq] at H
        obtain ⟨rfl,rfl⟩:=H
        go_wp2
        go_ret2
        exact ⟨_,pF,pN,pB⟩
       ·rw [if_neg c13] at H
        have c13b0:decide (1024 < (l0.length:Int))=false:=decide_eq_false c13
        have c13b1:decide (1024 < l0.length)=false:=decide_eq_false (by omega)
        clear c13
        have H':=Z H
        clear H
        go_wp2
        go_loopg [8,9] k2 (fun kq v8 v9 w'=>∃ (x8_3:List Int) (x9_3:Int),v9=.int .i64 x9_3∧Aside0 (qref01_Meeting.l1 kq l0 a1 x8_3 x9_3=some (r1,r2))∧Aside0 (kq≤k2)∧Aside0 (Kd.R (Kd.int .i64) 3 w' w.heap.size (fun _=>True) v8 x8_3)∧Aside0 (Below w.heap.size w w'))
        case atStart=>exact ⟨(([]:List Int)),(0),pE,H',⟨Nat.le_refl _⟩,⟨pN⟩,⟨pB⟩⟩
        case round =>
         clear H'
         try clear c1
         try clear p2
         try clear c3
         try clear c4
         try clear c4b0
         try clear c5
         try clear p5
         try clear q5
         try clear hx5
         try clear c6
         try clear c6b0
         try clear p6
         try clear c7
         try clear c7b0
         try clear c8
         try clear c8b0
         try clear c9
         try clear c9b0
         try clear c10
         try clear c10b0
         try clear c10b1
         try clear c12
         try clear c12b0
         try clear c13
         try clear c13b0
         try clear c13b1
         try clear hx549_0
         try clear p549
         try clear q549
         obtain ⟨x8_3,x9_3,rfl,HA,HK3,HO_8,HB⟩:=hrel
         cases gk with
         | zero=>exact absurd HA.out (by simp [qref01_Meeting.l1])
         | succ k3 =>
          have H:=HA.out
          clear HA
          simp only [qref01_Meeting.l1] at H
          by_cases c14:0≤a1
          ·rw [if_pos c14] at H
           have c14b0:=eq_true c14
           have c14b1:decide (0≤a1)=true:=decide_eq_true c14
           clear c14
           obtain ⟨ji15,hji15⟩:∃ j_:Int,(shl .i64 1 a1)=j_:=⟨_,rfl⟩
           replace H:(if x9_3 < (ji15) then (qref01_Meeting.l2 k3 l0 a1 x8_3 x9_3 true l0 (l0.length:Int) 0) else ((qref01_Least.f x8_3).bind fun t550=>(some (t550,0))))=some (r1,r2):=by first|(rw [hji15] at H;exact H)|(simp only [hji15] at H ⊢;exact H)
           have hji15_:(IntKind.i64.wrap (1 * 2 ^ min a1.toNat 64))=ji15:=hji15
           have hji15z:a1≤64→(IntKind.i64.wrap (1 * 2 ^ a1.toNat))=ji15:=shl_small hji15
           have hji15u:(IntKind.i64.wrap (2 ^ min a1.toNat 64))=ji15:=by have h_:=hji15_;rw [Int.one_mul] at h_;exact h_
           have hji15v:a1≤64→(IntKind.i64.wrap (2 ^ a1.toNat))=ji15:=fun hle_=>by have h_:=hji15z hle_;rw [Int.one_mul] at h_;exact h_
           have hji15y:(wrap64 (1 * 2 ^ min a1.toNat 64))=ji15:=(i64_w _).symm.trans hji15_
           have hji15x:a1≤64→(wrap64 (1 * 2 ^ a1.toNat))=ji15:=fun h_=>(i64_w _).symm.trans (hji15z h_)
           by_cases c16:x9_3 < (ji15)
           ·rw [if_pos c16] at H
            have c16b0:decide (x9_3 < (ji15))=true:=decide_eq_true c16
            clear c16
            have H':=Z H
            clear H
            go_wp2
            go_loopg [10,45] k3 (fun kq v10 v45 w'=>∃ (x10_4:Bool) (x45_4:Int),v10=.bool x10_4∧v45=.int .i64 x45_4∧Aside0 (qref01_Meeting.l2 kq l0 a1 x8_3 x9_3 x10_4 l0 (l0.length:Int) x45_4=some (r1,r2))∧Aside0 (kq≤k3)∧Aside0 (Kd.R (Kd.int .i64) 3 w' w.heap.size (fun _=>True) u8 x8_3)∧Aside0 (Below w.heap.size w w'))
            case atStart=>exact ⟨(true),(0),pE,pE,H',⟨Nat.le_refl _⟩,⟨pR HO_8⟩,⟨pB⟩⟩
            case round =>
             clear H'
             try clear c1
             try clear p2
             try clear c3
             try clear c4
             try clear c4b0
             try clear c5
             try clear p5
             try clear q5
             try clear hx5
             try clear c6
             try clear c6b0
             try clear p6
             try clear c7
             try clear c7b0
             try clear c8
             try clear c8b0
             try clear c9
             try clear c9b0
             try clear c10
             try clear c10b0
             try clear c10b1
             try clear c12
             try clear c12b0
             try clear c13
             try clear c13b0
             try clear c13b1
             try clear c14
             try clear c14b0
             try clear c14b1
             try clear c16
             try clear c16b0
             try clear hx549_0
             try clear p549
             try clear q549
             obtain ⟨x10_4,x45_4,rfl,rfl,HA,HK4,HO_8,HB⟩:=hrel
             cases gk with
             | zero=>exact absurd HA.out (by simp [qref01_Meeting.l2])
             | succ k4 =>
              have H:=HA.out
              clear HA
              simp only [qref01_Meeting.l2] at H
              by_cases c17:x45_4 < (l0.length:Int)
              ·rw [if_pos c17] at H
               have c17b0:decide (x45_4 < (l0.length:Int))=true:=decide_eq_true c17
               clear c17
               by_cases c18:0≤x45_4
               ·rw [if_pos c18] at H
                have c18b0:decide (0≤x45_4)=true:=decide_eq_true c18
                clear c18
                by_cases c19:x45_4 < (l0.length:Int)
                ·rw [if_pos c19] at H
                 have c19b0:decide (x45_4 < (l0.length:Int))=true:=decide_eq_true c19
                 clear c19
                 by_cases c20:x10_4=true
                 ·subst c20
                  rw [if_pos rfl] at H
                  have H':=Z H
                  clear H
                  have p553:0≤(x45_4:Int):=of_decide_eq_true pA
                  have q553:x45_4 < (l0.length:Int):=of_decide_eq_true pA
                  obtain ⟨ad553,e553,hx553_0⟩:=Kd.at_int HR0.out x45_4 p553 q553
                  cases e553
                  replace hx553_0:=pX HB hx553_0
                  replace p553:=eq_true p553
                  replace q553:=eq_true q553
                  go_wp2
                  go_roundg k4
                  case measure=>have:=HJ2.out;have:=HK2.out;have:=HK3.out;have:=HK4.out;omega
                  case rel=>exact ⟨(((Go.bits .and .i64 (rd l0 x45_4) x9_3) != 0)),(wrap64 (x45_4+1)),pE,pE,H',⟨by have:=HJ2.out;have:=HK2.out;have:=HK3.out;have:=HK4.out;omega⟩,⟨pR HO_8⟩,⟨pB⟩⟩
                 ·replace c20:=Bool.eq_false_iff.mpr c20
                  subst c20
                  rw [if_neg (show ¬ (false=true) by decide)] at H
                  have H':=Z H
                  clear H
                  have p553:0≤(x45_4:Int):=of_decide_eq_true pA
                  have q553:x45_4 < (l0.length:Int):=of_decide_eq_true pA
                  obtain ⟨ad553,e553,hx553_0⟩:=Kd.at_int HR0.out x45_4 p553 q553
                  cases e553
                  replace hx553_0:=pX HB hx553_0
                  replace p553:=eq_true p553
                  replace q553:=eq_true q553
                  go_wp2
                  go_roundg k4
                  case measure=>have:=HJ2.out;have:=HK2.out;have:=HK3.out;have:=HK4.out;omega
                  case rel=>exact ⟨(false),(wrap64 (x45_4+1)),pE,pE,H',⟨by have:=HJ2.out;have:=HK2.out;have:=HK3.out;have:=HK4.out;omega⟩,⟨pR HO_8⟩,⟨pB⟩⟩
                ·rw [if_neg c19] at H
                 exact absurd H (by simp)
               ·rw [if_neg c18] at H
                exact absurd H (by simp)
              ·rw [if_neg c17] at H
               have c17b0:decide (x45_4 < (l0.length:Int))=false:=decide_eq_false c17
               clear c17
               by_cases c21:x10_4=true
               ·subst c21
                rw [if_pos rfl] at H
                by_cases c22:x8_3.length < 17592186044416
                ·rw [if_pos c22] at H
                 have LMc22:=Z c22
                 clear c22
                 obtain ⟨y554,hy554⟩:∃ y_:List Int,y_=(x8_3++[x9_3]):=⟨_,rfl⟩
                 first|rw [← hy554] at H|(replace H:=(Option.bind_some _ _).symm.trans H;rw [← hy554] at H)
                 have Ny554:=Z hy554
                 clear hy554
                 have H':=Z H
                 clear H
                 go_wp2_with (first|((with_reducible refine gate_builtin (b:=.append) (xs:=#[.tmp 58,.tmp 60]) rfl ?_);at_builtin;refine Kd.R_append (Kd.int .i64) (w0:=w) w.heap.size rfl (.tmp 58) (.tmp 60) 22 3 (.int .i64 0) 8 rfl Tryz.underlying22 info3 rfl (by decide) (by omega) u8 x8_3 x9_3 [.int .i64 x9_3] (fun _=>True) (fun _=>False) rfl rfl ?aP (fun _ hk=>hk.elim) ?aF ?aO ?aB ?aS ?aL ?_;(case aP=>exact rfl);(case aB=>exact pB);(case aF=>exact (fun _ _=>trivial));(case aO=>exact (pR HO_8));(case aS=>exact (below_size pB));(case aL=>have:=LMc22.out;omega);intro v555 w23 ho hb hg hat;rw [← Ny554.out] at ho;have n0_:=Z (hb);have n1_:=Z (ho);clear HB HO_8;have HB:=n0_;have HO556:=n1_;clear n0_ n1_ ho hb hg hat))
                 go_roundg k4
                 case measure=>have:=HJ2.out;have:=HK2.out;have:=HK3.out;have:=HK4.out;omega
                 case rel=>exact ⟨(y554),(wrap64 (x9_3+1)),pE,H',⟨by have:=HJ2.out;have:=HK2.out;have:=HK3.out;have:=HK4.out;omega⟩,⟨pR HO556⟩,⟨pB⟩⟩
                ·rw [if_neg c22] at H
                 exact absurd H (by simp)
               ·replace c21:=Bool.eq_false_iff.mpr c21
                subst c21
                rw [if_neg (show ¬ (false=true) by decide)] at H
                have H':=Z H
                clear H
                go_wp2
                go_roundg k4
                case measure=>have:=HJ2.out;have:=HK2.out;have:=HK3.out;have:=HK4.out;omega
                case rel=>exact ⟨(x8_3),(wrap64 (x9_3+1)),pE,H',⟨by have:=HJ2.out;have:=HK2.out;have:=HK3.out;have:=HK4.out;omega⟩,⟨pR HO_8⟩,⟨pB⟩⟩
           ·rw [if_neg c16] at H
            have c16b0:decide (x9_3 < (ji15))=false:=decide_eq_false c16
            clear c16
            replace H:=pO H
            obtain ⟨t550,A240,H⟩:=H
            try dsimp only at H
            have A24:=Z A240
            clear A240
            simp only [Option.some.injEq,Prod.mk.injEq] at H
            obtain ⟨rfl,rfl⟩:=H
            obtain ⟨Ao25,co25,eo25⟩:=Kd.R_slice HO_8.out
            subst eo25
            go_wp2_with (first|((with_reducible refine gate_callee (f:=99) rfl ?_);refine goesL_ (some 63) rfl rfl Tryz.func99 pU rfl #[.slice Ao25 x8_3.length co25] rfl pG ?_;(with_reducible refine (qref01_Least.calls _ _ x8_3 t550 _ ?side1 ?side2 A24.out).mono ?_);(case side1=>repeat (first|exact (Kd.R_reads' HO_8.out).2.2|(with_reducible refine Kd.C_alloc ?_ _)|(with_reducible refine Kd.C_drewN ?_ _)|(with_reducible refine Kd.C_drew ?_)));(case side2=>exact (Kd.R_reads' HO_8.out).2.1);rintro e w26 ⟨v551,rfl,ho0,hb⟩;refine ⟨_,rfl,?_⟩;have n0_:=Z (Kd.R_elder' (pR HO_8) (Kd.R_base ho0) hb);have HO552:=Z (Kd.R_lower (Kd.R_new' ho0 (Kd.R_lt (pR HO_8))) (below_size pB));have n2_:=Z (below_step pB hb);clear HO_8 HB;have HO_8:=n0_;have HB:=n2_;clear n0_ n2_;(try clear hb);(try clear hb2);(try clear hk);(try clear hi);(try clear ho0)))
            go_ret2
            exact ⟨_,by first|rfl|(simp [errW_none,errW_some] <;> rfl)|(simp only [← hji15];first|rfl|(simp [errW_none,errW_some] <;> rfl))|(simp [*,errW_none,errW_some] <;> rfl),by refine pP ?_;exact Kd.R_mono HO552.out (fun _ hk=>trivial),pB⟩
          ·rw [if_neg c14] at H
           exact absurd H (by simp)
def danger_asked.f (k:Nat) (l0_0:List (S92)) (a1:Int):Option (Int):=(configuration_Valid.f k l0_0).bind fun t558=>(if t558=0 then (if a1 < 0 then (some 1) else ((danger_members.f l0_0).bind fun t559=>(if a1 > t559 then (some 1) else (some 0)))) else (some t558))
set_option maxHeartbeats 8000000 in
set_option maxRecDepth 100000 in
theorem danger_asked.calls (k:Nat) (A0_0:Option Addr) (c0_0:Nat) (l0_0:List (S92)) (a1:Int) (r:Int) (w:World) (hr0_0:Kd.C k92 w A0_0 l0_0.length l0_0) (hc0_0:l0_0.length≤c0_0) (h:danger_asked.f k l0_0 a1=some r) :
  Calls Tryz.prog 110 #[.agg #[.slice A0_0 l0_0.length c0_0],.int .i64 a1] w fun e w'=>e=.returned (.int .i64 r)∧Below w.heap.size w w':=by
 have hu25:=Tryz.underlying25
 have HR0_0:=Z hr0_0
 have HC0_0:=Z hc0_0
 clear hr0_0 hc0_0
 have HB:=Z (Below.refl w.heap.size w)
 have H:((configuration_Valid.f k l0_0).bind fun t558=>(if t558=0 then (if a1 < 0 then (some 1) else ((danger_members.f l0_0).bind fun t559=>(if a1 > t559 then (some 1) else (some 0)))) else (some t558)))=some r:=h
 clear h
 replace H:=pO H
 obtain ⟨t558,A30,H⟩:=H
 try dsimp only at H
 have A3:=Z A30
 clear A30
 by_cases c4:t558=0
 ·rw [if_pos c4] at H
  have c4b0:(t558 == 0)=true:=beq_iff_eq.mpr c4
  have c4b1:(t558 != 0)=false:=bne_eq_false_iff_eq.mpr c4
  clear c4
  by_cases c5:a1 < 0
  ·rw [if_pos c5] at H
   have c5b0:decide (a1 < 0)=true:=decide_eq_true c5
   clear c5
   obtain rfl:=Option.some.inj H
   go_enter Tryz.func110,Tryz.ntmps110
   go_wp2_with (first|((with_reducible refine gate_dst (N:=2) rfl ?_);refine box_event ?hg (N:=2) ?hd (cs:=#[.slice A0_0 l0_0.length c0_0]) (t:=25) ?hr ?_;(case hd=>rfl);(case hg=>rfl);(case hr=>first|(go_simp;done)|(go_simp;rfl));intro gb557 hg w6 hbox hb;have n0_:=Z (below_step pB hb);have BK557:=Z (hbox);have GW557:=Z ((pT hg:w.heap.size≤gb557));have GE557:=Z ((pT hg:w.heap.size≤gb557));clear HB;have HB:=n0_;clear n0_ hb hbox hg;obtain ⟨hcz7_0,hfz7_0⟩:=p1 BK557)|((with_reducible refine gate_callee (f:=95) rfl ?_);refine goesL_ (some 7) rfl rfl Tryz.func95 pU rfl #[.agg #[.slice A0_0 l0_0.length c0_0]] rfl pG ?_;(with_reducible refine (configuration_Valid.calls k _ _ l0_0 t558 _ ?side1 ?side2 A3.out).mono ?_);(case side1=>exact pC HR0_0);(case side2=>exact HC0_0.out);rintro e w8 ⟨rfl,hb⟩;refine ⟨_,rfl,?_⟩;replace BK557:=Z (blk_below (g:=gb557) (o:=.cells #[.slice A0_0 l0_0.length c0_0] 25 (0,0)) (pK BK557) hb);have n1_:=Z (below_step pB hb);clear HB;have HB:=n1_;clear n1_;(try clear hb);(try clear hb2);(try clear hk);(try clear hi)))
   go_ret
   exact ⟨pF,pB⟩
  ·rw [if_neg c5] at H
   have c5b0:decide (a1 < 0)=false:=decide_eq_false c5
   clear c5
   replace H:=pO H
   obtain ⟨t559,A90,H⟩:=H
   try dsimp only at H
   have A9:=Z A90
   clear A90
   by_cases c10:a1 > t559
   ·rw [if_pos c10] at H
    have c10b0:decide (t559 < a1)=true:=decide_eq_true c10
    clear c10
    obtain rfl:=Option.some.inj H
    go_enter Tryz.func110,Tryz.ntmps110
    go_wp2_with (first|((with_reducible refine gate_dst (N:=2) rfl ?_);refine box_event ?hg (N:=2) ?hd (cs:=#[.slice A0_0 l0_0.length c0_0]) (t:=25) ?hr ?_;(case hd=>rfl);(case hg=>rfl);(case hr=>first|(go_simp;done)|(go_simp;rfl));intro gb557 hg w11 hbox hb;have n0_:=Z (below_step pB hb);have BK557:=Z (hbox);have GW557:=Z ((pT hg:w.heap.size≤gb557));have GE557:=Z ((pT hg:w.heap.size≤gb557));clear HB;have HB:=n0_;clear n0_ hb hbox hg;obtain ⟨hcz12_0,hfz12_0⟩:=p1 BK557)|((with_reducible refine gate_callee (f:=95) rfl ?_);refine goesL_ (some 7) rfl rfl Tryz.func95 pU rfl #[.agg #[.slice A0_0 l0_0.length c0_0]] rfl pG ?_;(with_reducible refine (configuration_Valid.calls k _ _ l0_0 t558 _ ?side1 ?side2 A3.out).mono ?_);(case side1=>exact pC HR0_0);(case side2=>exact HC0_0.out);rintro e w13 ⟨rfl,hb⟩;refine ⟨_,rfl,?_⟩;replace BK557:=Z (blk_below (g:=gb557) (o:=.cells #[.slice A0_0 l0_0.length c0_0] 25 (0,0)) (pK BK557) hb);have n1_:=Z (below_step pB hb);clear HB;have HB:=n1_;clear n1_;(try clear hb);(try clear hb2);(try clear hk);(try clear hi);obtain ⟨hcz14_0,hfz14_0⟩:=p1 BK557)|(go_at_call 169;(with_reducible refine (danger_members.calls _ _ l0_0 t559 _ ?side1 ?side2 A9.out).mono ?_);(case side1=>exact pC HR0_0);(case side2=>exact HC0_0.out);rintro e w15 ⟨rfl,hb⟩;replace BK557:=Z (blk_below (g:=gb557) (o:=.cells #[.slice A0_0 l0_0.length c0_0] 25 (0,0)) (pK BK557) hb);have n1_:=Z (below_step pB hb);clear HB;have HB:=n1_;clear n1_;(try clear hb);(try clear hb2);(try clear hk);(try clear hi)))
    go_ret
    exact ⟨pF,pB⟩
   ·rw [if_neg c10] at H
    have c10b0:decide (t559 < a1)=false:=decide_eq_false c10
    clear c10
    obtain rfl:=Option.some.inj H
    go_enter Tryz.func110,Tryz.ntmps110
    go_wp2_with (first|((with_reducible refine gate_dst (N:=2) rfl ?_);refine box_event ?hg (N:=2) ?hd (cs:=#[.slice A0_0 l0_0.length c0_0]) (t:=25) ?hr ?_;(case hd=>rfl);(case hg=>rfl);(case hr=>first|(go_simp;done)|(go_simp;rfl));intro gb557 hg w16 hbox hb;have n0_:=Z (below_step pB hb);have BK557:=Z (hbox);have GW557:=Z ((pT hg:w.heap.size≤gb557));have GE557:=Z ((pT hg:w.heap.size≤gb557));clear HB;have HB:=n0_;clear n0_ hb hbox hg;obtain ⟨hcz17_0,hfz17_0⟩:=p1 BK557)|((with_reducible refine gate_callee (f:=95) rfl ?_);refine goesL_ (some 7) rfl rfl Tryz.func95 pU rfl #[.agg #[.slice A0_0 l0_0.length c0_0]] rfl pG ?_;(with_reducible refine (configuration_Valid.calls k _ _ l0_0 t558 _ ?side1 ?side2 A3.out).mono ?_);(case side1=>exact pC HR0_0);(case side2=>exact HC0_0.out);rintro e w18 ⟨rfl,hb⟩;refine ⟨_,rfl,?_⟩;replace BK557:=Z (blk_below (g:=gb557) (o:=.cells #[.slice A0_0 l0_0.length c0_0] 25 (0,0)) (pK BK557) hb);have n1_:=Z (below_step pB hb);clear HB;have HB:=n1_;clear n1_;(try clear hb);(try clear hb2);(try clear hk);(try clear hi);obtain ⟨hcz19_0,hfz19_0⟩:=p1 BK557)|(go_at_call 169;(with_reducible refine (danger_members.calls _ _ l0_0 t559 _ ?side1 ?side2 A9.out).mono ?_);(case side1=>exact pC HR0_0);(case side2=>exact HC0_0.out);rintro e w20 ⟨rfl,hb⟩;replace BK557:=Z (blk_below (g:=gb557) (o:=.cells #[.slice A0_0 l0_0.length c0_0] 25 (0,0)) (pK BK557) hb);have n1_:=Z (below_step pB hb);clear HB;have HB:=n1_;clear n1_;(try clear hb);(try clear hb2);(try clear hk);(try clear hi)))
    go_ret
    exact ⟨pF,pB⟩
 ·rw [if_neg c4] at H
  have c4b0:(t558 == 0)=false:=beq_eq_false_iff_ne.mpr c4
  have c4b1:(t558 != 0)=true:=bne_iff_ne.mpr c4
  obtain rfl:=Option.some.inj H
  go_enter Tryz.func110,Tryz.ntmps110
  go_wp2_with (first|((with_reducible refine gate_dst (N:=2) rfl ?_);refine box_event ?hg (N:=2) ?hd (cs:=#[.slice A0_0 l0_0.length c0_0]) (t:=25) ?hr ?_;(case hd=>rfl);(case hg=>rfl);(case hr=>first|(go_simp;done)|(go_simp;rfl));intro gb557 hg w21 hbox hb;have n0_:=Z (below_step pB hb);have BK557:=Z (hbox);have GW557:=Z ((pT hg:w.heap.size≤gb557));have GE557:=Z ((pT hg:w.heap.size≤gb557));clear HB;have HB:=n0_;clear n0_ hb hbox hg;obtain ⟨hcz22_0,hfz22_0⟩:=p1 BK557)|((with_reducible refine gate_callee (f:=95) rfl ?_);refine goesL_ (some 7) rfl rfl Tryz.func95 pU rfl #[.agg #[.slice A0_0 l0_0.length c0_0]] rfl pG ?_;(with_reducible refine (configuration_Valid.calls k _ _ l0_0 t558 _ ?side1 ?side2 A3.out).mono ?_);(case side1=>exact pC HR0_0);(case side2=>exact HC0_0.out);rintro e w23 ⟨rfl,hb⟩;refine ⟨_,rfl,?_⟩;replace BK557:=Z (blk_below (g:=gb557) (o:=.cells #[.slice A0_0 l0_0.length c0_0] 25 (0,0)) (pK BK557) hb);have n1_:=Z (below_step pB hb);clear HB;have HB:=n1_;clear n1_;(try clear hb);(try clear hb2);(try clear hk);(try clear hi)))
  go_ret
  exact ⟨pF,pB⟩
def danger_Halts.f (k:Nat) (l0_0:List (S92)) (a1:Int):Option (Bool × Int):=(danger_asked.f k l0_0 a1).bind fun t561=>(if t561=0 then ((danger_halts.f k l0_0 a1).bind fun t562=>(some (t562,0))) else (some (false,t561)))
set_option maxHeartbeats 8000000 in
set_option maxRecDepth 100000 in
theorem danger_Halts.calls (k:Nat) (A0_0:Option Addr) (c0_0:Nat) (l0_0:List (S92)) (a1:Int) (r1:Bool) (r2:Int) (w:World) (hr0_0:Kd.C k92 w A0_0 l0_0.length l0_0) (hc0_0:l0_0.length≤c0_0) (h:danger_Halts.f k l0_0 a1=some (r1,r2)) :
  Calls Tryz.prog 37 #[.agg #[.slice A0_0 l0_0.length c0_0],.int .i64 a1] w fun e w'=>e=.returned (.tuple #[.bool r1,.int .i64 r2])∧Below w.heap.size w w':=by
 have hu25:=Tryz.underlying25
 have HR0_0:=Z hr0_0
 have HC0_0:=Z hc0_0
 clear hr0_0 hc0_0
 have HB:=Z (Below.refl w.heap.size w)
 have H:((danger_asked.f k l0_0 a1).bind fun t561=>(if t561=0 then ((danger_halts.f k l0_0 a1).bind fun t562=>(some (t562,0))) else (some (false,t561))))=some (r1,r2):=h
 clear h
 replace H:=pO H
 obtain ⟨t561,A30,H⟩:=H
 try dsimp only at H
 have A3:=Z A30
 clear A30
 by_cases c4:t561=0
 ·rw [if_pos c4] at H
  have c4b0:(t561 == 0)=true:=beq_iff_eq.mpr c4
  have c4b1:(t561 != 0)=false:=bne_eq_false_iff_eq.mpr c4
  clear c4
  replace H:=pO H
  obtain ⟨t562,A50,H⟩:=H
  try dsimp only at H
  have A5:=Z A50
  clear A50
  simp only [Option.some.injEq,Prod.mk.injEq] at H
  obtain ⟨rfl,rfl⟩:=H
  go_enter Tryz.func37,Tryz.ntmps37
  go_wp2_with (first|((with_reducible refine gate_dst (N:=2) rfl ?_);refine box_event ?hg (N:=2) ?hd (cs:=#[.slice A0_0 l0_0.length c0_0]) (t:=25) ?hr ?_;(case hd=>rfl);(case hg=>rfl);(case hr=>first|(go_simp;done)|(go_simp;rfl));intro gb560 hg w6 hbox hb;have n0_:=Z (below_step pB hb);have BK560:=Z (hbox);have GW560:=Z ((pT hg:w.heap.size≤gb560));have GE560:=Z ((pT hg:w.heap.size≤gb560));clear HB;have HB:=n0_;clear n0_ hb hbox hg;obtain ⟨hcz7_0,hfz7_0⟩:=p1 BK560)|((with_reducible refine gate_callee (f:=110) rfl ?_);refine goesL_ (some 9) rfl rfl Tryz.func110 pU rfl #[.agg #[.slice A0_0 l0_0.length c0_0],.int .i64 a1] rfl pG ?_;(with_reducible refine (danger_asked.calls k _ _ l0_0 a1 t561 _ ?side1 ?side2 A3.out).mono ?_);(case side1=>exact pC HR0_0);(case side2=>exact HC0_0.out);rintro e w8 ⟨rfl,hb⟩;refine ⟨_,rfl,?_⟩;replace BK560:=Z (blk_below (g:=gb560) (o:=.cells #[.slice A0_0 l0_0.length c0_0] 25 (0,0)) (pK BK560) hb);have n1_:=Z (below_step pB hb);clear HB;have HB:=n1_;clear n1_;(try clear hb);(try clear hb2);(try clear hk);(try clear hi);obtain ⟨hcz9_0,hfz9_0⟩:=p1 BK560)|((with_reducible refine gate_callee (f:=109) rfl ?_);refine goesL_ (some 15) rfl rfl Tryz.func109 pU rfl #[.agg #[.slice A0_0 l0_0.length c0_0],.int .i64 a1] rfl pG ?_;(with_reducible refine (danger_halts.calls k _ _ l0_0 a1 t562 _ ?side1 ?side2 A5.out).mono ?_);(case side1=>exact pC HR0_0);(case side2=>exact HC0_0.out);rintro e w10 ⟨rfl,hb⟩;refine ⟨_,rfl,?_⟩;replace BK560:=Z (blk_below (g:=gb560) (o:=.cells #[.slice A0_0 l0_0.length c0_0] 25 (0,0)) (pK BK560) hb);have n1_:=Z (below_step pB hb);clear HB;have HB:=n1_;clear n1_;(try clear hb);(try clear hb2);(try clear hk);(try clear hi)))
  go_ret2
  exact ⟨pF,pB⟩
 ·rw [if_neg c4] at H
  have c4b0:(t561 == 0)=false:=beq_eq_false_iff_ne.mpr c4
  have c4b1:(t561 != 0)=true:=bne_iff_ne.mpr c4
  simp only [Option.some.injEq,Prod.mk.injEq] at H
  obtain ⟨rfl,rfl⟩:=H
  go_enter Tryz.func37,Tryz.ntmps37
  go_wp2_with (first|((with_reducible refine gate_dst (N:=2) rfl ?_);refine box_event ?hg (N:=2) ?hd (cs:=#[.slice A0_0 l0_0.length c0_0]) (t:=25) ?hr ?_;(case hd=>rfl);(case hg=>rfl);(case hr=>first|(go_simp;done)|(go_simp;rfl));intro gb560 hg w11 hbox hb;have n0_:=Z (below_step pB hb);have BK560:=Z (hbox);have GW560:=Z ((pT hg:w.heap.size≤gb560));have GE560:=Z ((pT hg:w.heap.size≤gb560));clear HB;have HB:=n0_;clear n0_ hb hbox hg;obtain ⟨hcz12_0,hfz12_0⟩:=p1 BK560)|((with_reducible refine gate_callee (f:=110) rfl ?_);refine goesL_ (some 9) rfl rfl Tryz.func110 pU rfl #[.agg #[.slice A0_0 l0_0.length c0_0],.int .i64 a1] rfl pG ?_;(with_reducible refine (danger_asked.calls k _ _ l0_0 a1 t561 _ ?side1 ?side2 A3.out).mono ?_);(case side1=>exact pC HR0_0);(case side2=>exact HC0_0.out);rintro e w13 ⟨rfl,hb⟩;refine ⟨_,rfl,?_⟩;replace BK560:=Z (blk_below (g:=gb560) (o:=.cells #[.slice A0_0 l0_0.length c0_0] 25 (0,0)) (pK BK560) hb);have n1_:=Z (below_step pB hb);clear HB;have HB:=n1_;clear n1_;(try clear hb);(try clear hb2);(try clear hk);(try clear hi)))
  go_ret2
  exact ⟨pF,pB⟩
def danger_small.f (k:Nat) (l0_0:List (S92)):Option (Int):=(configuration_Valid.f k l0_0).bind fun t659=>(if t659=0 then (if (l0_0.length:Int) > 7 then (some 3) else (some 0)) else (some t659))
set_option maxHeartbeats 8000000 in
set_option maxRecDepth 100000 in
theorem danger_small.calls (k:Nat) (A0_0:Option Addr) (c0_0:Nat) (l0_0:List (S92)) (r:Int) (w:World) (hr0_0:Kd.C k92 w A0_0 l0_0.length l0_0) (hc0_0:l0_0.length≤c0_0) (h:danger_small.f k l0_0=some r) :
  Calls Tryz.prog 121 #[.agg #[.slice A0_0 l0_0.length c0_0]] w fun e w'=>e=.returned (.int .i64 r)∧Below w.heap.size w w':=by
 have hu25:=Tryz.underlying25
 have HR0_0:=Z hr0_0
 have HC0_0:=Z hc0_0
 clear hr0_0 hc0_0
 have HB:=Z (Below.refl w.heap.size w)
 have H:((configuration_Valid.f k l0_0).bind fun t659=>(if t659=0 then (if (l0_0.length:Int) > 7 then (some 3) else (some 0)) else (some t659)))=some r:=h
 clear h
 replace H:=pO H
 obtain ⟨t659,A20,H⟩:=H
 try dsimp only at H
 have A2:=Z A20
 clear A20
 by_cases c3:t659=0
 ·rw [if_pos c3] at H
  have c3b0:(t659 == 0)=true:=beq_iff_eq.mpr c3
  have c3b1:(t659 != 0)=false:=bne_eq_false_iff_eq.mpr c3
  clear c3
  by_cases c4:(l0_0.length:Int) > 7
  ·rw [if_pos c4] at H
   have c4b0:decide (7 < (l0_0.length:Int))=true:=decide_eq_true c4
   have c4b1:decide (7 < l0_0.length)=true:=decide_eq_true (by omega)
   clear c4
   obtain rfl:=Option.some.inj H
   go_enter Tryz.func121,Tryz.ntmps121
   go_wp2_with (first|((with_reducible refine gate_dst (N:=1) rfl ?_);refine box_event ?hg (N:=1) ?hd (cs:=#[.slice A0_0 l0_0.length c0_0]) (t:=25) ?hr ?_;(case hd=>rfl);(case hg=>rfl);(case hr=>first|(go_simp;done)|(go_simp;rfl));intro gb658 hg w5 hbox hb;have n0_:=Z (below_step pB hb);have BK658:=Z (hbox);have GW658:=Z ((pT hg:w.heap.size≤gb658));have GE658:=Z ((pT hg:w.heap.size≤gb658));clear HB;have HB:=n0_;clear n0_ hb hbox hg;obtain ⟨hcz6_0,hfz6_0⟩:=p1 BK658)|((with_reducible refine gate_callee (f:=95) rfl ?_);refine goesL_ (some 5) rfl rfl Tryz.func95 pU rfl #[.agg #[.slice A0_0 l0_0.length c0_0]] rfl pG ?_;(with_reducible refine (configuration_Valid.calls k _ _ l0_0 t659 _ ?side1 ?side2 A2.out).mono ?_);(case side1=>exact pC HR0_0);(case side2=>exact HC0_0.out);rintro e w7 ⟨rfl,hb⟩;refine ⟨_,rfl,?_⟩;replace BK658:=Z (blk_below (g:=gb658) (o:=.cells #[.slice A0_0 l0_0.length c0_0] 25 (0,0)) (pK BK658) hb);have n1_:=Z (below_step pB hb);clear HB;have HB:=n1_;clear n1_;(try clear hb);(try clear hb2);(try clear hk);(try clear hi);obtain ⟨hcz8_0,hfz8_0⟩:=p1 BK658))
   go_ret
   exact ⟨pF,pB⟩
  ·rw [if_neg c4] at H
   have c4b0:decide (7 < (l0_0.length:Int))=false:=decide_eq_false c4
   have c4b1:decide (7 < l0_0.length)=false:=decide_eq_false (by omega)
   clear c4
   obtain rfl:=Option.some.inj H
   go_enter Tryz.func121,Tryz.ntmps121
   go_wp2_with (first|((with_reducible refine gate_dst (N:=1) rfl ?_);refine box_event ?hg (N:=1) ?hd (cs:=#[.slice A0_0 l0_0.length c0_0]) (t:=25) ?hr ?_;(case hd=>rfl);(case hg=>rfl);(case hr=>first|(go_simp;done)|(go_simp;rfl));intro gb658 hg w9 hbox hb;have n0_:=Z (below_step pB hb);have BK658:=Z (hbox);have GW658:=Z ((pT hg:w.heap.size≤gb658));have GE658:=Z ((pT hg:w.heap.size≤gb658));clear HB;have HB:=n0_;clear n0_ hb hbox hg;obtain ⟨hcz10_0,hfz10_0⟩:=p1 BK658)|((with_reducible refine gate_callee (f:=95) rfl ?_);refine goesL_ (some 5) rfl rfl Tryz.func95 pU rfl #[.agg #[.slice A0_0 l0_0.length c0_0]] rfl pG ?_;(with_reducible refine (configuration_Valid.calls k _ _ l0_0 t659 _ ?side1 ?side2 A2.out).mono ?_);(case side1=>exact pC HR0_0);(case side2=>exact HC0_0.out);rintro e w11 ⟨rfl,hb⟩;refine ⟨_,rfl,?_⟩;replace BK658:=Z (blk_below (g:=gb658) (o:=.cells #[.slice A0_0 l0_0.length c0_0] 25 (0,0)) (pK BK658) hb);have n1_:=Z (below_step pB hb);clear HB;have HB:=n1_;clear n1_;(try clear hb);(try clear hb2);(try clear hk);(try clear hi);obtain ⟨hcz12_0,hfz12_0⟩:=p1 BK658))
   go_ret
   exact ⟨pF,pB⟩
 ·rw [if_neg c3] at H
  have c3b0:(t659 == 0)=false:=beq_eq_false_iff_ne.mpr c3
  have c3b1:(t659 != 0)=true:=bne_iff_ne.mpr c3
  obtain rfl:=Option.some.inj H
  go_enter Tryz.func121,Tryz.ntmps121
  go_wp2_with (first|((with_reducible refine gate_dst (N:=1) rfl ?_);refine box_event ?hg (N:=1) ?hd (cs:=#[.slice A0_0 l0_0.length c0_0]) (t:=25) ?hr ?_;(case hd=>rfl);(case hg=>rfl);(case hr=>first|(go_simp;done)|(go_simp;rfl));intro gb658 hg w13 hbox hb;have n0_:=Z (below_step pB hb);have BK658:=Z (hbox);have GW658:=Z ((pT hg:w.heap.size≤gb658));have GE658:=Z ((pT hg:w.heap.size≤gb658));clear HB;have HB:=n0_;clear n0_ hb hbox hg;obtain ⟨hcz14_0,hfz14_0⟩:=p1 BK658)|((with_reducible refine gate_callee (f:=95) rfl ?_);refine goesL_ (some 5) rfl rfl Tryz.func95 pU rfl #[.agg #[.slice A0_0 l0_0.length c0_0]] rfl pG ?_;(with_reducible refine (configuration_Valid.calls k _ _ l0_0 t659 _ ?side1 ?side2 A2.out).mono ?_);(case side1=>exact pC HR0_0);(case side2=>exact HC0_0.out);rintro e w15 ⟨rfl,hb⟩;refine ⟨_,rfl,?_⟩;replace BK658:=Z (blk_below (g:=gb658) (o:=.cells #[.slice A0_0 l0_0.length c0_0] 25 (0,0)) (pK BK658) hb);have n1_:=Z (below_step pB hb);clear HB;have HB:=n1_;clear n1_;(try clear hb);(try clear hb2);(try clear hk);(try clear hi)))
  go_ret
  exact ⟨pF,pB⟩
def intersection_Holds.f (k:Nat) (l0_0:List (S92)):Option (Bool × Int):=(configuration_Valid.f k l0_0).bind fun t649=>(if t649=0 then ((intersection_find.f k l0_0).bind fun bt650=>(some ((bt650.1 == 0),0))) else (some (false,t649)))
set_option maxHeartbeats 8000000 in
set_option maxRecDepth 100000 in
theorem intersection_Holds.calls (k:Nat) (A0_0:Option Addr) (c0_0:Nat) (l0_0:List (S92)) (r1:Bool) (r2:Int) (w:World) (hr0_0:Kd.C k92 w A0_0 l0_0.length l0_0) (hc0_0:l0_0.length≤c0_0) (h:intersection_Holds.f k l0_0=some (r1,r2)) :
  Calls Tryz.prog 140 #[.agg #[.slice A0_0 l0_0.length c0_0]] w fun e w'=>e=.returned (.tuple #[.bool r1,.int .i64 r2])∧Below w.heap.size w w':=by
 have hu25:=Tryz.underlying25
 have HR0_0:=Z hr0_0
 have HC0_0:=Z hc0_0
 clear hr0_0 hc0_0
 have HB:=Z (Below.refl w.heap.size w)
 have H:((configuration_Valid.f k l0_0).bind fun t649=>(if t649=0 then ((intersection_find.f k l0_0).bind fun bt650=>(some ((bt650.1 == 0),0))) else (some (false,t649))))=some (r1,r2):=h
 clear h
 replace H:=pO H
 obtain ⟨t649,A20,H⟩:=H
 try dsimp only at H
 have A2:=Z A20
 clear A20
 by_cases c3:t649=0
 ·rw [if_pos c3] at H
  have c3b0:(t649 == 0)=true:=beq_iff_eq.mpr c3
  have c3b1:(t649 != 0)=false:=bne_eq_false_iff_eq.mpr c3
  clear c3
  replace H:=pO H
  obtain ⟨⟨t650,t651⟩,A40,H⟩:=H
  try dsimp only at H
  have A4:=Z A40
  clear A40
  simp only [Option.some.injEq,Prod.mk.injEq] at H
  obtain ⟨rfl,rfl⟩:=H
  go_enter Tryz.func140,Tryz.ntmps140
  go_wp2_with (first|((with_reducible refine gate_dst (N:=1) rfl ?_);refine box_event ?hg (N:=1) ?hd (cs:=#[.slice A0_0 l0_0.length c0_0]) (t:=25) ?hr ?_;(case hd=>rfl);(case hg=>rfl);(case hr=>first|(go_simp;done)|(go_simp;rfl));intro gb648 hg w5 hbox hb;have n0_:=Z (below_step pB hb);have BK648:=Z (hbox);have GW648:=Z ((pT hg:w.heap.size≤gb648));have GE648:=Z ((pT hg:w.heap.size≤gb648));clear HB;have HB:=n0_;clear n0_ hb hbox hg;obtain ⟨hcz6_0,hfz6_0⟩:=p1 BK648)|((with_reducible refine gate_callee (f:=95) rfl ?_);refine goesL_ (some 8) rfl rfl Tryz.func95 pU rfl #[.agg #[.slice A0_0 l0_0.length c0_0]] rfl pG ?_;(with_reducible refine (configuration_Valid.calls k _ _ l0_0 t649 _ ?side1 ?side2 A2.out).mono ?_);(case side1=>exact pC HR0_0);(case side2=>exact HC0_0.out);rintro e w7 ⟨rfl,hb⟩;refine ⟨_,rfl,?_⟩;replace BK648:=Z (blk_below (g:=gb648) (o:=.cells #[.slice A0_0 l0_0.length c0_0] 25 (0,0)) (pK BK648) hb);have n1_:=Z (below_step pB hb);clear HB;have HB:=n1_;clear n1_;(try clear hb);(try clear hb2);(try clear hk);(try clear hi);obtain ⟨hcz8_0,hfz8_0⟩:=p1 BK648)|((with_reducible refine gate_callee (f:=171) rfl ?_);refine goesL_ (some 14) rfl rfl Tryz.func171 pU rfl #[.agg #[.slice A0_0 l0_0.length c0_0]] rfl pG ?_;(with_reducible refine (intersection_find.calls k _ _ l0_0 t650 t651 _ ?side1 ?side2 A4.out).mono ?_);(case side1=>exact pC HR0_0);(case side2=>exact HC0_0.out);rintro e w9 ⟨rfl,hb⟩;refine ⟨_,rfl,?_⟩;replace BK648:=Z (blk_below (g:=gb648) (o:=.cells #[.slice A0_0 l0_0.length c0_0] 25 (0,0)) (pK BK648) hb);have n1_:=Z (below_step pB hb);clear HB;have HB:=n1_;clear n1_;(try clear hb);(try clear hb2);(try clear hk);(try clear hi)))
  go_ret2
  exact ⟨pF,pB⟩
 ·rw [if_neg c3] at H
  have c3b0:(t649 == 0)=false:=beq_eq_false_iff_ne.mpr c3
  have c3b1:(t649 != 0)=true:=bne_iff_ne.mpr c3
  simp only [Option.some.injEq,Prod.mk.injEq] at H
  obtain ⟨rfl,rfl⟩:=H
  go_enter Tryz.func140,Tryz.ntmps140
  go_wp2_with (first|((with_reducible refine gate_dst (N:=1) rfl ?_);refine box_event ?hg (N:=1) ?hd (cs:=#[.slice A0_0 l0_0.length c0_0]) (t:=25) ?hr ?_;(case hd=>rfl);(case hg=>rfl);(case hr=>first|(go_simp;done)|(go_simp;rfl));intro gb648 hg w10 hbox hb;have n0_:=Z (below_step pB hb);have BK648:=Z (hbox);have GW648:=Z ((pT hg:w.heap.size≤gb648));have GE648:=Z ((pT hg:w.heap.size≤gb648));clear HB;have HB:=n0_;clear n0_ hb hbox hg;obtain ⟨hcz11_0,hfz11_0⟩:=p1 BK648)|((with_reducible refine gate_callee (f:=95) rfl ?_);refine goesL_ (some 8) rfl rfl Tryz.func95 pU rfl #[.agg #[.slice A0_0 l0_0.length c0_0]] rfl pG ?_;(with_reducible refine (configuration_Valid.calls k _ _ l0_0 t649 _ ?side1 ?side2 A2.out).mono ?_);(case side1=>exact pC HR0_0);(case side2=>exact HC0_0.out);rintro e w12 ⟨rfl,hb⟩;refine ⟨_,rfl,?_⟩;replace BK648:=Z (blk_below (g:=gb648) (o:=.cells #[.slice A0_0 l0_0.length c0_0] 25 (0,0)) (pK BK648) hb);have n1_:=Z (below_step pB hb);clear HB;have HB:=n1_;clear n1_;(try clear hb);(try clear hb2);(try clear hk);(try clear hi)))
  go_ret2
  exact ⟨pF,pB⟩
def danger_splits.f (k:Nat) (l0_0:List (S92)) (a1:Int):Option (Bool):=(deletion_Delete.f k l0_0 a1).bind fun t653=>((intersection_Holds.f k t653).bind fun bt656=>(some (!bt656.1)))
set_option maxHeartbeats 8000000 in
set_option maxRecDepth 100000 in
theorem danger_splits.calls (k:Nat) (A0_0:Option Addr) (c0_0:Nat) (l0_0:List (S92)) (a1:Int) (r:Bool) (w:World) (hr0_0:Kd.C k92 w A0_0 l0_0.length l0_0) (hc0_0:l0_0.length≤c0_0) (h:danger_splits.f k l0_0 a1=some r) :
  Calls Tryz.prog 112 #[.agg #[.slice A0_0 l0_0.length c0_0],.int .i64 a1] w fun e w'=>e=.returned (.bool r)∧Below w.heap.size w w':=by
 have hu25:=Tryz.underlying25
 have HR0_0:=Z hr0_0
 have HC0_0:=Z hc0_0
 clear hr0_0 hc0_0
 have HB:=Z (Below.refl w.heap.size w)
 have H:((deletion_Delete.f k l0_0 a1).bind fun t653=>((intersection_Holds.f k t653).bind fun bt656=>(some (!bt656.1))))=some r:=h
 clear h
 replace H:=pO H
 obtain ⟨t653,A30,H⟩:=H
 try dsimp only at H
 have A3:=Z A30
 clear A30
 replace H:=pO H
 obtain ⟨⟨t656,t657⟩,A40,H⟩:=H
 try dsimp only at H
 have A4:=Z A40
 clear A40
 obtain rfl:=Option.some.inj H
 go_enter Tryz.func112,Tryz.ntmps112
 go_wp2_with (first|((with_reducible refine gate_dst (N:=2) rfl ?_);refine box_event ?hg (N:=2) ?hd (cs:=#[.slice A0_0 l0_0.length c0_0]) (t:=25) ?hr ?_;(case hd=>rfl);(case hg=>rfl);(case hr=>first|(go_simp;done)|(go_simp;rfl));intro gb652 hg w5 hbox hb;have n0_:=Z (below_step pB hb);have BK652:=Z (hbox);have GW652:=Z ((pT hg:w.heap.size≤gb652));have GE652:=Z ((pT hg:w.heap.size≤gb652));clear HB;have HB:=n0_;clear n0_ hb hbox hg;obtain ⟨hcz6_0,hfz6_0⟩:=p1 BK652)|((with_reducible refine gate_callee (f:=114) rfl ?_);refine goesL_ (some 10) rfl rfl Tryz.func114 pU rfl #[.agg #[.slice A0_0 l0_0.length c0_0],.int .i64 a1] rfl pG ?_;(with_reducible refine (deletion_Delete.calls k _ _ l0_0 a1 t653 _ ?side1 ?side2 A3.out).mono ?_);(case side1=>exact pC HR0_0);(case side2=>exact HC0_0.out);rintro e w7 ⟨v654,rfl,ho0,hb⟩;refine ⟨_,rfl,?_⟩;have HO655:=Z (Kd.R_lower ho0 (below_size pB));replace BK652:=Z (blk_below (g:=gb652) (o:=.cells #[.slice A0_0 l0_0.length c0_0] 25 (0,0)) (pK BK652) hb);have n2_:=Z (below_step pB hb);clear HB;have HB:=n2_;clear n2_;(try clear hb);(try clear hb2);(try clear hk);(try clear hi);(try clear ho0);obtain ⟨Ao8,co8,eo8⟩:=Kd.R_slice HO655.out;subst eo8)|((with_reducible refine gate_callee (f:=140) rfl ?_);refine goesL_ (some 11) rfl rfl Tryz.func140 pU rfl #[.agg #[.slice Ao8 t653.length co8]] rfl pG ?_;(with_reducible refine (intersection_Holds.calls k _ _ t653 t656 t657 _ ?side1 ?side2 A4.out).mono ?_);(case side1=>repeat (first|exact (Kd.R_reads' HO655.out).2.2|(with_reducible refine Kd.C_alloc ?_ _)|(with_reducible refine Kd.C_drewN ?_ _)|(with_reducible refine Kd.C_drew ?_)));(case side2=>exact (Kd.R_reads' HO655.out).2.1);rintro e w9 ⟨rfl,hb⟩;refine ⟨_,rfl,?_⟩;replace HO655:=Z (Kd.R_below (pR HO655) hb);replace BK652:=Z (blk_below (g:=gb652) (o:=.cells #[.slice A0_0 l0_0.length c0_0] 25 (0,0)) (pK BK652) hb);have n2_:=Z (below_step pB hb);clear HB;have HB:=n2_;clear n2_;(try clear hb);(try clear hb2);(try clear hk);(try clear hi)))
 go_ret
 exact ⟨pF,pB⟩
def danger_least_splits.l0:Nat→List Int→List Int→Int→Int→List (S92)→Option (List Int)
 | 0,_,_,_,_,_=>none
 | k+1,x5,x10,x11,x12,x287000=>if x12 < x11 then (if 0≤x12 then (if x12 < (x10.length:Int) then ((danger_splits.f k x287000 (rd x10 x12)).bind fun t292=>(if t292=true then (if x5.length < 17592186044416 then (danger_least_splits.l0 k (x5++[rd x10 x12]) x10 x11 (wrap64 (x12+1)) x287000) else (none)) else (danger_least_splits.l0 k x5 x10 x11 (wrap64 (x12+1)) x287000))) else (none)) else (none)) else ((nodeset_Least.f x5).bind fun t296=>(some t296))
def danger_least_splits.f (k:Nat) (l0_0:List (S92)):Option (List Int):=(danger_members.f l0_0).bind fun t287=>((nodeset_Subsets.f t287).bind fun t288=>(danger_least_splits.l0 k ([]:List Int) t288 (t288.length:Int) 0 l0_0))
set_option maxHeartbeats 8000000 in
set_option maxRecDepth 100000 in
theorem danger_least_splits.calls (k:Nat) (A0_0:Option Addr) (c0_0:Nat) (l0_0:List (S92)) (r:List Int) (w:World) (hr0_0:Kd.C k92 w A0_0 l0_0.length l0_0) (hc0_0:l0_0.length≤c0_0) (h:danger_least_splits.f k l0_0=some r) :
  Calls Tryz.prog 108 #[.agg #[.slice A0_0 l0_0.length c0_0],.func (.func 112) #[] #[]] w fun e w'=>∃ v0_:Value,e=.returned (v0_)∧Kd.R (Kd.int .i64) 3 w' w.heap.size (fun _=>True) v0_ r∧Below w.heap.size w w':=by
 have hu25:=Tryz.underlying25
 have HR0_0:=Z hr0_0
 have HC0_0:=Z hc0_0
 clear hr0_0 hc0_0
 have HB:=Z (Below.refl w.heap.size w)
 have H:((danger_members.f l0_0).bind fun t287=>((nodeset_Subsets.f t287).bind fun t288=>(danger_least_splits.l0 k ([]:List Int) t288 (t288.length:Int) 0 l0_0)))=some r:=h
 clear h
 replace H:=pO H
 obtain ⟨t287,A20,H⟩:=H
 try dsimp only at H
 have A2:=Z A20
 clear A20
 replace H:=pO H
 obtain ⟨t288,A30,H⟩:=H
 try dsimp only at H
 have A3:=Z A30
 clear A30
 have H':=Z H
 clear H
 go_enter Tryz.func108,Tryz.ntmps108
 go_wp2_with (first|((with_reducible refine gate_dst (N:=2) rfl ?_);refine box_event ?hg (N:=2) ?hd (cs:=#[.slice A0_0 l0_0.length c0_0]) (t:=25) ?hr ?_;(case hd=>rfl);(case hg=>rfl);(case hr=>first|(go_simp;done)|(go_simp;rfl));intro gb286 hg w4 hbox hb;have n0_:=Z (below_step pB hb);have BK286:=Z (hbox);have GW286:=Z ((pT hg:w.heap.size≤gb286));have GE286:=Z ((pT hg:w.heap.size≤gb286));clear HB;have HB:=n0_;clear n0_ hb hbox hg;obtain ⟨hcz5_0,hfz5_0⟩:=p1 BK286)|((with_reducible refine gate_callee (f:=169) rfl ?_);refine goesL_ (some 9) rfl rfl Tryz.func169 pU rfl #[.agg #[.slice A0_0 l0_0.length c0_0]] rfl pG ?_;(with_reducible refine (danger_members.calls _ _ l0_0 t287 _ ?side1 ?side2 A2.out).mono ?_);(case side1=>exact pC HR0_0);(case side2=>exact HC0_0.out);rintro e w6 ⟨rfl,hb⟩;refine ⟨_,rfl,?_⟩;replace BK286:=Z (blk_below (g:=gb286) (o:=.cells #[.slice A0_0 l0_0.length c0_0] 25 (0,0)) (pK BK286) hb);have n1_:=Z (below_step pB hb);clear HB;have HB:=n1_;clear n1_;(try clear hb);(try clear hb2);(try clear hk);(try clear hi))|((with_reducible refine gate_callee (f:=136) rfl ?_);refine goesL_ (some 10) rfl rfl Tryz.func136 pU rfl #[.int .i64 t287] rfl pG ?_;(with_reducible refine (nodeset_Subsets.calls t287 t288 _ A3.out).mono ?_);rintro e w7 ⟨v289,rfl,ho0,hb⟩;refine ⟨_,rfl,?_⟩;have HO290:=Z (Kd.R_lower ho0 (below_size pB));replace BK286:=Z (blk_below (g:=gb286) (o:=.cells #[.slice A0_0 l0_0.length c0_0] 25 (0,0)) (pK BK286) hb);have n2_:=Z (below_step pB hb);clear HB;have HB:=n2_;clear n2_;(try clear hb);(try clear hb2);(try clear hk);(try clear hi);(try clear ho0);obtain ⟨Ao8,co8,eo8⟩:=Kd.R_slice HO290.out;subst eo8))
 go_loopg [5,12] k (fun kq v5 v12 w'=>∃ (x5_1:List Int) (x12_1:Int),v12=.int .i64 x12_1∧Aside0 (danger_least_splits.l0 kq x5_1 t288 (t288.length:Int) x12_1 l0_0=some r)∧Aside0 (kq≤k)∧Aside0 (Kd.R (Kd.int .i64) 3 w' w.heap.size (fun k_=>some k_ ≠ ((.slice Ao8 t288.length co8):Value).ownBlock) v5 x5_1)∧Aside0 (Kd.R (Kd.int .i64) 3 w' w.heap.size (fun k_=>some k_ ≠ (v5:Value).ownBlock) (.slice Ao8 t288.length co8) t288)∧Aside0 (w'.heap[gb286]?=some (.cells #[(.slice A0_0 l0_0.length c0_0)] 25 (0,0)))∧Aside0 (Below w.heap.size w w'))
 case atStart=>exact ⟨(([]:List Int)),(0),pE,H',⟨Nat.le_refl _⟩,⟨pN⟩,⟨by refine pP ?_;exact Kd.R_mono HO290.out (fun _ hk=>(by simp [Value.ownBlock]))⟩,⟨pK BK286⟩,⟨pB⟩⟩
 case round =>
  clear H'
  try clear c1
  try clear p2
  try clear hcz5_0
  try clear hfz5_0
  obtain ⟨x5_1,x12_1,rfl,HA,HK1,HO_5,HO_10,BK286,HB⟩:=hrel
  cases gk with
  | zero=>exact absurd HA.out (by simp [danger_least_splits.l0])
  | succ k1 =>
   have H:=HA.out
   clear HA
   simp only [danger_least_splits.l0] at H
   by_cases c9:x12_1 < (t288.length:Int)
   ·rw [if_pos c9] at H
    have c9b0:decide (x12_1 < (t288.length:Int))=true:=decide_eq_true c9
    clear c9
    by_cases c10:0≤x12_1
    ·rw [if_pos c10] at H
     have c10b0:decide (0≤x12_1)=true:=decide_eq_true c10
     clear c10
     by_cases c11:x12_1 < (t288.length:Int)
     ·rw [if_pos c11] at H
      have c11b0:decide (x12_1 < (t288.length:Int))=true:=decide_eq_true c11
      clear c11
      replace H:=pO H
      obtain ⟨t292,A120,H⟩:=H
      try dsimp only at H
      have A12:=Z A120
      clear A120
      by_cases c13:t292=true
      ·subst c13
       rw [if_pos rfl] at H
       by_cases c14:x5_1.length < 17592186044416
       ·rw [if_pos c14] at H
        have LMc14:=Z c14
        clear c14
        obtain ⟨y293,hy293⟩:∃ y_:List Int,y_=(x5_1++[rd t288 x12_1]):=⟨_,rfl⟩
        first|rw [← hy293] at H|(replace H:=(Option.bind_some _ _).symm.trans H;rw [← hy293] at H)
        have Ny293:=Z hy293
        clear hy293
        have H':=Z H
        clear H
        have p291:0≤(x12_1:Int):=of_decide_eq_true pA
        have q291:x12_1 < (t288.length:Int):=of_decide_eq_true pA
        obtain ⟨ad291,e291,hx291_0⟩:=Kd.at_int (Kd.R_reads' HO_10.out).2.2 x12_1 p291 q291
        cases e291
        replace p291:=eq_true p291
        replace q291:=eq_true q291
        have hcz15_0:=pV BK286 (.slice A0_0 l0_0.length c0_0) 0 rfl
        have hfz15_0:=kF BK286.out 0
        go_wp2_with (first|((with_reducible refine gate_val (x:=.tmp 16) rfl ?_);refine goesV_ (some 19) rfl rfl (x:=.tmp 16) Tryz.func112 pU rfl #[.agg #[.slice A0_0 l0_0.length c0_0],.int .i64 (rd t288 x12_1)] rfl rfl pG ?_;(with_reducible refine (danger_splits.calls k1 _ _ l0_0 (rd t288 x12_1) true _ ?side1 ?side2 A12.out).mono ?_);(case side1=>exact pC HR0_0);(case side2=>exact HC0_0.out);rintro e w16 ⟨rfl,hb⟩;refine ⟨_,rfl,?_⟩;replace HO_5:=Z (Kd.R_below (pR HO_5) hb);replace HO_10:=Z (Kd.R_below (pR HO_10) hb);replace BK286:=Z (blk_below (g:=gb286) (o:=.cells #[.slice A0_0 l0_0.length c0_0] 25 (0,0)) (pK BK286) hb);have n3_:=Z (below_step pB hb);clear HB;have HB:=n3_;clear n3_;(try clear hb);(try clear hb2);(try clear hk);(try clear hi))|((with_reducible refine gate_builtin (b:=.append) (xs:=#[.tmp 20,.tmp 22]) rfl ?_);at_builtin;refine Kd.R_append (Kd.int .i64) (w0:=w) w.heap.size rfl (.tmp 20) (.tmp 22) 22 3 (.int .i64 0) 8 rfl Tryz.underlying22 info3 rfl (by decide) (by omega) u5 x5_1 (rd t288 x12_1) [.int .i64 (rd t288 x12_1)] (fun k_=>some k_ ≠ (.slice (some ad291) t288.length co8:Value).ownBlock) (fun _=>False) rfl rfl ?aP (fun _ hk=>hk.elim) ?aF ?aO ?aB ?aS ?aL ?_;(case aP=>exact rfl);(case aB=>exact pB);(case aF=>exact (fun k_ hk=>Kd.fresh' (Kd.R_lt (pR HO_10)) k_ hk));(case aO=>exact (pR HO_5));(case aS=>exact (below_size pB));(case aL=>have:=LMc14.out;omega);intro v294 w17 ho hb hg hat;rw [← Ny293.out] at ho;have n0_:=Z (Kd.R_after (ok:=(fun _=>True)) (by refine pP ?_;exact Kd.R_mono HO_10.out (fun _ hk=>⟨trivial,hk⟩)) hg hat);have n1_:=Z (blk_grown (g:=gb286) (o:=.cells #[.slice A0_0 l0_0.length c0_0] 25 (0,0)) (pK BK286) hg (Kd.R_ne HO_5.out BK286.out (by decide)));have n2_:=Z (hb);have n3_:=Z (ho);clear HO_10 BK286 HB HO_5;have HO_10:=n0_;have BK286:=n1_;have HB:=n2_;have HO295:=n3_;clear n0_ n1_ n2_ n3_ ho hb hg hat))
        go_roundg k1
        case measure=>have:=HK1.out;omega
        case rel=>exact ⟨(y293),(wrap64 (x12_1+1)),pE,H',⟨by have:=HK1.out;omega⟩,⟨pR HO295⟩,⟨by refine pP ?_;exact Kd.R_mono HO_10.out (fun _ hk=>hk.2)⟩,⟨pK BK286⟩,⟨pB⟩⟩
       ·rw [if_neg c14] at H
        exact absurd H (by simp)
      ·replace c13:=Bool.eq_false_iff.mpr c13
       subst c13
       rw [if_neg (show ¬ (false=true) by decide)] at H
       have H':=Z H
       clear H
       have p291:0≤(x12_1:Int):=of_decide_eq_true pA
       have q291:x12_1 < (t288.length:Int):=of_decide_eq_true pA
       obtain ⟨ad291,e291,hx291_0⟩:=Kd.at_int (Kd.R_reads' HO_10.out).2.2 x12_1 p291 q291
       cases e291
       replace p291:=eq_true p291
       replace q291:=eq_true q291
       have hcz18_0:=pV BK286 (.slice A0_0 l0_0.length c0_0) 0 rfl
       have hfz18_0:=kF BK286.out 0
       go_wp2_with (first|((with_reducible refine gate_val (x:=.tmp 16) rfl ?_);refine goesV_ (some 19) rfl rfl (x:=.tmp 16) Tryz.func112 pU rfl #[.agg #[.slice A0_0 l0_0.length c0_0],.int .i64 (rd t288 x12_1)] rfl rfl pG ?_;(with_reducible refine (danger_splits.calls k1 _ _ l0_0 (rd t288 x12_1) false _ ?side1 ?side2 A12.out).mono ?_);(case side1=>exact pC HR0_0);(case side2=>exact HC0_0.out);rintro e w19 ⟨rfl,hb⟩;refine ⟨_,rfl,?_⟩;replace HO_5:=Z (Kd.R_below (pR HO_5) hb);replace HO_10:=Z (Kd.R_below (pR HO_10) hb);replace BK286:=Z (blk_below (g:=gb286) (o:=.cells #[.slice A0_0 l0_0.length c0_0] 25 (0,0)) (pK BK286) hb);have n3_:=Z (below_step pB hb);clear HB;have HB:=n3_;clear n3_;(try clear hb);(try clear hb2);(try clear hk);(try clear hi)))
       go_roundg k1
       case measure=>have:=HK1.out;omega
       case rel=>exact ⟨(x5_1),(wrap64 (x12_1+1)),pE,H',⟨by have:=HK1.out;omega⟩,⟨pR HO_5⟩,⟨pR HO_10⟩,⟨pK BK286⟩,⟨pB⟩⟩
     ·rw [if_neg c11] at H
      exact absurd H (by simp)
    ·rw [if_neg c10] at H
     exact absurd H (by simp)
   ·rw [if_neg c9] at H
    have c9b0:decide (x12_1 < (t288.length:Int))=false:=decide_eq_false c9
    clear c9
    replace H:=pO H
    obtain ⟨t296,A200,H⟩:=H
    try dsimp only at H
    have A20:=Z A200
    clear A200
    obtain rfl:=Option.some.inj H
    obtain ⟨Ao21,co21,eo21⟩:=Kd.R_slice HO_5.out
    subst eo21
    go_wp2_with (first|((with_reducible refine gate_callee (f:=96) rfl ?_);refine goesL_ (some 26) rfl rfl Tryz.func96 pU rfl #[.slice Ao21 x5_1.length co21] rfl pG ?_;(with_reducible refine (nodeset_Least.calls _ _ x5_1 t296 _ ?side1 ?side2 A20.out).mono ?_);(case side1=>repeat (first|exact (Kd.R_reads' HO_5.out).2.2|(with_reducible refine Kd.C_alloc ?_ _)|(with_reducible refine Kd.C_drewN ?_ _)|(with_reducible refine Kd.C_drew ?_)));(case side2=>exact (Kd.R_reads' HO_5.out).2.1);rintro e w22 ⟨v297,rfl,ho0,hb⟩;refine ⟨_,rfl,?_⟩;have n0_:=Z (Kd.R_elder' (pR HO_5) (Kd.R_base ho0) hb);have n1_:=Z (Kd.R_elder' (pR HO_10) (Kd.R_base ho0) hb);have HO298:=Z (Kd.R_lower (Kd.R_new' (Kd.R_new' ho0 (Kd.R_lt (pR HO_5))) (Kd.R_lt (pR HO_10))) (below_size pB));replace BK286:=Z (blk_below (g:=gb286) (o:=.cells #[.slice A0_0 l0_0.length c0_0] 25 (0,0)) (pK BK286) hb);have n4_:=Z (below_step pB hb);clear HO_5 HO_10 HB;have HO_5:=n0_;have HO_10:=n1_;have HB:=n4_;clear n0_ n1_ n4_;(try clear hb);(try clear hb2);(try clear hk);(try clear hi);(try clear ho0)))
    go_ret
    exact ⟨_,pF,by refine pP ?_;exact Kd.R_mono HO298.out (fun _ hk=>trivial),pB⟩
def danger_Splitting.f (k:Nat) (l0_0:List (S92)):Option (List Int × Int):=(danger_small.f k l0_0).bind fun t661=>(if t661=0 then ((danger_least_splits.f k l0_0).bind fun t662=>(some (t662,0))) else (some (([]:List Int),t661)))
set_option maxHeartbeats 8000000 in
set_option maxRecDepth 100000 in
theorem danger_Splitting.calls (k:Nat) (A0_0:Option Addr) (c0_0:Nat) (l0_0:List (S92)) (r1:List Int) (r2:Int) (w:World) (hr0_0:Kd.C k92 w A0_0 l0_0.length l0_0) (hc0_0:l0_0.length≤c0_0) (h:danger_Splitting.f k l0_0=some (r1,r2)) :
  Calls Tryz.prog 48 #[.agg #[.slice A0_0 l0_0.length c0_0]] w fun e w'=>∃ v0_:Value,e=.returned (.tuple #[v0_,.int .i64 r2])∧Kd.R (Kd.int .i64) 3 w' w.heap.size (fun _=>True) v0_ r1∧Below w.heap.size w w':=by
 have hu25:=Tryz.underlying25
 have HR0_0:=Z hr0_0
 have HC0_0:=Z hc0_0
 clear hr0_0 hc0_0
 have HB:=Z (Below.refl w.heap.size w)
 have H:((danger_small.f k l0_0).bind fun t661=>(if t661=0 then ((danger_least_splits.f k l0_0).bind fun t662=>(some (t662,0))) else (some (([]:List Int),t661))))=some (r1,r2):=h
 clear h
 replace H:=pO H
 obtain ⟨t661,A20,H⟩:=H
 try dsimp only at H
 have A2:=Z A20
 clear A20
 by_cases c3:t661=0
 ·rw [if_pos c3] at H
  have c3b0:(t661 == 0)=true:=beq_iff_eq.mpr c3
  have c3b1:(t661 != 0)=false:=bne_eq_false_iff_eq.mpr c3
  clear c3
  replace H:=pO H
  obtain ⟨t662,A40,H⟩:=H
  try dsimp only at H
  have A4:=Z A40
  clear A40
  simp only [Option.some.injEq,Prod.mk.injEq] at H
  obtain ⟨rfl,rfl⟩:=H
  go_enter Tryz.func48,Tryz.ntmps48
  go_wp2_with (first|((with_reducible refine gate_dst (N:=1) rfl ?_);refine box_event ?hg (N:=1) ?hd (cs:=#[.slice A0_0 l0_0.length c0_0]) (t:=25) ?hr ?_;(case hd=>rfl);(case hg=>rfl);(case hr=>first|(go_simp;done)|(go_simp;rfl));intro gb660 hg w5 hbox hb;have n0_:=Z (below_step pB hb);have BK660:=Z (hbox);have GW660:=Z ((pT hg:w.heap.size≤gb660));have GE660:=Z ((pT hg:w.heap.size≤gb660));clear HB;have HB:=n0_;clear n0_ hb hbox hg;obtain ⟨hcz6_0,hfz6_0⟩:=p1 BK660)|((with_reducible refine gate_callee (f:=121) rfl ?_);refine goesL_ (some 6) rfl rfl Tryz.func121 pU rfl #[.agg #[.slice A0_0 l0_0.length c0_0]] rfl pG ?_;(with_reducible refine (danger_small.calls k _ _ l0_0 t661 _ ?side1 ?side2 A2.out).mono ?_);(case side1=>exact pC HR0_0);(case side2=>exact HC0_0.out);rintro e w7 ⟨rfl,hb⟩;refine ⟨_,rfl,?_⟩;replace BK660:=Z (blk_below (g:=gb660) (o:=.cells #[.slice A0_0 l0_0.length c0_0] 25 (0,0)) (pK BK660) hb);have n1_:=Z (below_step pB hb);clear HB;have HB:=n1_;clear n1_;(try clear hb);(try clear hb2);(try clear hk);(try clear hi);obtain ⟨hcz8_0,hfz8_0⟩:=p1 BK660)|((with_reducible refine gate_callee (f:=108) rfl ?_);refine goesL_ (some 11) rfl rfl Tryz.func108 pU rfl #[.agg #[.slice A0_0 l0_0.length c0_0],.func (.func 112) #[] #[]] rfl pG ?_;(with_reducible refine (danger_least_splits.calls k _ _ l0_0 t662 _ ?side1 ?side2 A4.out).mono ?_);(case side1=>exact pC HR0_0);(case side2=>exact HC0_0.out);rintro e w9 ⟨v663,rfl,ho0,hb⟩;refine ⟨_,rfl,?_⟩;have HO664:=Z (Kd.R_lower ho0 (below_size pB));replace BK660:=Z (blk_below (g:=gb660) (o:=.cells #[.slice A0_0 l0_0.length c0_0] 25 (0,0)) (pK BK660) hb);have n2_:=Z (below_step pB hb);clear HB;have HB:=n2_;clear n2_;(try clear hb);(try clear hb2);(try clear hk);(try clear hi);(try clear ho0)))
  go_ret2
  exact ⟨_,pF,pR HO664,pB⟩
 ·rw [if_neg c3] at H
  have c3b0:(t661 == 0)=false:=beq_eq_false_iff_ne.mpr c3
  have c3b1:(t661 != 0)=true:=bne_iff_ne.mpr c3
  simp only [Option.some.injEq,Prod.mk.injEq] at H
  obtain ⟨rfl,rfl⟩:=H
  go_enter Tryz.func48,Tryz.ntmps48
  go_wp2_with (first|((with_reducible refine gate_dst (N:=1) rfl ?_);refine box_event ?hg (N:=1) ?hd (cs:=#[.slice A0_0 l0_0.length c0_0]) (t:=25) ?hr ?_;(case hd=>rfl);(case hg=>rfl);(case hr=>first|(go_simp;done)|(go_simp;rfl));intro gb660 hg w10 hbox hb;have n0_:=Z (below_step pB hb);have BK660:=Z (hbox);have GW660:=Z ((pT hg:w.heap.size≤gb660));have GE660:=Z ((pT hg:w.heap.size≤gb660));clear HB;have HB:=n0_;clear n0_ hb hbox hg;obtain ⟨hcz11_0,hfz11_0⟩:=p1 BK660)|((with_reducible refine gate_callee (f:=121) rfl ?_);refine goesL_ (some 6) rfl rfl Tryz.func121 pU rfl #[.agg #[.slice A0_0 l0_0.length c0_0]] rfl pG ?_;(with_reducible refine (danger_small.calls k _ _ l0_0 t661 _ ?side1 ?side2 A2.out).mono ?_);(case side1=>exact pC HR0_0);(case side2=>exact HC0_0.out);rintro e w12 ⟨rfl,hb⟩;refine ⟨_,rfl,?_⟩;replace BK660:=Z (blk_below (g:=gb660) (o:=.cells #[.slice A0_0 l0_0.length c0_0] 25 (0,0)) (pK BK660) hb);have n1_:=Z (below_step pB hb);clear HB;have HB:=n1_;clear n1_;(try clear hb);(try clear hb2);(try clear hk);(try clear hi)))
  go_ret2
  exact ⟨_,pF,pN,pB⟩
def danger_Tolerates.f (k:Nat) (l0_0:List (S92)):Option (Int × Int × Int):=(danger_small.f k l0_0).bind fun t669=>(if t669=0 then ((danger_least_splits.f k l0_0).bind fun t670=>((danger_tolerated.f l0_0 t670).bind fun t673=>((danger_least_halts.f k l0_0).bind fun t674=>((danger_tolerated.f l0_0 t674).bind fun t677=>(some (t673,t677,0)))))) else (some (0,0,t669)))
def danger_Tolerates.T4:Bool × List (List Nat × List Nat):=(true,[([],[]),([],[]),([1],[1]),([0,2,2],[0,2]),([],[]),([],[]),([5,3],[5]),([4,6,6],[4,6]),([3,7,0,1,2,3],[3]),([7,8,0,1,2,3,4,5,6,7,8],[7]),([9,0,1,2,3,4,5,6,7,8,9],[])])
def danger_Tolerates.B4:List Nat:=[0,0,2,7,0,0,47,127,255,511,1023]
theorem danger_Tolerates.tab4:rtab .any (opsOf Tryz.f51 4)=danger_Tolerates.T4:=by kernel_rfl
theorem danger_Tolerates.bits4:waitsOk danger_Tolerates.T4.2 danger_Tolerates.B4=true:=by kernel_rfl
set_option maxHeartbeats 8000000 in
set_option maxRecDepth 100000 in
theorem danger_Tolerates.calls (k:Nat) (A0_0:Option Addr) (c0_0:Nat) (l0_0:List (S92)) (r1:Int) (r2:Int) (r3:Int) (w:World) (hr0_0:Kd.C k92 w A0_0 l0_0.length l0_0) (hc0_0:l0_0.length≤c0_0) (h:danger_Tolerates.f k l0_0=some (r1,r2,r3)) :
  Calls Tryz.prog 51 #[.agg #[.slice A0_0 l0_0.length c0_0]] w fun e w'=>e=.returned (.tuple #[.int .i64 r1,.int .i64 r2,.int .i64 r3])∧Below w.heap.size w w':=by
 have hu25:=Tryz.underlying25
 have HR0_0:=Z hr0_0
 have HC0_0:=Z hc0_0
 clear hr0_0 hc0_0
 have HB:=Z (Below.refl w.heap.size w)
 have H:((danger_small.f k l0_0).bind fun t669=>(if t669=0 then ((danger_least_splits.f k l0_0).bind fun t670=>((danger_tolerated.f l0_0 t670).bind fun t673=>((danger_least_halts.f k l0_0).bind fun t674=>((danger_tolerated.f l0_0 t674).bind fun t677=>(some (t673,t677,0)))))) else (some (0,0,t669))))=some (r1,r2,r3):=h
 clear h
 replace H:=pO H
 obtain ⟨t669,A20,H⟩:=H
 try dsimp only at H
 have A2:=Z A20
 clear A20
 by_cases c3:t669=0
 ·rw [if_pos c3] at H
  have c3b0:(t669 == 0)=true:=beq_iff_eq.mpr c3
  have c3b1:(t669 != 0)=false:=bne_eq_false_iff_eq.mpr c3
  clear c3
  replace H:=pO H
  obtain ⟨t670,A40,H⟩:=H
  try dsimp only at H
  have A4:=Z A40
  clear A40
  replace H:=pO H
  obtain ⟨t673,A50,H⟩:=H
  try dsimp only at H
  have A5:=Z A50
  clear A50
  replace H:=pO H
  obtain ⟨t674,A60,H⟩:=H
  try dsimp only at H
  have A6:=Z A60
  clear A60
  replace H:=pO H
  obtain ⟨t677,A70,H⟩:=H
  try dsimp only at H
  have A7:=Z A70
  clear A70
  simp only [Option.some.injEq,Prod.mk.injEq] at H
  obtain ⟨rfl,rfl,rfl⟩:=H
  go_enter Tryz.func51,Tryz.ntmps51
  try go_wp2_with (first|((with_reducible refine gate_dst (N:=1) rfl ?_);refine box_event ?hg (N:=1) ?hd (cs:=#[.slice A0_0 l0_0.length c0_0]) (t:=25) ?hr ?_;(case hd=>rfl);(case hg=>rfl);(case hr=>first|(go_simp;done)|(go_simp;rfl));intro gb668 hg w8 hbox hb;have n0_:=Z (below_step pB hb);have BK668:=Z (hbox);have GW668:=Z ((pT hg:w.heap.size≤gb668));have GE668:=Z ((pT hg:w.heap.size≤gb668));clear HB;have HB:=n0_;clear n0_ hb hbox hg;obtain ⟨hcz9_0,hfz9_0⟩:=p1 BK668)|((with_reducible refine gate_callee (f:=121) rfl ?_);refine goesL_ (some 7) rfl rfl Tryz.func121 pU rfl #[.agg #[.slice A0_0 l0_0.length c0_0]] rfl pG ?_;(with_reducible refine (danger_small.calls k _ _ l0_0 t669 _ ?side1 ?side2 A2.out).mono ?_);(case side1=>exact pC HR0_0);(case side2=>exact HC0_0.out);rintro e w10 ⟨rfl,hb⟩;refine ⟨_,rfl,?_⟩;replace BK668:=Z (blk_below (g:=gb668) (o:=.cells #[.slice A0_0 l0_0.length c0_0] 25 (0,0)) (pK BK668) hb);have n1_:=Z (below_step pB hb);clear HB;have HB:=n1_;clear n1_;(try clear hb);(try clear hb2);(try clear hk);(try clear hi)))
  have n0_:=Z (kD BK668.out)
  have n1_:=Z (wD HB.out)
  clear BK668 HB
  have BK668:=n0_
  have HB:=n1_
  clear n0_ n1_
  refine start_ (n:=11) (S:=fun w'=>w'.cell? ⟨gb668,0,none⟩=some (.slice A0_0 l0_0.length c0_0)) (ds:=[]) #[false,false,false,false,false,false,false,false,false,false,false] pU rfl rfl ((kC BK668.out 0).trans rfl) (fun hHeld=>?_);refine with_tabW danger_Tolerates.tab4 danger_Tolerates.bits4 (fun HT_ HW_=>?_)
  generalize w10.drew=w11 at BK668 HB hHeld ⊢
  refine take_ (i:=0) (N:=some 11) (v:=?_) (a':=?_) #[true,false,false,false,false,false,false,false,false,false,false] rfl rfl (take_ofW HT_.out HW_.out pU) (fun _ _ _ h=>h) (Or.inl ⟨by rfl,?_⟩) hHeld ?_ ?_
  rotate_left
  ·intro w' s0
   go_simp
   with_reducible rfl
  rotate_left
  ·simp only [Act.put,List.setIfInBounds_toArray,List.set_cons_zero,List.set_cons_succ,i64_w,i32_w]
   rfl
  refine take_ (i:=1) (N:=some 12) (v:=?_) (a':=?_) #[true,true,false,false,false,false,false,false,false,false,false] rfl rfl (take_ofW HT_.out HW_.out pU) (fun _ _ _ h=>h) (Or.inl ⟨by rfl,?_⟩) hHeld ?_ ?_
  rotate_left
  ·intro w' s0
   go_simp
   with_reducible rfl
  rotate_left
  ·simp only [Act.put,List.setIfInBounds_toArray,List.set_cons_zero,List.set_cons_succ,i64_w,i32_w]
   rfl
  refine take_ (i:=4) (N:=some 15) (v:=?_) (a':=?_) #[true,true,false,false,true,false,false,false,false,false,false] rfl rfl (take_ofW HT_.out HW_.out pU) (fun _ _ _ h=>h) (Or.inl ⟨by rfl,?_⟩) hHeld ?_ ?_
  rotate_left
  ·intro w' s0
   go_simp
   with_reducible rfl
  rotate_left
  ·simp only [Act.put,List.setIfInBounds_toArray,List.set_cons_zero,List.set_cons_succ,i64_w,i32_w]
   rfl
  refine take_ (i:=5) (N:=some 16) (v:=?_) (a':=?_) #[true,true,false,false,true,true,false,false,false,false,false] rfl rfl (take_ofW HT_.out HW_.out pU) (fun _ _ _ h=>h) (Or.inl ⟨by rfl,?_⟩) hHeld ?_ ?_
  rotate_left
  ·intro w' s0
   go_simp
   with_reducible rfl
  rotate_left
  ·simp only [Act.put,List.setIfInBounds_toArray,List.set_cons_zero,List.set_cons_succ,i64_w,i32_w]
   rfl
  refine one_ (i:=2) (N:=some 13) #[true,true,true,false,true,true,false,false,false,false,false] rfl rfl (one_of HT_.out pU) (by decide) (fun K hK=>?_)
  refine goes_ Tryz.func108 pU rfl #[.agg #[.slice A0_0 l0_0.length c0_0],.func (.func 112) #[] #[]] (by rfl) rfl rfl pG ?_
  with_reducible refine (danger_least_splits.calls k _ _ l0_0 t670 _ ?side1 ?side2 A4.out).mono ?_
  (case side1=>exact pC HR0_0)
  (case side2=>exact HC0_0.out)
  rintro e w12 ⟨v671,rfl,ho0,hb⟩
  refine ⟨_,rfl,?_⟩
  have n0_:=Z (Kd.R_lower ho0 (below_size pB))
  have n1_:=Z (blk_below (g:=gb668) (o:=.cells #[.slice A0_0 l0_0.length c0_0] 25 (0,0)) (pK BK668) hb)
  have n2_:=Z (below_step pB hb)
  clear BK668 HB
  have HO672:=n0_
  have BK668:=n1_
  have HB:=n2_
  clear n0_ n1_ n2_
  (try clear hb)
  (try clear hb2)
  (try clear hk)
  (try clear hi)
  (try clear ho0)
  obtain ⟨Ao13,co13,eo13⟩:=Kd.R_slice HO672.out
  (first|subst eo13|(injection eo13 with f1_ f2_ f3_;have f4_:=f1_.symm;have f5_:=f3_.symm;clear f1_ f2_ f3_;subst f4_;subst f5_))
  refine hK.out _ _ ((kC BK668.out 0).trans rfl) (fun hHeld=>?_)
  clear hK K
  refine norm_ (a':=?_) ?_ ?_
  rotate_left
  ·show Act.put _ (some 13) _=_
   simp only [Act.put,List.setIfInBounds_toArray,List.set_cons_zero,List.set_cons_succ,i64_w,i32_w]
   rfl
  refine one_ (i:=3) (N:=some 14) #[true,true,true,true,true,true,false,false,false,false,false] rfl rfl (one_of HT_.out pU) (by decide) (fun K hK=>?_)
  refine goes_ Tryz.func122 pU rfl #[.agg #[.slice A0_0 l0_0.length c0_0],.slice Ao13 t670.length co13] (by rfl) rfl rfl pG ?_
  with_reducible refine (danger_tolerated.calls _ _ l0_0 _ _ t670 t673 _ ?side1 ?side2 ?side3 ?side4 A5.out).mono ?_
  (case side1=>exact pC HR0_0)
  (case side2=>exact HC0_0.out)
  (case side3=>repeat (first|exact (Kd.R_reads' HO672.out).2.2|(with_reducible refine Kd.C_alloc ?_ _)|(with_reducible refine Kd.C_drewN ?_ _)|(with_reducible refine Kd.C_drew ?_)))
  (case side4=>exact (Kd.R_reads' HO672.out).2.1)
  rintro e w14 ⟨rfl,hb⟩
  refine ⟨_,rfl,?_⟩
  have n0_:=Z (Kd.R_below (pR HO672) hb)
  have n1_:=Z (blk_below (g:=gb668) (o:=.cells #[.slice A0_0 l0_0.length c0_0] 25 (0,0)) (pK BK668) hb)
  have n2_:=Z (below_step pB hb)
  clear HO672 BK668 HB
  have HO672:=n0_
  have BK668:=n1_
  have HB:=n2_
  clear n0_ n1_ n2_
  (try clear hb)
  (try clear hb2)
  (try clear hk)
  (try clear hi)
  refine hK.out _ _ ((kC BK668.out 0).trans rfl) (fun hHeld=>?_)
  clear hK K
  refine norm_ (a':=?_) ?_ ?_
  rotate_left
  ·show Act.put _ (some 14) _=_
   simp only [Act.put,List.setIfInBounds_toArray,List.set_cons_zero,List.set_cons_succ,i64_w,i32_w]
   rfl
  refine one_ (i:=6) (N:=some 17) #[true,true,true,true,true,true,true,false,false,false,false] rfl rfl (one_of HT_.out pU) (by decide) (fun K hK=>?_)
  refine goes_ Tryz.func108 pU rfl #[.agg #[.slice A0_0 l0_0.length c0_0],.func (.func 109) #[] #[]] (by rfl) rfl rfl pG ?_
  with_reducible refine (danger_least_halts.calls k _ _ l0_0 t674 _ ?side1 ?side2 A6.out).mono ?_
  (case side1=>exact pC HR0_0)
  (case side2=>exact HC0_0.out)
  rintro e w15 ⟨v675,rfl,ho0,hb⟩
  refine ⟨_,rfl,?_⟩
  have n0_:=Z (Kd.R_elder' (pR HO672) (Kd.R_base ho0) hb)
  have n1_:=Z (Kd.R_lower (Kd.R_new' ho0 (Kd.R_lt (pR HO672))) (below_size pB))
  have n2_:=Z (blk_below (g:=gb668) (o:=.cells #[.slice A0_0 l0_0.length c0_0] 25 (0,0)) (pK BK668) hb)
  have n3_:=Z (below_step pB hb)
  clear HO672 BK668 HB
  have HO672:=n0_
  have HO676:=n1_
  have BK668:=n2_
  have HB:=n3_
  clear n0_ n1_ n2_ n3_
  (try clear hb)
  (try clear hb2)
  (try clear hk)
  (try clear hi)
  (try clear ho0)
  obtain ⟨Ao16,co16,eo16⟩:=Kd.R_slice HO676.out
  (first|subst eo16|(injection eo16 with f1_ f2_ f3_;have f4_:=f1_.symm;have f5_:=f3_.symm;clear f1_ f2_ f3_;subst f4_;subst f5_))
  refine hK.out _ _ ((kC BK668.out 0).trans rfl) (fun hHeld=>?_)
  clear hK K
  refine norm_ (a':=?_) ?_ ?_
  rotate_left
  ·show Act.put _ (some 17) _=_
   simp only [Act.put,List.setIfInBounds_toArray,List.set_cons_zero,List.set_cons_succ,i64_w,i32_w]
   rfl
  refine one_ (i:=7) (N:=some 18) #[true,true,true,true,true,true,true,true,false,false,false] rfl rfl (one_of HT_.out pU) (by decide) (fun K hK=>?_)
  refine goes_ Tryz.func122 pU rfl #[.agg #[.slice A0_0 l0_0.length c0_0],.slice Ao16 t674.length co16] (by rfl) rfl rfl pG ?_
  with_reducible refine (danger_tolerated.calls _ _ l0_0 _ _ t674 t677 _ ?side1 ?side2 ?side3 ?side4 A7.out).mono ?_
  (case side1=>exact pC HR0_0)
  (case side2=>exact HC0_0.out)
  (case side3=>repeat (first|exact (Kd.R_reads' HO676.out).2.2|(with_reducible refine Kd.C_alloc ?_ _)|(with_reducible refine Kd.C_drewN ?_ _)|(with_reducible refine Kd.C_drew ?_)))
  (case side4=>exact (Kd.R_reads' HO676.out).2.1)
  rintro e w17 ⟨rfl,hb⟩
  refine ⟨_,rfl,?_⟩
  have n0_:=Z (Kd.R_below (pR HO672) hb)
  have n1_:=Z (Kd.R_below (pR HO676) hb)
  have n2_:=Z (blk_below (g:=gb668) (o:=.cells #[.slice A0_0 l0_0.length c0_0] 25 (0,0)) (pK BK668) hb)
  have n3_:=Z (below_step pB hb)
  clear HO672 HO676 BK668 HB
  have HO672:=n0_
  have HO676:=n1_
  have BK668:=n2_
  have HB:=n3_
  clear n0_ n1_ n2_ n3_
  (try clear hb)
  (try clear hb2)
  (try clear hk)
  (try clear hi)
  refine hK.out _ _ ((kC BK668.out 0).trans rfl) (fun hHeld=>?_)
  clear hK K
  refine norm_ (a':=?_) ?_ ?_
  rotate_left
  ·show Act.put _ (some 18) _=_
   simp only [Act.put,List.setIfInBounds_toArray,List.set_cons_zero,List.set_cons_succ,i64_w,i32_w]
   rfl
  refine pure_ (i:=8) (N:=some 2) (v:=?_) (a':=?_) #[true,true,true,true,true,true,true,true,true,false,false] rfl rfl (any_of HT_.out pU) (fun _ _ _ h=>h) (Or.inl ⟨by rfl,?_⟩) ?_ ?_
  rotate_left
  ·intro w'
   go_simp
   with_reducible rfl
  rotate_left
  ·simp only [Act.put,List.setIfInBounds_toArray,List.set_cons_zero,List.set_cons_succ,i64_w,i32_w]
   rfl
  refine pure_ (i:=9) (N:=some 3) (v:=?_) (a':=?_) #[true,true,true,true,true,true,true,true,true,true,false] rfl rfl (any_of HT_.out pU) (fun _ _ _ h=>h) (Or.inl ⟨by rfl,?_⟩) ?_ ?_
  rotate_left
  ·intro w'
   go_simp
   with_reducible rfl
  rotate_left
  ·simp only [Act.put,List.setIfInBounds_toArray,List.set_cons_zero,List.set_cons_succ,i64_w,i32_w]
   rfl
  refine pure_ (i:=10) (N:=some 4) (v:=?_) (a':=?_) #[true,true,true,true,true,true,true,true,true,true,true] rfl rfl (any_of HT_.out pU) (fun _ _ _ h=>h) (Or.inl ⟨by rfl,?_⟩) ?_ ?_
  rotate_left
  ·intro w'
   go_simp
   with_reducible rfl
  rotate_left
  ·simp only [Act.put,List.setIfInBounds_toArray,List.set_cons_zero,List.set_cons_succ,i64_w,i32_w]
   rfl
  refine done_ (done_of HT_.out pU) ?_
  try go_wp2
  go_ret3
  exact ⟨pF,pB⟩
 ·rw [if_neg c3] at H
  have c3b0:(t669 == 0)=false:=beq_eq_false_iff_ne.mpr c3
  have c3b1:(t669 != 0)=true:=bne_iff_ne.mpr c3
  simp only [Option.some.injEq,Prod.mk.injEq] at H
  obtain ⟨rfl,rfl,rfl⟩:=H
  go_enter Tryz.func51,Tryz.ntmps51
  go_wp2_with (first|((with_reducible refine gate_dst (N:=1) rfl ?_);refine box_event ?hg (N:=1) ?hd (cs:=#[.slice A0_0 l0_0.length c0_0]) (t:=25) ?hr ?_;(case hd=>rfl);(case hg=>rfl);(case hr=>first|(go_simp;done)|(go_simp;rfl));intro gb668 hg w18 hbox hb;have n0_:=Z (below_step pB hb);have BK668:=Z (hbox);have GW668:=Z ((pT hg:w.heap.size≤gb668));have GE668:=Z ((pT hg:w.heap.size≤gb668));clear HB;have HB:=n0_;clear n0_ hb hbox hg;obtain ⟨hcz19_0,hfz19_0⟩:=p1 BK668)|((with_reducible refine gate_callee (f:=121) rfl ?_);refine goesL_ (some 7) rfl rfl Tryz.func121 pU rfl #[.agg #[.slice A0_0 l0_0.length c0_0]] rfl pG ?_;(with_reducible refine (danger_small.calls k _ _ l0_0 t669 _ ?side1 ?side2 A2.out).mono ?_);(case side1=>exact pC HR0_0);(case side2=>exact HC0_0.out);rintro e w20 ⟨rfl,hb⟩;refine ⟨_,rfl,?_⟩;replace BK668:=Z (blk_below (g:=gb668) (o:=.cells #[.slice A0_0 l0_0.length c0_0] 25 (0,0)) (pK BK668) hb);have n1_:=Z (below_step pB hb);clear HB;have HB:=n1_;clear n1_;(try clear hb);(try clear hb2);(try clear hk);(try clear hi)))
  go_ret3
  exact ⟨pF,pB⟩
def qlaw16_awake.f (k:Nat) :Option (Bool):=(qlaw16_same.f k 4 3).bind fun t678=>((danger_Splitting.f k t678).bind fun bt681=>((qlaw16_same.f k 4 3).bind fun t685=>((danger_Halting.f k t685).bind fun bt688=>((qlaw16_same.f k 4 3).bind fun t692=>((danger_Tolerates.f k t692).bind fun bt695=>(if bt681.2=0 then (if bt688.2=0 then (if bt695.2.2=0 then ((qmake_Ints.f k bt681.1 (([3,5,6,9,10,12]:List Int))).bind fun t701=>(if t701=true then ((qmake_Ints.f k bt688.1 bt681.1).bind fun t702=>(if t702=true then (if bt695.1=1 then (some (bt695.2.1 == 1)) else (some false)) else (some false))) else (some false))) else (some false)) else (some false)) else (some false)))))))
set_option maxHeartbeats 8000000 in
set_option maxRecDepth 100000 in
theorem qlaw16_awake.calls (k:Nat)  (w:World) (h:qlaw16_awake.f k =some true) :
  Calls Tryz.prog 38 #[] w fun e w'=>e=.returned (.bool true)∧Below w.heap.size w w':=by
 have HB:=Z (Below.refl w.heap.size w)
 have H:((qlaw16_same.f k 4 3).bind fun t678=>((danger_Splitting.f k t678).bind fun bt681=>((qlaw16_same.f k 4 3).bind fun t685=>((danger_Halting.f k t685).bind fun bt688=>((qlaw16_same.f k 4 3).bind fun t692=>((danger_Tolerates.f k t692).bind fun bt695=>(if bt681.2=0 then (if bt688.2=0 then (if bt695.2.2=0 then ((qmake_Ints.f k bt681.1 (([3,5,6,9,10,12]:List Int))).bind fun t701=>(if t701=true then ((qmake_Ints.f k bt688.1 bt681.1).bind fun t702=>(if t702=true then (if bt695.1=1 then (some (bt695.2.1 == 1)) else (some false)) else (some false))) else (some false))) else (some false)) else (some false)) else (some false))))))))=some true:=h
 clear h
 replace H:=pO H
 obtain ⟨t678,A10,H⟩:=H
 try dsimp only at H
 have A1:=Z A10
 clear A10
 replace H:=pO H
 obtain ⟨⟨t681,t684⟩,A20,H⟩:=H
 try dsimp only at H
 have A2:=Z A20
 clear A20
 replace H:=pO H
 obtain ⟨t685,A30,H⟩:=H
 try dsimp only at H
 have A3:=Z A30
 clear A30
 replace H:=pO H
 obtain ⟨⟨t688,t691⟩,A40,H⟩:=H
 try dsimp only at H
 have A4:=Z A40
 clear A40
 replace H:=pO H
 obtain ⟨t692,A50,H⟩:=H
 try dsimp only at H
 have A5:=Z A50
 clear A50
 replace H:=pO H
 obtain ⟨⟨t695,t696,t697⟩,A60,H⟩:=H
 try dsimp only at H
 have A6:=Z A60
 clear A60
 by_cases c7:t684=0
 ·rw [if_pos c7] at H
  have c7b0:(t684 == 0)=true:=beq_iff_eq.mpr c7
  have c7b1:(t684 != 0)=false:=bne_eq_false_iff_eq.mpr c7
  clear c7
  by_cases c8:t691=0
  ·rw [if_pos c8] at H
   have c8b0:(t691 == 0)=true:=beq_iff_eq.mpr c8
   have c8b1:(t691 != 0)=false:=bne_eq_false_iff_eq.mpr c8
   clear c8
   by_cases c9:t697=0
   ·rw [if_pos c9] at H
    have c9b0:(t697 == 0)=true:=beq_iff_eq.mpr c9
    have c9b1:(t697 != 0)=false:=bne_eq_false_iff_eq.mpr c9
    clear c9
    obtain ⟨y698,hy698⟩:∃ y_:List Int,y_=(([3,5,6,9,10,12]:List Int)):=⟨_,rfl⟩
    first|rw [← hy698] at H|(replace H:=(Option.bind_some _ _).symm.trans H;rw [← hy698] at H)
    have Ny698:=Z hy698
    clear hy698
    replace H:=pO H
    obtain ⟨t701,A100,H⟩:=H
    try dsimp only at H
    have A10:=Z A100
    clear A100
    by_cases c11:t701=true
    ·subst c11
     rw [if_pos rfl] at H
     replace H:=pO H
     obtain ⟨t702,A120,H⟩:=H
     try dsimp only at H
     have A12:=Z A120
     clear A120
     by_cases c13:t702=true
     ·subst c13
      rw [if_pos rfl] at H
      by_cases c14:t695=1
      ·rw [if_pos c14] at H
       have c14b0:(t695 == 1)=true:=beq_iff_eq.mpr c14
       have c14b1:(t695 != 1)=false:=bne_eq_false_iff_eq.mpr c14
       clear c14
       have HT:=Z (Option.some.inj H)
       clear H
       go_enter Tryz.func38,Tryz.ntmps38
       go_wp2_with (first|((with_reducible refine gate_callee (f:=111) rfl ?_);refine goesL_ (some 9) rfl rfl Tryz.func111 pU rfl #[.int .i64 4,.int .i64 3] rfl pG ?_;(with_reducible refine (qlaw16_same.calls k 4 3 t678 _ A1.out).mono ?_);rintro e w15 ⟨v679,rfl,ho0,hb⟩;refine ⟨_,rfl,?_⟩;have HO680:=Z (Kd.R_lower ho0 (below_size pB));have n1_:=Z (below_step pB hb);clear HB;have HB:=n1_;clear n1_;(try clear hb);(try clear hb2);(try clear hk);(try clear hi);(try clear ho0);obtain ⟨Ao16,co16,eo16⟩:=Kd.R_slice HO680.out;subst eo16)|((with_reducible refine gate_callee (f:=48) rfl ?_);refine goesL_ (some 10) rfl rfl Tryz.func48 pU rfl #[.agg #[.slice Ao16 t678.length co16]] rfl pG ?_;(with_reducible refine (danger_Splitting.calls k _ _ t678 t681 t684 _ ?side1 ?side2 A2.out).mono ?_);(case side1=>repeat (first|exact (Kd.R_reads' HO680.out).2.2|(with_reducible refine Kd.C_alloc ?_ _)|(with_reducible refine Kd.C_drewN ?_ _)|(with_reducible refine Kd.C_drew ?_)));(case side2=>exact (Kd.R_reads' HO680.out).2.1);rintro e w17 ⟨v682,rfl,ho0,hb⟩;refine ⟨_,rfl,?_⟩;replace HO680:=Z (Kd.R_elder' (pR HO680) (Kd.R_base ho0) hb);have HO683:=Z (Kd.R_lower ho0 (below_size pB));have n2_:=Z (below_step pB hb);clear HB;have HB:=n2_;clear n2_;(try clear hb);(try clear hb2);(try clear hk);(try clear hi);(try clear ho0))|((with_reducible refine gate_callee (f:=111) rfl ?_);refine goesL_ (some 14) rfl rfl Tryz.func111 pU rfl #[.int .i64 4,.int .i64 3] rfl pG ?_;(with_reducible refine (qlaw16_same.calls k 4 3 t685 _ A3.out).mono ?_);rintro e w18 ⟨v686,rfl,ho0,hb⟩;refine ⟨_,rfl,?_⟩;have n0_:=Z (Kd.R_elder' (pR HO680) (Kd.R_base ho0) hb);have n1_:=Z (Kd.R_below (pR HO683) hb);have HO687:=Z (Kd.R_lower (Kd.R_new' (Kd.R_new' ho0 (Kd.R_lt (pR HO680))) (Kd.R_lt (pR HO683))) (below_size pB));have n3_:=Z (below_step pB hb);clear HO680 HO683 HB;have HO680:=n0_;have HO683:=n1_;have HB:=n3_;clear n0_ n1_ n3_;(try clear hb);(try clear hb2);(try clear hk);(try clear hi);(try clear ho0);obtain ⟨Ao19,co19,eo19⟩:=Kd.R_slice HO687.out;subst eo19)|((with_reducible refine gate_callee (f:=34) rfl ?_);refine goesL_ (some 15) rfl rfl Tryz.func34 pU rfl #[.agg #[.slice Ao19 t685.length co19]] rfl pG ?_;(with_reducible refine (danger_Halting.calls k _ _ t685 t688 t691 _ ?side1 ?side2 A4.out).mono ?_);(case side1=>repeat (first|exact (Kd.R_reads' HO687.out).2.2|(with_reducible refine Kd.C_alloc ?_ _)|(with_reducible refine Kd.C_drewN ?_ _)|(with_reducible refine Kd.C_drew ?_)));(case side2=>exact (Kd.R_reads' HO687.out).2.1);rintro e w20 ⟨v689,rfl,ho0,hb⟩;refine ⟨_,rfl,?_⟩;replace HO680:=Z (Kd.R_elder' (pR HO680) (Kd.R_base ho0) hb);have n1_:=Z (Kd.R_elder' (pR HO683) (Kd.R_base ho0) hb);replace HO687:=Z (Kd.R_elder' (pR HO687) (Kd.R_base ho0) hb);have HO690:=Z (Kd.R_lower (Kd.R_new' ho0 (Kd.R_lt (pR HO683))) (below_size pB));have n4_:=Z (below_step pB hb);clear HO683 HB;have HO683:=n1_;have HB:=n4_;clear n1_ n4_;(try clear hb);(try clear hb2);(try clear hk);(try clear hi);(try clear ho0))|((with_reducible refine gate_callee (f:=111) rfl ?_);refine goesL_ (some 19) rfl rfl Tryz.func111 pU rfl #[.int .i64 4,.int .i64 3] rfl pG ?_;(with_reducible refine (qlaw16_same.calls k 4 3 t692 _ A5.out).mono ?_);rintro e w21 ⟨v693,rfl,ho0,hb⟩;refine ⟨_,rfl,?_⟩;have n0_:=Z (Kd.R_elder' (pR HO680) (Kd.R_base ho0) hb);have n1_:=Z (Kd.R_below (pR HO683) hb);have n2_:=Z (Kd.R_elder' (pR HO687) (Kd.R_base ho0) hb);have n3_:=Z (Kd.R_below (pR HO690) hb);have HO694:=Z (Kd.R_lower (Kd.R_new' (Kd.R_new' (Kd.R_new' (Kd.R_new' ho0 (Kd.R_lt (pR HO680))) (Kd.R_lt (pR HO683))) (Kd.R_lt (pR HO687))) (Kd.R_lt (pR HO690))) (below_size pB));have n5_:=Z (below_step pB hb);clear HO680 HO683 HO687 HO690 HB;have HO680:=n0_;have HO683:=n1_;have HO687:=n2_;have HO690:=n3_;have HB:=n5_;clear n0_ n1_ n2_ n3_ n5_;(try clear hb);(try clear hb2);(try clear hk);(try clear hi);(try clear ho0);obtain ⟨Ao22,co22,eo22⟩:=Kd.R_slice HO694.out;subst eo22)|((with_reducible refine gate_callee (f:=51) rfl ?_);refine goesL_ (some 20) rfl rfl Tryz.func51 pU rfl #[.agg #[.slice Ao22 t692.length co22]] rfl pG ?_;(with_reducible refine (danger_Tolerates.calls k _ _ t692 t695 t696 t697 _ ?side1 ?side2 A6.out).mono ?_);(case side1=>repeat (first|exact (Kd.R_reads' HO694.out).2.2|(with_reducible refine Kd.C_alloc ?_ _)|(with_reducible refine Kd.C_drewN ?_ _)|(with_reducible refine Kd.C_drew ?_)));(case side2=>exact (Kd.R_reads' HO694.out).2.1);rintro e w23 ⟨rfl,hb⟩;refine ⟨_,rfl,?_⟩;replace HO680:=Z (Kd.R_below (pR HO680) hb);replace HO683:=Z (Kd.R_below (pR HO683) hb);replace HO687:=Z (Kd.R_below (pR HO687) hb);replace HO690:=Z (Kd.R_below (pR HO690) hb);replace HO694:=Z (Kd.R_below (pR HO694) hb);have n5_:=Z (below_step pB hb);clear HB;have HB:=n5_;clear n5_;(try clear hb);(try clear hb2);(try clear hk);(try clear hi))|((with_reducible refine gate_dst (N:=36) rfl ?_);(try (refine gate_guard (by rfl) ?_;dsimp only));refine Kd.R_lit (Kd.int .i64) _ 3 ?hg (N:=36) ?hd (xs:=([3,5,6,9,10,12]:List Int)) (inner:=[.int .i64 3,.int .i64 5,.int .i64 6,.int .i64 9,.int .i64 10,.int .i64 12]) (ok:=fun _=>True) (okp:=fun _=>True) ?hr ?hp (fun _ hk=>hk) trivial (Below.refl _ _) (Nat.le_refl _) (by simp) ?_;(case hd=>rfl);(case hg=>rfl);(case hr=>first|(go_simp;done)|(go_simp;rfl));(case hp=>exact (Reps.one (show Kd.M (Kd.int .i64) _ _ _ 3 [.int .i64 3] from rfl) (Reps.one (show Kd.M (Kd.int .i64) _ _ _ 5 [.int .i64 5] from rfl) (Reps.one (show Kd.M (Kd.int .i64) _ _ _ 6 [.int .i64 6] from rfl) (Reps.one (show Kd.M (Kd.int .i64) _ _ _ 9 [.int .i64 9] from rfl) (Reps.one (show Kd.M (Kd.int .i64) _ _ _ 10 [.int .i64 10] from rfl) (Reps.one (show Kd.M (Kd.int .i64) _ _ _ 12 [.int .i64 12] from rfl) (Reps.none _ _))))))));intro v699 w24 ho25 hb hg_ hnew_;clear hg_ hnew_;(first|rw [← Ny698.out] at ho25|(simp only [Int.reduceToNat] at ho25;rw [← Ny698.out] at ho25));replace HO680:=Z (Kd.R_elder' (pR HO680) (Kd.R_base ho25) hb);have n1_:=Z (Kd.R_elder' (pR HO683) (Kd.R_base ho25) hb);replace HO687:=Z (Kd.R_elder' (pR HO687) (Kd.R_base ho25) hb);have n3_:=Z (Kd.R_elder' (pR HO690) (Kd.R_base ho25) hb);replace HO694:=Z (Kd.R_elder' (pR HO694) (Kd.R_base ho25) hb);have HO700:=Z (Kd.R_lower (Kd.R_new' (Kd.R_new' ho25 (Kd.R_lt (pR HO683))) (Kd.R_lt (pR HO690))) (below_size pB));have n6_:=Z (below_step pB hb);clear HO683 HO690 HB;have HO683:=n1_;have HO690:=n3_;have HB:=n6_;clear n1_ n3_ n6_ hb ho25;obtain ⟨Ao26,co26,eo26⟩:=Kd.R_slice HO683.out;subst eo26;obtain ⟨Ao27,co27,eo27⟩:=Kd.R_slice HO700.out;subst eo27)|(go_at_call 33;(with_reducible refine (qmake_Ints.calls k _ _ t681 _ _ y698 true _ ?side1 ?side2 ?side3 ?side4 A10.out).mono ?_);(case side1=>repeat (first|exact (Kd.R_reads' HO683.out).2.2|(with_reducible refine Kd.C_alloc ?_ _)|(with_reducible refine Kd.C_drewN ?_ _)|(with_reducible refine Kd.C_drew ?_)));(case side2=>exact (Kd.R_reads' HO683.out).2.1);(case side3=>repeat (first|exact (Kd.R_reads' HO700.out).2.2|(with_reducible refine Kd.C_alloc ?_ _)|(with_reducible refine Kd.C_drewN ?_ _)|(with_reducible refine Kd.C_drew ?_)));(case side4=>exact (Kd.R_reads' HO700.out).2.1);rintro e w' ⟨rfl,⟨nd,rfl⟩⟩;obtain ⟨Ao28,co28,eo28⟩:=Kd.R_slice HO690.out;subst eo28)|(go_at_call 33;(with_reducible refine (qmake_Ints.calls k _ _ t688 _ _ t681 true _ ?side1 ?side2 ?side3 ?side4 A12.out).mono ?_);(case side1=>repeat (first|exact (Kd.R_reads' HO690.out).2.2|(with_reducible refine Kd.C_alloc ?_ _)|(with_reducible refine Kd.C_drewN ?_ _)|(with_reducible refine Kd.C_drew ?_)));(case side2=>exact (Kd.R_reads' HO690.out).2.1);(case side3=>repeat (first|exact (Kd.R_reads' HO683.out).2.2|(with_reducible refine Kd.C_alloc ?_ _)|(with_reducible refine Kd.C_drewN ?_ _)|(with_reducible refine Kd.C_drew ?_)));(case side4=>exact (Kd.R_reads' HO683.out).2.1);rintro e w' ⟨rfl,⟨nd,rfl⟩⟩))
       go_ret
       exact ⟨by first|rfl|exact congrArg (fun b_:Bool=>Ending.returned (Value.bool b_)) HT.out|(simp [errW_none,errW_some] <;> rfl)|(simp [*,errW_none,errW_some] <;> rfl),pB⟩
      ·rw [if_neg c14] at H
       have c14b0:(t695 == 1)=false:=beq_eq_false_iff_ne.mpr c14
       have c14b1:(t695 != 1)=true:=bne_iff_ne.mpr c14
       exact absurd H (by simp)
     ·replace c13:=Bool.eq_false_iff.mpr c13
      subst c13
      rw [if_neg (show ¬ (false=true) by decide)] at H
      exact absurd H (by simp)
    ·replace c11:=Bool.eq_false_iff.mpr c11
     subst c11
     rw [if_neg (show ¬ (false=true) by decide)] at H
     exact absurd H (by simp)
   ·rw [if_neg c9] at H
    have c9b0:(t697 == 0)=false:=beq_eq_false_iff_ne.mpr c9
    have c9b1:(t697 != 0)=true:=bne_iff_ne.mpr c9
    exact absurd H (by simp)
  ·rw [if_neg c8] at H
   have c8b0:(t691 == 0)=false:=beq_eq_false_iff_ne.mpr c8
   have c8b1:(t691 != 0)=true:=bne_iff_ne.mpr c8
   exact absurd H (by simp)
 ·rw [if_neg c7] at H
  have c7b0:(t684 == 0)=false:=beq_eq_false_iff_ne.mpr c7
  have c7b1:(t684 != 0)=true:=bne_iff_ne.mpr c7
  exact absurd H (by simp)
mutual
def qlaw16_DangerHalting.j0:Nat→List Int→Bool→List Int→Int→List (S92)→Option (Bool)
 | 0,_,_,_,_,_=>none
 | k+1,x5,x51,x706000,x706001,x711000=>if x51=true then (some false) else (qlaw16_DangerHalting.l0 k x5 0 x706000 x706001 x711000)
def qlaw16_DangerHalting.l0:Nat→List Int→Int→List Int→Int→List (S92)→Option (Bool)
 | 0,_,_,_,_,_=>none
 | k+1,x5,x11,x706000,x706001,x711000=>if x11 < 20 then ((qmake_Tape_N.f x706000 x706001 (shl .i64 1 (x711000.length:Int))).bind fun bt725=>(qlaw16_DangerHalting.l1 k x5 x11 bt725.1 false x5 (x5.length:Int) 0 x706000 bt725.2 x711000)) else ((qlaw16_awake.f k).bind fun t724=>(some t724))
def qlaw16_DangerHalting.l1:Nat→List Int→Int→Int→Bool→List Int→Int→Int→List Int→Int→List (S92)→Option (Bool)
 | 0,_,_,_,_,_,_,_,_,_,_=>none
 | k+1,x5,x11,x12,x13,x62,x63,x64,x706000,x706001,x711000=>if x64 < x63 then (if 0≤x64 then (if x64 < (x62.length:Int) then (if x13=true then (qlaw16_DangerHalting.l1 k x5 x11 x12 true x62 x63 (wrap64 (x64+1)) x706000 x706001 x711000) else (qlaw16_DangerHalting.l1 k x5 x11 x12 ((Go.bits .and .i64 x12 (rd x62 x64)) == (rd x62 x64)) x62 x63 (wrap64 (x64+1)) x706000 x706001 x711000)) else (none)) else (none)) else ((danger_Halts.f k x711000 x12).bind fun bt728=>(if bt728.2=0 then (if (bt728.1 != x13)=true then (some false) else (qlaw16_DangerHalting.l0 k x5 (wrap64 (x11+1)) x706000 x706001 x711000)) else (some false)))
end
def qlaw16_DangerHalting.f (k:Nat) (l0:List Int):Option (Bool):=(qmake_New.f l0).bind fun bt703=>((qmake_Config.f k bt703.1 bt703.2 8).bind fun bt706=>((danger_Halting.f k bt706.1).bind fun bt711=>((qref10_Minimal.f k bt706.1).bind fun bt715=>((qref01_Meeting.f k bt715.1 (bt706.1.length:Int)).bind fun bt719=>(if bt711.2=0 then (if bt719.2=0 then ((qmake_Ints.f k bt711.1 bt719.1).bind fun t723=>(qlaw16_DangerHalting.j0 k bt711.1 (!t723) bt703.1 bt706.2 bt706.1)) else (qlaw16_DangerHalting.j0 k bt711.1 true bt703.1 bt706.2 bt706.1)) else (qlaw16_DangerHalting.j0 k bt711.1 true bt703.1 bt706.2 bt706.1))))))
set_option maxHeartbeats 8000000 in
set_option maxRecDepth 100000 in
theorem qlaw16_DangerHalting.calls (k:Nat) (A0:Option Addr) (c0:Nat) (l0:List Int) (w:World) (hr0:Kd.C (Kd.int .i64) w A0 l0.length l0) (hc0:l0.length≤c0) (h:qlaw16_DangerHalting.f k l0=some true) :
  Calls Tryz.prog 4 #[.slice A0 l0.length c0] w fun e w'=>e=.returned (.bool true)∧Below w.heap.size w w':=by
 have hu25:=Tryz.underlying25
 have HR0:=Z hr0
 have HC0:=Z hc0
 clear hr0 hc0
 have HB:=Z (Below.refl w.heap.size w)
 have H:((qmake_New.f l0).bind fun bt703=>((qmake_Config.f k bt703.1 bt703.2 8).bind fun bt706=>((danger_Halting.f k bt706.1).bind fun bt711=>((qref10_Minimal.f k bt706.1).bind fun bt715=>((qref01_Meeting.f k bt715.1 (bt706.1.length:Int)).bind fun bt719=>(if bt711.2=0 then (if bt719.2=0 then ((qmake_Ints.f k bt711.1 bt719.1).bind fun t723=>(qlaw16_DangerHalting.j0 k bt711.1 (!t723) bt703.1 bt706.2 bt706.1)) else (qlaw16_DangerHalting.j0 k bt711.1 true bt703.1 bt706.2 bt706.1)) else (qlaw16_DangerHalting.j0 k bt711.1 true bt703.1 bt706.2 bt706.1)))))))=some true:=h
 clear h
 replace H:=pO H
 obtain ⟨⟨t703,t704⟩,A20,H⟩:=H
 try dsimp only at H
 have A2:=Z A20
 clear A20
 replace H:=pO H
 obtain ⟨⟨t706,t709⟩,A30,H⟩:=H
 try dsimp only at H
 have A3:=Z A30
 clear A30
 replace H:=pO H
 obtain ⟨⟨t711,t714⟩,A40,H⟩:=H
 try dsimp only at H
 have A4:=Z A40
 clear A40
 replace H:=pO H
 obtain ⟨⟨t715,t718⟩,A50,H⟩:=H
 try dsimp only at H
 have A5:=Z A50
 clear A50
 replace H:=pO H
 obtain ⟨⟨t719,t720⟩,A60,H⟩:=H
 try dsimp only at H
 have A6:=Z A60
 clear A60
 have HC7:=Z H
 clear H
 go_enter Tryz.func4,Tryz.ntmps4
 go_upto_region 6 with (first|((with_reducible refine gate_callee (f:=20) rfl ?_);refine goesL_ (some 19) rfl rfl Tryz.func20 pU rfl #[.slice A0 l0.length c0] rfl pG ?_;(with_reducible refine (qmake_New.calls _ _ l0 t703 t704 w _ ?side1 ?side2 ?side3 A2.out).mono ?_);(case side1=>exact pB);(case side2=>exact HR0.out);(case side3=>exact HC0.out);rintro e w8 ⟨g705,rfl,hi,hb,hb2⟩;refine ⟨_,rfl,?_⟩;have n0_:=Z (hb);have HI705:=Z (hi);clear HB;have HB:=n0_;clear n0_;(try clear hb);(try clear hb2);(try clear hk);(try clear hi))|((with_reducible refine gate_callee (f:=21) rfl ?_);refine goesL_ (some 21) rfl rfl Tryz.func21 pU rfl #[.pointer (some ⟨g705,0,none⟩),.int .i64 8] rfl pG ?_;(with_reducible refine (qmake_Config.calls k g705 t703 t704 8 t706 t709 w _ ?side1 ?side2 A3.out).mono ?_);(case side1=>repeat (first|(with_reducible first|exact HI705.out|apply IsS95.alloc|apply IsS95.drewN|apply IsS95.drew|apply IsS95.set_1)|exact HI705.out));(case side2=>repeat (first|(with_reducible first|exact HB.out|apply wA|apply wN|apply wD|refine wS ?_ (IsS95.ge HI705.out))|exact HB.out));rintro e w9 ⟨v707,rfl,ho0,hi,hb,hk⟩;refine ⟨_,rfl,?_⟩;have HO708:=Z (Kd.R_lower ho0 (below_size (by repeat (first|(with_reducible first|exact HB.out|apply wA|apply wN|apply wD|refine wS ?_ (IsS95.ge HI705.out))|exact HB.out))));have n1_:=Z (hb);replace HI705:=Z (hi);clear HB;have HB:=n1_;clear n1_;(try clear hb);(try clear hb2);(try clear hk);(try clear hi);(try clear ho0))|((with_reducible refine gate_dst (N:=4) rfl ?_);refine box_event ?hg (N:=4) ?hd (cs:=#[.slice none 0 0]) (t:=25) ?hr ?_;(case hd=>rfl);(case hg=>rfl);(case hr=>first|(go_simp;done)|(go_simp;rfl));intro gb710 hg w10 hbox hb;replace HO708:=Z (Kd.R_below (pR HO708) hb);have n1_:=Z (IsS95.below (by repeat (first|(with_reducible first|exact HI705.out|apply IsS95.alloc|apply IsS95.drewN|apply IsS95.drew|apply IsS95.set_1)|exact HI705.out)) hb);have n2_:=Z (below_step (by repeat (first|(with_reducible first|exact HB.out|apply wA|apply wN|apply wD|refine wS ?_ (IsS95.ge HI705.out))|exact HB.out)) hb);have BK710:=Z (hbox);have GW710:=Z ((by rw [hg];exact (below_size (by repeat (first|(with_reducible first|exact HB.out|apply wA|apply wN|apply wD|refine wS ?_ (IsS95.ge HI705.out))|exact HB.out))):w.heap.size≤gb710));have GE710:=Z ((by rw [hg];exact (below_size (by repeat (first|(with_reducible first|exact HB.out|apply wA|apply wN|apply wD|refine wS ?_ (IsS95.ge HI705.out))|exact HB.out))):w.heap.size≤gb710));have NB705_710:=Z ((by rw [hg];exact Nat.ne_of_lt (IsS95.lt (show IsS95 w _ g705 t703 t709 from by repeat (first|(with_reducible first|exact HI705.out|apply IsS95.alloc|apply IsS95.drewN|apply IsS95.drew|apply IsS95.set_1)|exact HI705.out))):g705 ≠ gb710));have NB710_705:=Z ((by rw [hg];exact Nat.ne_of_gt (IsS95.lt (show IsS95 w _ g705 t703 t709 from by repeat (first|(with_reducible first|exact HI705.out|apply IsS95.alloc|apply IsS95.drewN|apply IsS95.drew|apply IsS95.set_1)|exact HI705.out))):gb710 ≠ g705));clear HI705 HB;have HI705:=n1_;have HB:=n2_;clear n1_ n2_ hb hbox hg;obtain ⟨Ao11,co11,eo11⟩:=Kd.R_slice HO708.out;subst eo11;have hnb12:=NB710_705.out;have hnc12:=NB705_710.out;obtain ⟨hcz13_0,hfz13_0⟩:=p1 BK710)|((with_reducible refine gate_callee (f:=34) rfl ?_);refine goesL_ (some 24) rfl rfl Tryz.func34 pU rfl #[.agg #[.slice Ao11 t706.length co11]] rfl pG ?_;(with_reducible refine (danger_Halting.calls k _ _ t706 t711 t714 _ ?side1 ?side2 A4.out).mono ?_);(case side1=>refine (Kd.R_reads' (e:=92) (base:=w.heap.size) (ok:=fun k_=>True) (n:=t706.length) (c:=co11) ?_).2.2;exact (by refine pP ?_;exact (Kd.R_mono (Kd.R_far (p:=⟨gb710,0,none⟩) (Kd.R_types HO708.out BK710.out (by decide)) (fun _ hk=>hk.2) (.slice Ao11 t706.length co11)) (fun _ h_=>h_.1))));(case side2=>exact (Kd.R_reads' HO708.out).2.1);rintro e w14 ⟨v712,rfl,ho0,hb⟩;refine ⟨_,rfl,?_⟩;replace HO708:=Z (Kd.R_elder' (by refine pP ?_;exact (Kd.R_mono (Kd.R_far (p:=⟨gb710,0,none⟩) (Kd.R_types HO708.out BK710.out (by decide)) (fun _ hk=>hk.2) (.slice Ao11 t706.length co11)) (fun _ h_=>h_.1))) (Kd.R_base ho0) hb);have HO713:=Z (Kd.R_lower ho0 (below_size (by repeat (first|(with_reducible first|exact HB.out|apply wA|apply wN|apply wD|refine wS ?_ (IsS95.ge HI705.out)|refine wS ?_ GE710.out)|exact HB.out))));have n2_:=Z (IsS95.below (show IsS95 w (w10.setCell ⟨gb710,0,none⟩ (.slice Ao11 t706.length co11)) g705 t703 t709 from by repeat (first|(with_reducible first|exact HI705.out|apply IsS95.alloc|apply IsS95.drewN|apply IsS95.drew|apply IsS95.set_1|refine IsS95.far ?_ NB705_710.out _)|exact HI705.out)) hb);replace BK710:=Z (blk_below (g:=gb710) (o:=.cells #[.slice Ao11 t706.length co11] 25 (0,0)) (by refine pQ ?_;refine blk_put (cs:=#[.slice none 0 0]) ?_ 0 _ rfl;exact pK BK710) hb);have n4_:=Z (below_step (by repeat (first|(with_reducible first|exact HB.out|apply wA|apply wN|apply wD|refine wS ?_ (IsS95.ge HI705.out)|refine wS ?_ GE710.out)|exact HB.out)) hb);clear HI705 HB;have HI705:=n2_;have HB:=n4_;clear n2_ n4_;(try clear hb);(try clear hb2);(try clear hk);(try clear hi);(try clear ho0);obtain ⟨hcz15_0,hfz15_0⟩:=p1 BK710)|((with_reducible refine gate_callee (f:=24) rfl ?_);refine goesL_ (some 29) rfl rfl Tryz.func24 pU rfl #[.agg #[.slice Ao11 t706.length co11]] rfl pG ?_;(with_reducible refine (qref10_Minimal.calls k _ _ t706 t715 t718 _ ?side1 ?side2 A5.out).mono ?_);(case side1=>repeat (first|exact (Kd.R_reads' HO708.out).2.2|(with_reducible refine Kd.C_alloc ?_ _)|(with_reducible refine Kd.C_drewN ?_ _)|(with_reducible refine Kd.C_drew ?_)));(case side2=>exact (Kd.R_reads' HO708.out).2.1);rintro e w16 ⟨v716,rfl,ho0,hb⟩;refine ⟨_,rfl,?_⟩;replace HO708:=Z (Kd.R_elder' (pR HO708) (Kd.R_base ho0) hb);have n1_:=Z (Kd.R_elder' (pR HO713) (Kd.R_base ho0) hb);have HO717:=Z (Kd.R_lower (Kd.R_new' ho0 (Kd.R_lt (pR HO713))) (below_size (by repeat (first|(with_reducible first|exact HB.out|apply wA|apply wN|apply wD|refine wS ?_ (IsS95.ge HI705.out)|refine wS ?_ GE710.out)|exact HB.out))));have n3_:=Z (IsS95.below (by repeat (first|(with_reducible first|exact HI705.out|apply IsS95.alloc|apply IsS95.drewN|apply IsS95.drew|apply IsS95.set_1|refine IsS95.far ?_ NB705_710.out _)|exact HI705.out)) hb);replace BK710:=Z (blk_below (g:=gb710) (o:=.cells #[.slice Ao11 t706.length co11] 25 (0,0)) (pK BK710) hb);have n5_:=Z (below_step (by repeat (first|(with_reducible first|exact HB.out|apply wA|apply wN|apply wD|refine wS ?_ (IsS95.ge HI705.out)|refine wS ?_ GE710.out)|exact HB.out)) hb);clear HO713 HI705 HB;have HO713:=n1_;have HI705:=n3_;have HB:=n5_;clear n1_ n3_ n5_;(try clear hb);(try clear hb2);(try clear hk);(try clear hi);(try clear ho0);obtain ⟨hcz17_0,hfz17_0⟩:=p1 BK710;obtain ⟨Ao18,co18,eo18⟩:=Kd.R_slice HO717.out;subst eo18)|((with_reducible refine gate_callee (f:=35) rfl ?_);refine goesL_ (some 37) rfl rfl Tryz.func35 pU rfl #[.slice Ao18 t715.length co18,.int .i64 (t706.length:Int)] rfl pG ?_;(with_reducible refine (qref01_Meeting.calls k _ _ t715 (t706.length:Int) t719 t720 _ ?side1 ?side2 A6.out).mono ?_);(case side1=>repeat (first|exact (Kd.R_reads' HO717.out).2.2|(with_reducible refine Kd.C_alloc ?_ _)|(with_reducible refine Kd.C_drewN ?_ _)|(with_reducible refine Kd.C_drew ?_)));(case side2=>exact (Kd.R_reads' HO717.out).2.1);rintro e w19 ⟨v721,rfl,ho0,hb⟩;refine ⟨_,rfl,?_⟩;replace HO708:=Z (Kd.R_elder' (pR HO708) (Kd.R_base ho0) hb);have n1_:=Z (Kd.R_elder' (pR HO713) (Kd.R_base ho0) hb);have n2_:=Z (Kd.R_elder' (pR HO717) (Kd.R_base ho0) hb);have HO722:=Z (Kd.R_lower (Kd.R_new' (Kd.R_new' ho0 (Kd.R_lt (pR HO713))) (Kd.R_lt (pR HO717))) (below_size (by repeat (first|(with_reducible first|exact HB.out|apply wA|apply wN|apply wD|refine wS ?_ (IsS95.ge HI705.out)|refine wS ?_ GE710.out)|exact HB.out))));have n4_:=Z (IsS95.below (by repeat (first|(with_reducible first|exact HI705.out|apply IsS95.alloc|apply IsS95.drewN|apply IsS95.drew|apply IsS95.set_1|refine IsS95.far ?_ NB705_710.out _)|exact HI705.out)) hb);replace BK710:=Z (blk_below (g:=gb710) (o:=.cells #[.slice Ao11 t706.length co11] 25 (0,0)) (pK BK710) hb);have n6_:=Z (below_step (by repeat (first|(with_reducible first|exact HB.out|apply wA|apply wN|apply wD|refine wS ?_ (IsS95.ge HI705.out)|refine wS ?_ GE710.out)|exact HB.out)) hb);clear HO713 HO717 HI705 HB;have HO713:=n1_;have HO717:=n2_;have HI705:=n4_;have HB:=n6_;clear n1_ n2_ n4_ n6_;(try clear hb);(try clear hb2);(try clear hk);(try clear hi);(try clear ho0)))
 (try simp only [Act.put,List.setIfInBounds_toArray,List.set_cons_zero,List.set_cons_succ])
 go_cut [51] (fun v51 wc=>∃ (kq:Nat) (x51_6:Bool),v51=.bool x51_6∧Aside0 (qlaw16_DangerHalting.j0 kq t711 x51_6 t703 t709 t706=some true)∧Aside0 (kq≤k)∧Aside0 (Kd.R (Kd.int .i64) 3 wc w.heap.size (fun _=>True) v712 t711)∧Aside0 (Kd.R k92 92 wc w.heap.size (fun k_=>some k_ ≠ (v712:Value).ownBlock) (.slice Ao11 t706.length co11) t706)∧Aside0 (wc.heap[gb710]?=some (.cells #[(.slice Ao11 t706.length co11)] 25 (0,0)))∧Aside0 (IsS95 w wc g705 t703 t709)∧Aside0 (Below w.heap.size w wc))
 case first =>
  have H:=HC7.out
  clear HC7
  by_cases c20:t714=0
  ·rw [if_pos c20] at H
   have c20b0:(t714 == 0)=true:=beq_iff_eq.mpr c20
   have c20b1:(t714 != 0)=false:=bne_eq_false_iff_eq.mpr c20
   clear c20
   (first|rw [c20b0]|(simp only [i64_w,i32_w];rw [c20b0])|skip)
   by_cases c21:t720=0
   ·rw [if_pos c21] at H
    have c21b0:(t720 == 0)=true:=beq_iff_eq.mpr c21
    have c21b1:(t720 != 0)=false:=bne_eq_false_iff_eq.mpr c21
    clear c21
    replace H:=pO H
    obtain ⟨t723,A220,H⟩:=H
    try dsimp only at H
    have A22:=Z A220
    clear A220
    have H':=Z H
    clear H
    obtain ⟨Ao23,co23,eo23⟩:=Kd.R_slice HO713.out
    subst eo23
    obtain ⟨Ao24,co24,eo24⟩:=Kd.R_slice HO722.out
    subst eo24
    go_wp2_with (first|(go_at_call 33;(with_reducible refine (qmake_Ints.calls k _ _ t711 _ _ t719 t723 _ ?side1 ?side2 ?side3 ?side4 A22.out).mono ?_);(case side1=>repeat (first|exact (Kd.R_reads' HO713.out).2.2|(with_reducible refine Kd.C_alloc ?_ _)|(with_reducible refine Kd.C_drewN ?_ _)|(with_reducible refine Kd.C_drew ?_)));(case side2=>exact (Kd.R_reads' HO713.out).2.1);(case side3=>repeat (first|exact (Kd.R_reads' HO722.out).2.2|(with_reducible refine Kd.C_alloc ?_ _)|(with_reducible refine Kd.C_drewN ?_ _)|(with_reducible refine Kd.C_drew ?_)));(case side4=>exact (Kd.R_reads' HO722.out).2.1);rintro e w' ⟨rfl,⟨nd,rfl⟩⟩))
    go_meet
    case rel=>exact ⟨_,(!t723),pE,H',⟨by first|omega|exact Nat.le_refl _⟩,⟨by refine pP ?_;exact Kd.R_mono HO713.out (fun _ hk=>trivial)⟩,⟨by refine pP ?_;exact Kd.R_mono HO708.out (fun _ hk=>hk.1.1.2)⟩,⟨pK BK710⟩,⟨by repeat (first|(with_reducible first|exact HI705.out|apply IsS95.alloc|apply IsS95.drewN|apply IsS95.drew|apply IsS95.set_1|refine IsS95.far ?_ NB705_710.out _)|exact HI705.out)⟩,⟨by repeat (first|(with_reducible first|exact HB.out|apply wA|apply wN|apply wD|refine wS ?_ (IsS95.ge HI705.out)|refine wS ?_ GE710.out)|exact HB.out)⟩⟩
   ·rw [if_neg c21] at H
    have c21b0:(t720 == 0)=false:=beq_eq_false_iff_ne.mpr c21
    have c21b1:(t720 != 0)=true:=bne_iff_ne.mpr c21
    have H':=Z H
    clear H
    go_wp2
    go_meet
    case rel=>exact ⟨_,(true),pE,H',⟨by first|omega|exact Nat.le_refl _⟩,⟨by refine pP ?_;exact Kd.R_mono HO713.out (fun _ hk=>trivial)⟩,⟨by refine pP ?_;exact Kd.R_mono HO708.out (fun _ hk=>hk.1.1.2)⟩,⟨pK BK710⟩,⟨by repeat (first|(with_reducible first|exact HI705.out|apply IsS95.alloc|apply IsS95.drewN|apply IsS95.drew|apply IsS95.set_1|refine IsS95.far ?_ NB705_710.out _)|exact HI705.out)⟩,⟨by repeat (first|(with_reducible first|exact HB.out|apply wA|apply wN|apply wD|refine wS ?_ (IsS95.ge HI705.out)|refine wS ?_ GE710.out)|exact HB.out)⟩⟩
  ·rw [if_neg c20] at H
   have c20b0:(t714 == 0)=false:=beq_eq_false_iff_ne.mpr c20
   have c20b1:(t714 != 0)=true:=bne_iff_ne.mpr c20
   (first|rw [c20b0]|(simp only [i64_w,i32_w];rw [c20b0])|skip)
   have H':=Z H
   clear H
   go_wp2
   go_meet
   case rel=>exact ⟨_,(true),pE,H',⟨by first|omega|exact Nat.le_refl _⟩,⟨by refine pP ?_;exact Kd.R_mono HO713.out (fun _ hk=>trivial)⟩,⟨by refine pP ?_;exact Kd.R_mono HO708.out (fun _ hk=>hk.1.1.2)⟩,⟨pK BK710⟩,⟨by repeat (first|(with_reducible first|exact HI705.out|apply IsS95.alloc|apply IsS95.drewN|apply IsS95.drew|apply IsS95.set_1|refine IsS95.far ?_ NB705_710.out _)|exact HI705.out)⟩,⟨by repeat (first|(with_reducible first|exact HB.out|apply wA|apply wN|apply wD|refine wS ?_ (IsS95.ge HI705.out)|refine wS ?_ GE710.out)|exact HB.out)⟩⟩
 case rest =>
  clear HC7
  try clear c1
  try clear c2
  try clear p2
  try clear c3
  try clear c4
  try clear c12
  try clear c20
  try clear c20b0
  try clear c20b1
  try clear c21
  try clear c21b0
  try clear c21b1
  try clear c24
  try clear hcz13_0
  try clear hcz15_0
  try clear hcz17_0
  try clear hfz13_0
  try clear hfz15_0
  try clear hfz17_0
  obtain ⟨kq,x51_6,rfl,HA,HJ6,HO_5,HO_711000,BK710,HI705,HB⟩:=hcut
  cases kq with
  | zero=>exact absurd HA.out (by simp [qlaw16_DangerHalting.j0])
  | succ kj6 =>
   have H:=HA.out
   clear HA
   simp only [qlaw16_DangerHalting.j0] at H
   by_cases c25:x51_6=true
   ·subst c25
    rw [if_pos rfl] at H
    exact absurd H (by simp)
   ·replace c25:=Bool.eq_false_iff.mpr c25
    subst c25
    rw [if_neg (show ¬ (false=true) by decide)] at H
    have H':=Z H
    clear H
    go_wp2
    go_loopg [11] kj6 (fun kq v11 w'=>∃ (x11_2:Int) (x706001_2:Int),v11=.int .i64 x11_2∧Aside0 (qlaw16_DangerHalting.l0 kq t711 x11_2 t703 x706001_2 t706=some true)∧Aside0 (kq≤kj6)∧Aside0 (Kd.R (Kd.int .i64) 3 w' w.heap.size (fun _=>True) v712 t711)∧Aside0 (Kd.R k92 92 w' w.heap.size (fun k_=>some k_ ≠ (v712:Value).ownBlock) (.slice Ao11 t706.length co11) t706)∧Aside0 (w'.heap[gb710]?=some (.cells #[(.slice Ao11 t706.length co11)] 25 (0,0)))∧Aside0 (IsS95 w w' g705 t703 x706001_2)∧Aside0 (Below w.heap.size w w'))
    case atStart=>exact ⟨(0),(t709),pE,H',⟨Nat.le_refl _⟩,⟨pR HO_5⟩,⟨pR HO_711000⟩,⟨pK BK710⟩,⟨by repeat (first|(with_reducible first|exact HI705.out|apply IsS95.alloc|apply IsS95.drewN|apply IsS95.drew|apply IsS95.set_1|refine IsS95.far ?_ NB705_710.out _)|exact HI705.out)⟩,⟨by repeat (first|(with_reducible first|exact HB.out|apply wA|apply wN|apply wD|refine wS ?_ (IsS95.ge HI705.out)|refine wS ?_ GE710.out)|exact HB.out)⟩⟩
    case round =>
     clear H'
     try clear c1
     try clear c2
     try clear p2
     try clear c3
     try clear c4
     try clear c12
     try clear c20
     try clear c20b0
     try clear c20b1
     try clear c21
     try clear c21b0
     try clear c21b1
     try clear c24
     try clear c25
     try clear hcz13_0
     try clear hcz15_0
     try clear hcz17_0
     try clear hfz13_0
     try clear hfz15_0
     try clear hfz17_0
     obtain ⟨x11_2,x706001_2,rfl,HA,HK2,HO_5,HO_711000,BK710,HI705,HB⟩:=hrel
     cases gk with
     | zero=>exact absurd HA.out (by simp [qlaw16_DangerHalting.l0])
     | succ k2 =>
      have H:=HA.out
      clear HA
      simp only [qlaw16_DangerHalting.l0] at H
      by_cases c26:x11_2 < 20
      ·rw [if_pos c26] at H
       have c26b0:decide (x11_2 < 20)=true:=decide_eq_true c26
       clear c26
       obtain ⟨ji27,hji27⟩:∃ j_:Int,(shl .i64 1 (t706.length:Int))=j_:=⟨_,rfl⟩
       replace H:((qmake_Tape_N.f t703 x706001_2 (ji27)).bind fun bt725=>(qlaw16_DangerHalting.l1 k2 t711 x11_2 bt725.1 false t711 (t711.length:Int) 0 t703 bt725.2 t706))=some true:=by first|(rw [hji27] at H;exact H)|(simp only [hji27] at H ⊢;exact H)
       have hji27_:(IntKind.i64.wrap (1 * 2 ^ min (t706.length:Int).toNat 64))=ji27:=hji27
       have hji27z:(t706.length:Int)≤64→(IntKind.i64.wrap (1 * 2 ^ (t706.length:Int).toNat))=ji27:=shl_small hji27
       have hji27p:(IntKind.i64.wrap (1 * 2 ^ min t706.length 64))=ji27:=hji27_
       have hji27q:(t706.length:Int)≤64→(IntKind.i64.wrap (1 * 2 ^ t706.length))=ji27:=hji27z
       have hji27r:(IntKind.i64.wrap (2 ^ min t706.length 64))=ji27:=by have h_:=hji27p;rw [Int.one_mul] at h_;exact h_
       have hji27s:(t706.length:Int)≤64→(IntKind.i64.wrap (2 ^ t706.length))=ji27:=fun hle_=>by have h_:=hji27q hle_;rw [Int.one_mul] at h_;exact h_
       have hji27u:(IntKind.i64.wrap (2 ^ min (t706.length:Int).toNat 64))=ji27:=by have h_:=hji27_;rw [Int.one_mul] at h_;exact h_
       have hji27v:(t706.length:Int)≤64→(IntKind.i64.wrap (2 ^ (t706.length:Int).toNat))=ji27:=fun hle_=>by have h_:=hji27z hle_;rw [Int.one_mul] at h_;exact h_
       have hji27y:(wrap64 (1 * 2 ^ min (t706.length:Int).toNat 64))=ji27:=(i64_w _).symm.trans hji27_
       have hji27x:(t706.length:Int)≤64→(wrap64 (1 * 2 ^ (t706.length:Int).toNat))=ji27:=fun h_=>(i64_w _).symm.trans (hji27z h_)
       replace H:=pO H
       obtain ⟨⟨t725,t726⟩,A280,H⟩:=H
       try dsimp only at H
       have A28:=Z A280
       clear A280
       have H':=Z H
       clear H
       have hnb29:=NB710_705.out
       have hnc29:=NB705_710.out
       have hcz30_0:=pV BK710 (.slice Ao11 t706.length co11) 0 rfl
       have hfz30_0:=kF BK710.out 0
       go_wp2_with (first|((with_reducible refine gate_callee (f:=36) rfl ?_);refine goesL_ (some 61) rfl rfl Tryz.func36 pU rfl #[.pointer (some ⟨g705,0,none⟩),.int .i64 ji27] rfl (by (try simp only [List.map_toArray,List.map_cons,List.map_nil]);first|done|(simp only [hji27];rfl)|rfl|(simp only [List.length_drop,List.length_take];rfl)) ?_;(with_reducible refine (qmake_Tape_N.calls g705 t703 x706001_2 ji27 t725 t726 w _ ?side1 ?side2 A28.out).mono ?_);(case side1=>repeat (first|(with_reducible first|exact HI705.out|apply IsS95.alloc|apply IsS95.drewN|apply IsS95.drew|apply IsS95.set_1|refine IsS95.far ?_ NB705_710.out _)|exact HI705.out));(case side2=>repeat (first|(with_reducible first|exact HB.out|apply wA|apply wN|apply wD|refine wS ?_ (IsS95.ge HI705.out)|refine wS ?_ GE710.out)|exact HB.out));rintro e w31 ⟨rfl,hi,hb,hk⟩;refine ⟨_,rfl,?_⟩;replace HO_5:=Z (Kd.R_mono (Kd.R_keep (IsS95.apart (show IsS95 w _ g705 t703 x706001_2 from by repeat (first|(with_reducible first|exact HI705.out|apply IsS95.alloc|apply IsS95.drewN|apply IsS95.drew|apply IsS95.set_1|refine IsS95.far ?_ NB705_710.out _)|exact HI705.out)) (pR HO_5) (by decide)) hk (fun _ h=>h.2)) (fun _ h=>h.1));replace HO_711000:=Z (Kd.R_mono (Kd.R_keep (IsS95.apart (show IsS95 w _ g705 t703 x706001_2 from by repeat (first|(with_reducible first|exact HI705.out|apply IsS95.alloc|apply IsS95.drewN|apply IsS95.drew|apply IsS95.set_1|refine IsS95.far ?_ NB705_710.out _)|exact HI705.out)) (pR HO_711000) (by decide)) hk (fun _ h=>h.2)) (fun _ h=>h.1));replace BK710:=Z (KeepBut.blk hk (g':=gb710) (o:=.cells #[.slice Ao11 t706.length co11] 25 (0,0)) (pK BK710) NB710_705.out (by simp));have n3_:=Z (hb);replace HI705:=Z (hi);clear HB;have HB:=n3_;clear n3_;(try clear hb);(try clear hb2);(try clear hk);(try clear hi);obtain ⟨Ao32,co32,eo32⟩:=Kd.R_slice HO_5.out;subst eo32))
       go_loopg [13,64] k2 (fun kq v13 v64 w'=>∃ (x13_3:Bool) (x64_3:Int),v13=.bool x13_3∧v64=.int .i64 x64_3∧Aside0 (qlaw16_DangerHalting.l1 kq t711 x11_2 t725 x13_3 t711 (t711.length:Int) x64_3 t703 t726 t706=some true)∧Aside0 (kq≤k2)∧Aside0 (Kd.R (Kd.int .i64) 3 w' w.heap.size (fun _=>True) (.slice Ao32 t711.length co32) t711)∧Aside0 (Kd.R (Kd.int .i64) 3 w' w.heap.size (fun _=>True) (.slice Ao32 t711.length co32) t711)∧Aside0 (Kd.R k92 92 w' w.heap.size (fun k_=>some k_ ≠ ((.slice Ao32 t711.length co32):Value).ownBlock∧some k_ ≠ ((.slice Ao32 t711.length co32):Value).ownBlock) (.slice Ao11 t706.length co11) t706)∧Aside0 (w'.heap[gb710]?=some (.cells #[(.slice Ao11 t706.length co11)] 25 (0,0)))∧Aside0 (IsS95 w w' g705 t703 t726)∧Aside0 (Below w.heap.size w w'))
       case atStart=>exact ⟨(false),(0),pE,pE,H',⟨Nat.le_refl _⟩,⟨pR HO_5⟩,⟨pR HO_5⟩,⟨by refine pP ?_;exact Kd.R_mono HO_711000.out (fun _ hk=>⟨hk,hk⟩)⟩,⟨pK BK710⟩,⟨by repeat (first|(with_reducible first|exact HI705.out|apply IsS95.alloc|apply IsS95.drewN|apply IsS95.drew|apply IsS95.set_1|refine IsS95.far ?_ NB705_710.out _)|exact HI705.out)⟩,⟨by repeat (first|(with_reducible first|exact HB.out|apply wA|apply wN|apply wD|refine wS ?_ (IsS95.ge HI705.out)|refine wS ?_ GE710.out)|exact HB.out)⟩⟩
       case round =>
        clear H'
        try clear c1
        try clear c2
        try clear p2
        try clear c3
        try clear c4
        try clear p6
        try clear c12
        try clear c20
        try clear c20b0
        try clear c20b1
        try clear c21
        try clear c21b0
        try clear c21b1
        try clear c24
        try clear c25
        try clear c26
        try clear c26b0
        try clear c29
        try clear hcz13_0
        try clear hcz15_0
        try clear hcz17_0
        try clear hcz30_0
        try clear hfz13_0
        try clear hfz15_0
        try clear hfz17_0
        try clear hfz30_0
        obtain ⟨x13_3,x64_3,rfl,rfl,HA,HK3,HO_5,HO_62,HO_711000,BK710,HI705,HB⟩:=hrel
        cases gk with
        | zero=>exact absurd HA.out (by simp [qlaw16_DangerHalting.l1])
        | succ k3 =>
         have H:=HA.out
         clear HA
         simp only [qlaw16_DangerHalting.l1] at H
         by_cases c33:x64_3 < (t711.length:Int)
         ·rw [if_pos c33] at H
          have c33b0:decide (x64_3 < (t711.length:Int))=true:=decide_eq_true c33
          clear c33
          by_cases c34:0≤x64_3
          ·rw [if_pos c34] at H
           have c34b0:decide (0≤x64_3)=true:=decide_eq_true c34
           clear c34
           by_cases c35:x64_3 < (t711.length:Int)
           ·rw [if_pos c35] at H
            have c35b0:decide (x64_3 < (t711.length:Int))=true:=decide_eq_true c35
            clear c35
            by_cases c36:x13_3=true
            ·subst c36
             rw [if_pos rfl] at H
             have H':=Z H
             clear H
             have p727:0≤(x64_3:Int):=of_decide_eq_true pA
             have q727:x64_3 < (t711.length:Int):=of_decide_eq_true pA
             obtain ⟨ad727,e727,hx727_0⟩:=Kd.at_int (Kd.R_reads' HO_62.out).2.2 x64_3 p727 q727
             cases e727
             replace p727:=eq_true p727
             replace q727:=eq_true q727
             go_wp2
             go_roundg k3
             case measure=>have:=HJ6.out;have:=HK2.out;have:=HK3.out;omega
             case rel=>exact ⟨(true),(wrap64 (x64_3+1)),pE,pE,H',⟨by have:=HJ6.out;have:=HK2.out;have:=HK3.out;omega⟩,⟨pR HO_5⟩,⟨pR HO_62⟩,⟨pR HO_711000⟩,⟨pK BK710⟩,⟨by repeat (first|(with_reducible first|exact HI705.out|apply IsS95.alloc|apply IsS95.drewN|apply IsS95.drew|apply IsS95.set_1|refine IsS95.far ?_ NB705_710.out _)|exact HI705.out)⟩,⟨by repeat (first|(with_reducible first|exact HB.out|apply wA|apply wN|apply wD|refine wS ?_ (IsS95.ge HI705.out)|refine wS ?_ GE710.out)|exact HB.out)⟩⟩
            ·replace c36:=Bool.eq_false_iff.mpr c36
             subst c36
             rw [if_neg (show ¬ (false=true) by decide)] at H
             have H':=Z H
             clear H
             have p727:0≤(x64_3:Int):=of_decide_eq_true pA
             have q727:x64_3 < (t711.length:Int):=of_decide_eq_true pA
             obtain ⟨ad727,e727,hx727_0⟩:=Kd.at_int (Kd.R_reads' HO_62.out).2.2 x64_3 p727 q727
             cases e727
             replace p727:=eq_true p727
             replace q727:=eq_true q727
             go_wp2
             go_roundg k3
             case measure=>have:=HJ6.out;have:=HK2.out;have:=HK3.out;omega
             case rel=>exact ⟨(((Go.bits .and .i64 t725 (rd t711 x64_3)) == (rd t711 x64_3))),(wrap64 (x64_3+1)),pE,pE,H',⟨by have:=HJ6.out;have:=HK2.out;have:=HK3.out;omega⟩,⟨pR HO_5⟩,⟨pR HO_62⟩,⟨pR HO_711000⟩,⟨pK BK710⟩,⟨by repeat (first|(with_reducible first|exact HI705.out|apply IsS95.alloc|apply IsS95.drewN|apply IsS95.drew|apply IsS95.set_1|refine IsS95.far ?_ NB705_710.out _)|exact HI705.out)⟩,⟨by repeat (first|(with_reducible first|exact HB.out|apply wA|apply wN|apply wD|refine wS ?_ (IsS95.ge HI705.out)|refine wS ?_ GE710.out)|exact HB.out)⟩⟩
           ·rw [if_neg c35] at H
            exact absurd H (by simp)
          ·rw [if_neg c34] at H
           exact absurd H (by simp)
         ·rw [if_neg c33] at H
          have c33b0:decide (x64_3 < (t711.length:Int))=false:=decide_eq_false c33
          clear c33
          replace H:=pO H
          obtain ⟨⟨t728,t729⟩,A370,H⟩:=H
          try dsimp only at H
          have A37:=Z A370
          clear A370
          by_cases c38:t729=0
          ·rw [if_pos c38] at H
           have c38b0:(t729 == 0)=true:=beq_iff_eq.mpr c38
           have c38b1:(t729 != 0)=false:=bne_eq_false_iff_eq.mpr c38
           clear c38
           by_cases c39:(t728 != x13_3)=true
           ·rw [if_pos c39] at H
            have c39b0:(t728 != x13_3)=true:=c39
            (try (have c39b1:decide (t728=x13_3)=false:=by simpa using c39))
            (try (have c39b2:(t728 == x13_3)=false:=by simpa using c39))
            (try (have c39b3:¬ (t728=x13_3):=by simpa using c39))
            clear c39
            exact absurd H (by simp)
           ·rw [if_neg c39] at H
            have c39b0:(t728 != x13_3)=false:=by simpa using c39
            (try (have c39b1:decide (t728=x13_3)=true:=by simpa using c39))
            (try (have c39b2:(t728 == x13_3)=true:=by simpa using c39))
            clear c39
            have H':=Z H
            clear H
            have hnb40:=NB710_705.out
            have hnc40:=NB705_710.out
            have hcz41_0:=pV BK710 (.slice Ao11 t706.length co11) 0 rfl
            have hfz41_0:=kF BK710.out 0
            go_wp2_with (first|((with_reducible refine gate_callee (f:=37) rfl ?_);refine goesL_ (some 80) rfl rfl Tryz.func37 pU rfl #[.agg #[.slice Ao11 t706.length co11],.int .i64 t725] rfl pG ?_;(with_reducible refine (danger_Halts.calls k3 _ _ t706 t725 t728 t729 _ ?side1 ?side2 A37.out).mono ?_);(case side1=>repeat (first|exact (Kd.R_reads' HO_711000.out).2.2|(with_reducible refine Kd.C_alloc ?_ _)|(with_reducible refine Kd.C_drewN ?_ _)|(with_reducible refine Kd.C_drew ?_)));(case side2=>exact (Kd.R_reads' HO_711000.out).2.1);rintro e w42 ⟨rfl,hb⟩;refine ⟨_,rfl,?_⟩;replace HO_5:=Z (Kd.R_below (pR HO_5) hb);replace HO_62:=Z (Kd.R_below (pR HO_62) hb);replace HO_711000:=Z (Kd.R_below (pR HO_711000) hb);replace BK710:=Z (blk_below (g:=gb710) (o:=.cells #[.slice Ao11 t706.length co11] 25 (0,0)) (pK BK710) hb);have n4_:=Z (IsS95.below (by repeat (first|(with_reducible first|exact HI705.out|apply IsS95.alloc|apply IsS95.drewN|apply IsS95.drew|apply IsS95.set_1|refine IsS95.far ?_ NB705_710.out _)|exact HI705.out)) hb);have n5_:=Z (below_step (by repeat (first|(with_reducible first|exact HB.out|apply wA|apply wN|apply wD|refine wS ?_ (IsS95.ge HI705.out)|refine wS ?_ GE710.out)|exact HB.out)) hb);clear HI705 HB;have HI705:=n4_;have HB:=n5_;clear n4_ n5_;(try clear hb);(try clear hb2);(try clear hk);(try clear hi)))
            go_roundg k3
            case measure=>have:=HJ6.out;have:=HK2.out;have:=HK3.out;omega
            case rel=>exact ⟨(wrap64 (x11_2+1)),(t726),pE,H',⟨by have:=HJ6.out;have:=HK2.out;have:=HK3.out;omega⟩,⟨pR HO_5⟩,⟨by refine pP ?_;exact Kd.R_mono HO_711000.out (fun _ hk=>hk.1)⟩,⟨pK BK710⟩,⟨by repeat (first|(with_reducible first|exact HI705.out|apply IsS95.alloc|apply IsS95.drewN|apply IsS95.drew|apply IsS95.set_1|refine IsS95.far ?_ NB705_710.out _)|exact HI705.out)⟩,⟨by repeat (first|(with_reducible first|exact HB.out|apply wA|apply wN|apply wD|refine wS ?_ (IsS95.ge HI705.out)|refine wS ?_ GE710.out)|exact HB.out)⟩⟩
          ·rw [if_neg c38] at H
           have c38b0:(t729 == 0)=false:=beq_eq_false_iff_ne.mpr c38
           have c38b1:(t729 != 0)=true:=bne_iff_ne.mpr c38
           exact absurd H (by simp)
      ·rw [if_neg c26] at H
       have c26b0:decide (x11_2 < 20)=false:=decide_eq_false c26
       clear c26
       replace H:=pO H
       obtain ⟨t724,A430,H⟩:=H
       try dsimp only at H
       have A43:=Z A430
       clear A430
       obtain rfl:=Option.some.inj H
       go_wp2_with (first|((with_reducible refine gate_callee (f:=38) rfl ?_);refine goesL_ (some 90) rfl rfl Tryz.func38 pU rfl #[] rfl pG ?_;(with_reducible refine (qlaw16_awake.calls k2   _ A43.out).mono ?_);rintro e w44 ⟨rfl,hb⟩;refine ⟨_,rfl,?_⟩;replace HO_5:=Z (Kd.R_below (pR HO_5) hb);replace HO_711000:=Z (Kd.R_below (pR HO_711000) hb);replace BK710:=Z (blk_below (g:=gb710) (o:=.cells #[.slice Ao11 t706.length co11] 25 (0,0)) (pK BK710) hb);have n3_:=Z (IsS95.below (by repeat (first|(with_reducible first|exact HI705.out|apply IsS95.alloc|apply IsS95.drewN|apply IsS95.drew|apply IsS95.set_1|refine IsS95.far ?_ NB705_710.out _)|exact HI705.out)) hb);have n4_:=Z (below_step (by repeat (first|(with_reducible first|exact HB.out|apply wA|apply wN|apply wD|refine wS ?_ (IsS95.ge HI705.out)|refine wS ?_ GE710.out)|exact HB.out)) hb);clear HI705 HB;have HI705:=n3_;have HB:=n4_;clear n3_ n4_;(try clear hb);(try clear hb2);(try clear hk);(try clear hi)))
       go_ret
       exact ⟨by first|rfl|exact congrArg (fun b_:Bool=>Ending.returned (Value.bool b_)) HT.out|(simp [errW_none,errW_some] <;> rfl)|(simp [*,errW_none,errW_some] <;> rfl),by repeat (first|(with_reducible first|exact HB.out|apply wA|apply wN|apply wD|refine wS ?_ (IsS95.ge HI705.out)|refine wS ?_ GE710.out)|exact HB.out)⟩
def qlaw16_DangerHalting.Pure:Prop:=∀ (l0:List Int),l0.length≤maxLen→l0.length * 8≤140737488351232→(∀ x∈l0,(Lit.int .i64 x).wf=true)→∃ k,qlaw16_DangerHalting.f k l0=some true
theorem qlaw16_DangerHalting.walk (P:qlaw16_DangerHalting.Pure) (a0:Option Addr) (len0 cap0:Nat) (z0:List Int) (w:World) (w0:(a0=none∧len0=0∧cap0=0∧z0=[]) ∨ ∃ x,a0=some x∧len0≤cap0∧cap0≤maxLen∧z0.length=cap0∧(∀ i,i < z0.length→w.cell? (x.add i)=some (.int .i64 (z0.getD i 0)))∧∀ n∈z0,(Lit.int .i64 n).wf=true) (y0:len0 * 8≤140737488351232) :
  Calls Tryz.prog 4 #[.slice a0 len0 cap0] w fun e w'=>e=.returned (.bool true)∧Below w.heap.size w w':=by
 obtain ⟨l0,rfl,hr0,hm0,hw0,hc0⟩:=ReadsInt.ofRowC w0
 obtain ⟨k,h⟩:=P l0 hm0 y0 hw0
 refine (qlaw16_DangerHalting.calls k _ _ l0 w (Kd.C_of_reads (d:=(0:Int)) (h1:=fun _=>rfl) hr0) hc0 h).mono ?_
 rintro e w' ⟨rfl,hd⟩
 exact ⟨rfl,hd⟩
end Go.Proofs.YtkjlcbfjllpcnaaGreat.X
namespace Go.Proofs.YtkjlcbfjllpcnaaGreat.X
open Go.RowKit YtkjlcbfjllpcnaaGreatW.PrintWords YtkjlcbfjllpcnaaGreatW.PrintLast YtkjlcbfjllpcnaaGreatW.PrintMore
mutual
def depL:List S90→Nat
 | []=>0
 | t :: ts=>max (dep t) (depL ts)
def dep:S90→Nat
 | ⟨_,_,ts⟩=>depL ts+1
end
mutual
def sizL:List S90→Nat
 | []=>0
 | t :: ts=>siz t+sizL ts
def siz:S90→Nat
 | ⟨_,l,ts⟩=>l.length+ts.length+sizL ts
end
mutual
def useL:List S90→Nat
 | []=>0
 | t :: ts=>uses t ||| useL ts
def uses:S90→Nat
 | ⟨_,l,ts⟩=>l.foldl (fun a x=>if noNode x=true then a else a ||| 2 ^ x.toNat) 0 ||| useL ts
end
def ofS (a:Nat):List Int→Nat × Int
 | []=>(a,0)
 | x :: xs=>if noNode x=true then (0,5) else if inS a x=true then (0,6) else ofS (a ||| 2 ^ x.toNat) xs
mutual
def chkL:List S90→Int
 | []=>0
 | t :: ts=>if chk t=0 then chkL ts else chk t
def chk:S90→Int
 | ⟨n,l,ts⟩=>if n < 1 ∨ n > ((l.length+ts.length:Nat):Int) then 4 else if (l.any noNode)=true then 5 else if (ofS 0 l).2=0 then chkL ts else (ofS 0 l).2
end
def validT (t:S90):Int:=if dep t > 4 then 3 else if siz t > 200 then 3 else chk t
theorem dep_eq (t:S90):dep t=depL t.f2+1:=by cases t;rw [dep]
theorem siz_eq (t:S90):siz t=t.f1.length+t.f2.length+sizL t.f2:=by cases t;rw [siz]
theorem chk_eq (t:S90):chk t=if t.f0 < 1 ∨ t.f0 > ((t.f1.length+t.f2.length:Nat):Int) then 4 else if (t.f1.any noNode)=true then 5 else if (ofS 0 t.f1).2=0 then chkL t.f2 else (ofS 0 t.f1).2:=by cases t;rw [chk]
theorem uses_eq (t:S90):uses t=t.f1.foldl (fun a x=>if noNode x=true then a else a ||| 2 ^ x.toNat) 0 ||| useL t.f2:=by cases t;rw [uses]
mutual
theorem dep_le:∀ t:S90,dep t≤wt t
 | ⟨_,l,ts⟩=>by rw [dep,wt];have:=depL_le ts;omega
theorem depL_le:∀ l:List S90,depL l≤wtL l
 | []=>Nat.le_refl _
 | t :: ts=>by rw [depL,wtL];have:=dep_le t;have:=depL_le ts;omega
end
mutual
theorem siz_le : ∀ t : S90, siz t ≤ 2 * wt t
  | ⟨_, l, ts⟩ => by rw [siz, wt]; have := sizL_le ts; omega
theorem sizL_le : ∀ l : List S90, l.length + sizL l ≤ 2 * wtL l
  | [] => Nat.le_refl _
  | t :: ts => by rw [sizL, wtL, List.length_cons]; have := siz_le t; have := sizL_le ts; have := wt_pos t; have : 1 + siz t ≤ 2 * wt t := by
                    cases t with | mk n l xs => rw [siz, wt]; have := sizL_le xs; omega
                  omega
end
theorem or_lt {a b n:Nat} (ha:a < 2 ^ n) (hb:b < 2 ^ n):a ||| b < 2 ^ n:=Nat.or_lt_two_pow ha hb
theorem or_lt10 {a b:Nat} (ha:a < 1024) (hb:b < 1024):a ||| b < 1024:=or_lt (n:=10) ha hb
theorem two_lt10 {k:Nat} (h:k < 10):2 ^ k < 1024:=Nat.pow_lt_pow_right (a:=2) (by decide) h
theorem noNode_not {x:Int} (h:noNode x=false):0≤x∧x < 10:=by simp [noNode] at h;omega
theorem foldUse_lt (l:List Int):∀ a,a < 1024→l.foldl (fun a x=>if noNode x=true then a else a ||| 2 ^ x.toNat) a < 1024:=by
 induction l with
 | nil=>intro a h;exact h
 | cons x xs ih =>
  intro a h
  rw [List.foldl_cons]
  refine ih _ ?_
  cases hx:noNode x
  ·have:=noNode_not hx
   exact or_lt10 h (two_lt10 (by omega))
  ·exact h
mutual
theorem uses_lt:∀ t:S90,uses t < 1024
 | ⟨_,l,ts⟩=>by rw [uses];exact or_lt10 (foldUse_lt l 0 (by decide)) (useL_lt ts)
theorem useL_lt:∀ l:List S90,useL l < 1024
 | []=>by rw [useL];decide
 | t :: ts=>by rw [useL];exact or_lt10 (uses_lt t) (useL_lt ts)
end
theorem mx_nat (a b:Nat):mx (a:Int) (b:Int)=((max a b:Nat):Int):=by unfold mx;split <;> omega
theorem Depth_ev:∀ (n:Nat) (t:S90),wt t < n→n < 1152921504606846976→Ev (fun k=>threshold_Depth.f k t.f0 t.f1 t.f2) (dep t:Int)
 | 0,t,h,_=>absurd h (by omega)
 | n+1,t,h,hn=>by
  rw [wt_eq] at h
  have hl:=len_wtL t.f2
  have hd:=depL_le t.f2
  rw [dep_eq]
  (refine Ev.shift ?_;simp only [threshold_Depth.f,Option.bind_some,↓reduceIte,Bool.false_eq_true,reduceCtorEq,decide_eq_true_eq,rd_,rd_T90,rd_T92])
  refine Ev.fold (xs:=t.f2) (L:=fun (c:Nat) i k=>threshold_Depth.l0 k (c:Int) t.f2 (t.f2.length:Int) i) (by omega) (fun pre ys c=>max c (depL ys)=depL t.f2) ?_ ?_ 0 (by omega)
  ·intro c i hI hi
   rw [depL] at hI
   (refine Ev.shift ?_;simp only [threshold_Depth.l0,hi,Option.bind_some,↓reduceIte,Bool.false_eq_true,reduceCtorEq,decide_eq_true_eq,rd_,rd_T90,rd_T92])
   rw [show wrap64 ((c:Int)+1)=((depL t.f2+1:Nat):Int) by rw [w64 (by omega) (by omega)];omega]
   exact Ev.now _
  ·intro pre y ys c i e hI hi h0 hlt hw hrd
   rw [depL] at hI
   refine Or.inl ⟨max c (dep y),by omega,fun k=>?_⟩
   (refine Ev.shift ?_;simp only [threshold_Depth.l0,h0,hlt,hw,hrd,Option.bind_some,↓reduceIte,Bool.false_eq_true,reduceCtorEq,decide_eq_true_eq,rd_,rd_T90,rd_T92])
   refine Ev.bind1 (Depth_ev n y (by have:=wt_mem (show y∈t.f2 by rw [e];simp);omega) (by omega)) ?_
   rw [mx_nat]
   exact k
theorem Size_ev:∀ (n:Nat) (t:S90),wt t < n→n < 1152921504606846976→Ev (fun k=>threshold_Size.f k t.f0 t.f1 t.f2) (siz t:Int)
 | 0,t,h,_=>absurd h (by omega)
 | n+1,t,h,hn=>by
  have hs:=siz_le t
  have hw:=h
  rw [wt_eq] at h
  have hl:=len_wtL t.f2
  rw [siz_eq] at hs ⊢
  (refine Ev.shift ?_;simp only [threshold_Size.f,Option.bind_some,↓reduceIte,Bool.false_eq_true,reduceCtorEq,decide_eq_true_eq,rd_,rd_T90,rd_T92])
  rw [show wrap64 ((t.f1.length:Int)+(t.f2.length:Int))=((t.f1.length+t.f2.length:Nat):Int) by rw [w64 (by omega) (by omega)];omega]
  refine Ev.fold (L:=fun (c:Nat) i k=>threshold_Size.l0 k (c:Int) t.f2 (t.f2.length:Int) i) (by omega) (fun pre ys c=>c+sizL ys=t.f1.length+t.f2.length+sizL t.f2) ?_ ?_ (t.f1.length+t.f2.length) rfl
  ·intro c i hI hi
   rw [sizL] at hI
   (refine Ev.shift ?_;simp only [threshold_Size.l0,hi,Option.bind_some,↓reduceIte,Bool.false_eq_true,reduceCtorEq,decide_eq_true_eq,rd_,rd_T90,rd_T92])
   rw [← hI]
   exact Ev.now _
  ·intro pre y ys c i e hI hi h0 hlt hw hrd
   rw [sizL] at hI
   refine Or.inl ⟨c+siz y,by omega,fun k=>?_⟩
   (refine Ev.shift ?_;simp only [threshold_Size.l0,h0,hlt,hw,hrd,Option.bind_some,↓reduceIte,Bool.false_eq_true,reduceCtorEq,decide_eq_true_eq,rd_,rd_T90,rd_T92])
   refine Ev.bind1 (Size_ev n y (by have:=wt_mem (show y∈t.f2 by rw [e];simp);omega) (by omega)) ?_
   rw [show wrap64 ((c:Int)+(siz y:Int))=((c+siz y:Nat):Int) by rw [w64 (by omega) (by omega)];omega]
   exact k
theorem Of_ev (l:List Int) (hl:l.length < 1152921504606846976):Ev (fun k=>nodeset_Of.f k l) (((ofS 0 l).1:Int),(ofS 0 l).2):=by
 refine Ev.congr (f:=fun k=>nodeset_Of.l0 k ((0:Nat):Int) l (l.length:Int) 0) (fun k=>rfl) ?_
 refine Ev.fold (L:=fun (c:Nat) i k=>nodeset_Of.l0 k (c:Int) l (l.length:Int) i) (by omega) (fun pre ys c=>ofS c ys=ofS 0 l∧c < 1024) ?_ ?_ 0 ⟨rfl,by decide⟩
 ·rintro c i ⟨hI,hc⟩ hi
  (refine Ev.shift ?_;simp only [nodeset_Of.l0,hi,Option.bind_some,↓reduceIte,Bool.false_eq_true,reduceCtorEq,decide_eq_true_eq,rd_,rd_T90,rd_T92])
  rw [← hI]
  exact Ev.now _
 ·rintro pre y ys c i e ⟨hI,hc⟩ hi h0 hlt hw hrd
  rw [ofS] at hI
  cases hn:noNode y
  ·have hb:=noNode_not hn
   simp only [hn,Bool.false_eq_true,if_false] at hI
   cases hs:inS c y
   ·refine Or.inl ⟨c ||| 2 ^ y.toNat,⟨by simpa [hs] using hI,or_lt10 hc (two_lt10 (by omega))⟩,fun k=>?_⟩
    have h2:=two_lt10 (show y.toNat < 10 by omega)
    have e2:Go.bits .or .i64 (c:Int) (shl .i64 1 y)=((c ||| 2 ^ y.toNat:Nat):Int):=by
     rw [show y=(y.toNat:Int) by omega,shl_nat (by omega),Int.toNat_natCast,or_nat (by omega) (by omega)]
    have h1:¬ y < 0:=by omega
    have h3:decide (y ≥ 10)=false:=by simp;omega
    (refine Ev.shift ?_;simp only [nodeset_Of.l0,h0,hlt,hw,hrd,h1,h3,Option.bind_some,↓reduceIte,Bool.false_eq_true,reduceCtorEq,decide_eq_true_eq,rd_,rd_T90,rd_T92])
    (refine Ev.shift ?_;simp only [nodeset_Of.j1,Has_eq hc,hs,hb.1,hw,Option.bind_some,↓reduceIte,Bool.false_eq_true,reduceCtorEq,decide_eq_true_eq,rd_,rd_T90,rd_T92])
    rw [e2]
    exact k
   ·refine Or.inr ?_
    simp only [hs,if_true] at hI
    have h1:¬ y < 0:=by omega
    have h3:decide (y ≥ 10)=false:=by simp;omega
    (refine Ev.shift ?_;simp only [nodeset_Of.l0,h0,hlt,hw,hrd,h1,h3,Option.bind_some,↓reduceIte,Bool.false_eq_true,reduceCtorEq,decide_eq_true_eq,rd_,rd_T90,rd_T92])
    (refine Ev.shift ?_;simp only [nodeset_Of.j1,Has_eq hc,hs,Option.bind_some,↓reduceIte,Bool.false_eq_true,reduceCtorEq,decide_eq_true_eq,rd_,rd_T90,rd_T92])
    rw [← hI]
    exact Ev.now _
  ·refine Or.inr ?_
   simp only [hn,if_true] at hI
   rw [← hI]
   by_cases h1:y < 0
   ·(refine Ev.shift ?_;simp only [nodeset_Of.l0,h0,hlt,hw,hrd,h1,Option.bind_some,↓reduceIte,Bool.false_eq_true,reduceCtorEq,decide_eq_true_eq,rd_,rd_T90,rd_T92])
    (refine Ev.shift ?_;simp only [nodeset_Of.j1,Option.bind_some,↓reduceIte,Bool.false_eq_true,reduceCtorEq,decide_eq_true_eq,rd_,rd_T90,rd_T92])
    exact Ev.now _
   ·have h3:decide (y ≥ 10)=true:=by simp [noNode] at hn ⊢;omega
    (refine Ev.shift ?_;simp only [nodeset_Of.l0,h0,hlt,hw,hrd,h1,h3,Option.bind_some,↓reduceIte,Bool.false_eq_true,reduceCtorEq,decide_eq_true_eq,rd_,rd_T90,rd_T92])
    (refine Ev.shift ?_;simp only [nodeset_Of.j1,Option.bind_some,↓reduceIte,Bool.false_eq_true,reduceCtorEq,decide_eq_true_eq,rd_,rd_T90,rd_T92])
    exact Ev.now _
theorem Uses_ev:∀ (n:Nat) (t:S90),wt t < n→n < 1152921504606846976→Ev (fun k=>threshold_Uses.f k t.f0 t.f1 t.f2) (uses t:Int)
 | 0,t,h,_=>absurd h (by omega)
 | n+1,t,h,hn=>by
  rw [wt_eq] at h
  have hl:=len_wtL t.f2
  have hU:=uses_lt t
  rw [uses_eq] at hU ⊢
  generalize hT:(t.f1.foldl (fun a x=>if noNode x=true then a else a ||| 2 ^ x.toNat) 0 ||| useL t.f2)=T at hU
  have l1:∀ c,c < 1024→c ||| useL t.f2=T→Ev (fun k=>threshold_Uses.l1 k (c:Int) t.f2 (t.f2.length:Int) 0) (T:Int):=by
   intro c hc hcT
   refine Ev.fold (L:=fun (c:Nat) i k=>threshold_Uses.l1 k (c:Int) t.f2 (t.f2.length:Int) i) (by omega) (fun pre ys c=>c ||| useL ys=T∧c < 1024) ?_ ?_ c ⟨hcT,hc⟩
   ·rintro c i ⟨hI,hc⟩ hi
    rw [useL,Nat.or_zero] at hI
    (refine Ev.shift ?_;simp only [threshold_Uses.l1,hi,Option.bind_some,↓reduceIte,Bool.false_eq_true,reduceCtorEq,decide_eq_true_eq,rd_,rd_T90,rd_T92])
    rw [← hI]
    exact Ev.now _
   ·rintro pre y ys c i e ⟨hI,hc⟩ hi h0 hlt hw hrd
    rw [useL] at hI
    refine Or.inl ⟨c ||| uses y,⟨by rw [Nat.or_assoc];exact hI,or_lt10 hc (uses_lt y)⟩,fun k=>?_⟩
    (refine Ev.shift ?_;simp only [threshold_Uses.l1,h0,hlt,hw,hrd,Option.bind_some,↓reduceIte,Bool.false_eq_true,reduceCtorEq,decide_eq_true_eq,rd_,rd_T90,rd_T92])
    refine Ev.bind1 (Uses_ev n y (by have:=wt_mem (show y∈t.f2 by rw [e];simp);omega) (by omega)) ?_
    have:=uses_lt y
    rw [or_nat (by omega) (by omega)]
    exact k
  (refine Ev.shift ?_;simp only [threshold_Uses.f,Option.bind_some,↓reduceIte,Bool.false_eq_true,reduceCtorEq,decide_eq_true_eq,rd_,rd_T90,rd_T92])
  refine Ev.fold (L:=fun (c:Nat) i k=>threshold_Uses.l0 k (c:Int) t.f1 (t.f1.length:Int) i t.f0 t.f1 t.f2) (by omega) (fun pre ys c=>(ys.foldl (fun a x=>if noNode x=true then a else a ||| 2 ^ x.toNat) c) ||| useL t.f2=T∧c < 1024) ?_ ?_ 0 ⟨hT,by decide⟩
  ·rintro c i ⟨hI,hc⟩ hi
   (refine Ev.shift ?_;simp only [threshold_Uses.l0,hi,Option.bind_some,↓reduceIte,Bool.false_eq_true,reduceCtorEq,decide_eq_true_eq,rd_,rd_T90,rd_T92])
   exact l1 c hc hI
  ·rintro pre y ys c i e ⟨hI,hc⟩ hi h0 hlt hw hrd
   rw [List.foldl_cons] at hI
   cases hn:noNode y
   ·have hb:=noNode_not hn
    have h2:=two_lt10 (show y.toNat < 10 by omega)
    refine Or.inl ⟨c ||| 2 ^ y.toNat,⟨by simpa [hn] using hI,or_lt10 hc h2⟩,fun k=>?_⟩
    have e2:Go.bits .or .i64 (c:Int) (shl .i64 1 y)=((c ||| 2 ^ y.toNat:Nat):Int):=by
     rw [show y=(y.toNat:Int) by omega,shl_nat (by omega),Int.toNat_natCast,or_nat (by omega) (by omega)]
    have h3:y ≥ 0:=by omega
    have h4:y < 10:=by omega
    (refine Ev.shift ?_;simp only [threshold_Uses.l0,threshold_node.f,h0,hlt,hw,hrd,h3,h4,decide_true,hb.1,Option.bind_some,↓reduceIte,Bool.false_eq_true,reduceCtorEq,decide_eq_true_eq,rd_,rd_T90,rd_T92])
    rw [e2]
    exact k
   ·refine Or.inl ⟨c,⟨by simpa [hn] using hI,hc⟩,fun k=>?_⟩
    by_cases h3:y ≥ 0
    ·have h4:¬ y < 10:=by simp [noNode] at hn;omega
     (refine Ev.shift ?_;simp only [threshold_Uses.l0,threshold_node.f,h0,hlt,hw,hrd,h3,h4,decide_false,Option.bind_some,↓reduceIte,Bool.false_eq_true,reduceCtorEq,decide_eq_true_eq,rd_,rd_T90,rd_T92])
     exact k
    ·(refine Ev.shift ?_;simp only [threshold_Uses.l0,threshold_node.f,h0,hlt,hw,hrd,h3,Option.bind_some,↓reduceIte,Bool.false_eq_true,reduceCtorEq,decide_eq_true_eq,rd_,rd_T90,rd_T92])
     exact k
theorem level_ev:∀ (n:Nat) (t:S90),wt t < n→n < 1152921504606846976→Ev (fun k=>threshold_level.f k t.f0 t.f1 t.f2) (chk t)
 | 0,t,h,_=>absurd h (by omega)
 | n+1,t,h,hn=>by
  rw [wt_eq] at h
  have hl:=len_wtL t.f2
  rw [chk_eq]
  have el:wrap64 ((t.f1.length:Int)+(t.f2.length:Int))=((t.f1.length+t.f2.length:Nat):Int):=by rw [w64 (by omega) (by omega)];omega
  by_cases h1:t.f0 < 1
  ·(refine Ev.shift ?_;simp only [threshold_level.f,h1,true_or,Option.bind_some,↓reduceIte,Bool.false_eq_true,reduceCtorEq,decide_eq_true_eq,rd_,rd_T90,rd_T92])
   (refine Ev.shift ?_;simp only [threshold_level.j0,Option.bind_some,↓reduceIte,Bool.false_eq_true,reduceCtorEq,decide_eq_true_eq,rd_,rd_T90,rd_T92])
   exact Ev.now _
  by_cases h2:t.f0 > ((t.f1.length+t.f2.length:Nat):Int)
  ·(refine Ev.shift ?_;simp only [threshold_level.f,h1,h2,el,or_true,decide_true,Option.bind_some,↓reduceIte,Bool.false_eq_true,reduceCtorEq,decide_eq_true_eq,rd_,rd_T90,rd_T92])
   (refine Ev.shift ?_;simp only [threshold_level.j0,Option.bind_some,↓reduceIte,Bool.false_eq_true,reduceCtorEq,decide_eq_true_eq,rd_,rd_T90,rd_T92])
   exact Ev.now _
  (refine Ev.shift ?_;simp only [threshold_level.f,h1,h2,el,or_false,decide_false,Option.bind_some,↓reduceIte,Bool.false_eq_true,reduceCtorEq,decide_eq_true_eq,rd_,rd_T90,rd_T92])
  (refine Ev.shift ?_;simp only [threshold_level.j0,containsFunc_level.f,Option.bind_some,↓reduceIte,Bool.false_eq_true,reduceCtorEq,decide_eq_true_eq,rd_,rd_T90,rd_T92])
  cases hn:t.f1.any noNode
  ·simp only [Bool.false_eq_true,if_false]
   refine Ev.bind1 (Of_ev t.f1 (by omega)) ?_
   by_cases h3:(ofS 0 t.f1).2=0
   ·simp only [h3,if_true]
    refine Ev.fold (L:=fun (c:Unit) i k=>threshold_level.l0 k t.f2 (t.f2.length:Int) i) (by omega) (fun pre ys c=>chkL ys=chkL t.f2) ?_ ?_ () rfl
    ·intro c i hI hi
     rw [chkL] at hI
     (refine Ev.shift ?_;simp only [threshold_level.l0,hi,Option.bind_some,↓reduceIte,Bool.false_eq_true,reduceCtorEq,decide_eq_true_eq,rd_,rd_T90,rd_T92])
     rw [← hI]
     exact Ev.now _
    ·intro pre y ys c i e hI hi h0 hlt hw hrd
     rw [chkL] at hI
     have hy:=level_ev n y (by have:=wt_mem (show y∈t.f2 by rw [e];simp);omega) (by omega)
     by_cases h4:chk y=0
     ·refine Or.inl ⟨(),by rw [← hI,if_pos h4],fun k=>?_⟩
      (refine Ev.shift ?_;simp only [threshold_level.l0,h0,hlt,hw,hrd,Option.bind_some,↓reduceIte,Bool.false_eq_true,reduceCtorEq,decide_eq_true_eq,rd_,rd_T90,rd_T92])
      refine Ev.bind1 hy ?_
      simp only [h4,if_true]
      exact k
     ·refine Or.inr ?_
      rw [← hI,if_neg h4]
      (refine Ev.shift ?_;simp only [threshold_level.l0,h0,hlt,hw,hrd,Option.bind_some,↓reduceIte,Bool.false_eq_true,reduceCtorEq,decide_eq_true_eq,rd_,rd_T90,rd_T92])
      refine Ev.bind1 hy ?_
      simp only [h4,if_false]
      exact Ev.now _
   ·simp only [h3,if_false]
    exact Ev.now _
  ·simp only [if_true]
   exact Ev.now _
theorem Valid_ev (t:S90) (h:wt t < 1000000):Ev (fun k=>threshold_Valid.f k t.f0 t.f1 t.f2) (validT t):=by
 simp only [threshold_Valid.f,validT,Option.bind_some,↓reduceIte,Bool.false_eq_true,reduceCtorEq,decide_eq_true_eq,rd_,rd_T90,rd_T92]
 refine Ev.bind1 (Depth_ev 1000000 t h (by decide)) ?_
 by_cases h1:dep t > 4
 ·have:(dep t:Int) > 4:=by omega
  simp only [h1,this,Option.bind_some,↓reduceIte,Bool.false_eq_true,reduceCtorEq,decide_eq_true_eq,rd_,rd_T90,rd_T92]
  exact Ev.now _
 have h2:¬ (dep t:Int) > 4:=by omega
 simp only [h1,h2,Option.bind_some,↓reduceIte,Bool.false_eq_true,reduceCtorEq,decide_eq_true_eq,rd_,rd_T90,rd_T92]
 refine Ev.bind1 (Size_ev 1000000 t h (by decide)) ?_
 by_cases h3:siz t > 200
 ·have:(siz t:Int) > 200:=by omega
  simp only [h3,this,Option.bind_some,↓reduceIte,Bool.false_eq_true,reduceCtorEq,decide_eq_true_eq,rd_,rd_T90,rd_T92]
  exact Ev.now _
 have h4:¬ (siz t:Int) > 200:=by omega
 simp only [h3,h4,Option.bind_some,↓reduceIte,Bool.false_eq_true,reduceCtorEq,decide_eq_true_eq,rd_,rd_T90,rd_T92]
 refine Ev.bind1 (level_ev 1000000 t h (by decide)) ?_
 exact Ev.now _
theorem ref_Depth_ev:∀ (n:Nat) (t:S90),wt t < n→n < 1152921504606846976→Ev (fun k=>qref02_Depth.f k t.f0 t.f1 t.f2) (dep t:Int)
 | 0,t,h,_=>absurd h (by omega)
 | n+1,t,h,hn=>by
  rw [wt_eq] at h
  have hl:=len_wtL t.f2
  have hd:=depL_le t.f2
  rw [dep_eq]
  (refine Ev.shift ?_;simp only [qref02_Depth.f,Option.bind_some,↓reduceIte,Bool.false_eq_true,reduceCtorEq,decide_eq_true_eq,rd_,rd_T90,rd_T92])
  refine Ev.fold (xs:=t.f2) (L:=fun (c:Nat) i k=>qref02_Depth.l0 k (c:Int) t.f2 (t.f2.length:Int) i) (by omega) (fun pre ys c=>max c (depL ys)=depL t.f2) ?_ ?_ 0 (by omega)
  ·intro c i hI hi
   rw [depL] at hI
   (refine Ev.shift ?_;simp only [qref02_Depth.l0,hi,Option.bind_some,↓reduceIte,Bool.false_eq_true,reduceCtorEq,decide_eq_true_eq,rd_,rd_T90,rd_T92])
   rw [show wrap64 ((c:Int)+1)=((depL t.f2+1:Nat):Int) by rw [w64 (by omega) (by omega)];omega]
   exact Ev.now _
  ·intro pre y ys c i e hI hi h0 hlt hw hrd
   rw [depL] at hI
   refine Or.inl ⟨max c (dep y),by omega,fun k=>?_⟩
   (refine Ev.shift ?_;simp only [qref02_Depth.l0,h0,hlt,hw,hrd,Option.bind_some,↓reduceIte,Bool.false_eq_true,reduceCtorEq,decide_eq_true_eq,rd_,rd_T90,rd_T92])
   refine Ev.bind1 (ref_Depth_ev n y (by have:=wt_mem (show y∈t.f2 by rw [e];simp);omega) (by omega)) ?_
   rw [mx_nat]
   exact k
theorem ref_Size_ev:∀ (n:Nat) (t:S90),wt t < n→n < 1152921504606846976→Ev (fun k=>qref02_Size.f k t.f0 t.f1 t.f2) (siz t:Int)
 | 0,t,h,_=>absurd h (by omega)
 | n+1,t,h,hn=>by
  have hs:=siz_le t
  have hw:=h
  rw [wt_eq] at h
  have hl:=len_wtL t.f2
  rw [siz_eq] at hs ⊢
  (refine Ev.shift ?_;simp only [qref02_Size.f,Option.bind_some,↓reduceIte,Bool.false_eq_true,reduceCtorEq,decide_eq_true_eq,rd_,rd_T90,rd_T92])
  rw [show wrap64 ((t.f1.length:Int)+(t.f2.length:Int))=((t.f1.length+t.f2.length:Nat):Int) by rw [w64 (by omega) (by omega)];omega]
  refine Ev.fold (L:=fun (c:Nat) i k=>qref02_Size.l0 k (c:Int) t.f2 (t.f2.length:Int) i) (by omega) (fun pre ys c=>c+sizL ys=t.f1.length+t.f2.length+sizL t.f2) ?_ ?_ (t.f1.length+t.f2.length) rfl
  ·intro c i hI hi
   rw [sizL] at hI
   (refine Ev.shift ?_;simp only [qref02_Size.l0,hi,Option.bind_some,↓reduceIte,Bool.false_eq_true,reduceCtorEq,decide_eq_true_eq,rd_,rd_T90,rd_T92])
   rw [← hI]
   exact Ev.now _
  ·intro pre y ys c i e hI hi h0 hlt hw hrd
   rw [sizL] at hI
   refine Or.inl ⟨c+siz y,by omega,fun k=>?_⟩
   (refine Ev.shift ?_;simp only [qref02_Size.l0,h0,hlt,hw,hrd,Option.bind_some,↓reduceIte,Bool.false_eq_true,reduceCtorEq,decide_eq_true_eq,rd_,rd_T90,rd_T92])
   refine Ev.bind1 (ref_Size_ev n y (by have:=wt_mem (show y∈t.f2 by rw [e];simp);omega) (by omega)) ?_
   rw [show wrap64 ((c:Int)+(siz y:Int))=((c+siz y:Nat):Int) by rw [w64 (by omega) (by omega)];omega]
   exact k
theorem ref_Of_ev (l:List Int) (hl:l.length < 1152921504606846976):Ev (fun k=>qref01_Of.f k l) (((ofS 0 l).1:Int),(ofS 0 l).2):=by
 refine Ev.congr (f:=fun k=>qref01_Of.l0 k ((0:Nat):Int) l (l.length:Int) 0) (fun k=>rfl) ?_
 refine Ev.fold (L:=fun (c:Nat) i k=>qref01_Of.l0 k (c:Int) l (l.length:Int) i) (by omega) (fun pre ys c=>ofS c ys=ofS 0 l∧c < 1024) ?_ ?_ 0 ⟨rfl,by decide⟩
 ·rintro c i ⟨hI,hc⟩ hi
  (refine Ev.shift ?_;simp only [qref01_Of.l0,hi,Option.bind_some,↓reduceIte,Bool.false_eq_true,reduceCtorEq,decide_eq_true_eq,rd_,rd_T90,rd_T92])
  rw [← hI]
  exact Ev.now _
 ·rintro pre y ys c i e ⟨hI,hc⟩ hi h0 hlt hw hrd
  rw [ofS] at hI
  cases hn:noNode y
  ·have hb:=noNode_not hn
   simp only [hn,Bool.false_eq_true,if_false] at hI
   cases hs:inS c y
   ·refine Or.inl ⟨c ||| 2 ^ y.toNat,⟨by simpa [hs] using hI,or_lt10 hc (two_lt10 (by omega))⟩,fun k=>?_⟩
    have h2:=two_lt10 (show y.toNat < 10 by omega)
    have e2:Go.bits .or .i64 (c:Int) (shl .i64 1 y)=((c ||| 2 ^ y.toNat:Nat):Int):=by
     rw [show y=(y.toNat:Int) by omega,shl_nat (by omega),Int.toNat_natCast,or_nat (by omega) (by omega)]
    have h1:¬ y < 0:=by omega
    have h3:decide (y ≥ 10)=false:=by simp;omega
    (refine Ev.shift ?_;simp only [qref01_Of.l0,h0,hlt,hw,hrd,h1,h3,Option.bind_some,↓reduceIte,Bool.false_eq_true,reduceCtorEq,decide_eq_true_eq,rd_,rd_T90,rd_T92])
    (refine Ev.shift ?_;simp only [qref01_Of.j1,ref01_Has_eq hc,hs,hb.1,hw,Option.bind_some,↓reduceIte,Bool.false_eq_true,reduceCtorEq,decide_eq_true_eq,rd_,rd_T90,rd_T92])
    rw [e2]
    exact k
   ·refine Or.inr ?_
    simp only [hs,if_true] at hI
    have h1:¬ y < 0:=by omega
    have h3:decide (y ≥ 10)=false:=by simp;omega
    (refine Ev.shift ?_;simp only [qref01_Of.l0,h0,hlt,hw,hrd,h1,h3,Option.bind_some,↓reduceIte,Bool.false_eq_true,reduceCtorEq,decide_eq_true_eq,rd_,rd_T90,rd_T92])
    (refine Ev.shift ?_;simp only [qref01_Of.j1,ref01_Has_eq hc,hs,Option.bind_some,↓reduceIte,Bool.false_eq_true,reduceCtorEq,decide_eq_true_eq,rd_,rd_T90,rd_T92])
    rw [← hI]
    exact Ev.now _
  ·refine Or.inr ?_
   simp only [hn,if_true] at hI
   rw [← hI]
   by_cases h1:y < 0
   ·(refine Ev.shift ?_;simp only [qref01_Of.l0,h0,hlt,hw,hrd,h1,Option.bind_some,↓reduceIte,Bool.false_eq_true,reduceCtorEq,decide_eq_true_eq,rd_,rd_T90,rd_T92])
    (refine Ev.shift ?_;simp only [qref01_Of.j1,Option.bind_some,↓reduceIte,Bool.false_eq_true,reduceCtorEq,decide_eq_true_eq,rd_,rd_T90,rd_T92])
    exact Ev.now _
   ·have h3:decide (y ≥ 10)=true:=by simp [noNode] at hn ⊢;omega
    (refine Ev.shift ?_;simp only [qref01_Of.l0,h0,hlt,hw,hrd,h1,h3,Option.bind_some,↓reduceIte,Bool.false_eq_true,reduceCtorEq,decide_eq_true_eq,rd_,rd_T90,rd_T92])
    (refine Ev.shift ?_;simp only [qref01_Of.j1,Option.bind_some,↓reduceIte,Bool.false_eq_true,reduceCtorEq,decide_eq_true_eq,rd_,rd_T90,rd_T92])
    exact Ev.now _
theorem ref_Uses_ev:∀ (n:Nat) (t:S90),wt t < n→n < 1152921504606846976→Ev (fun k=>qref02_Uses.f k t.f0 t.f1 t.f2) (uses t:Int)
 | 0,t,h,_=>absurd h (by omega)
 | n+1,t,h,hn=>by
  rw [wt_eq] at h
  have hl:=len_wtL t.f2
  have hU:=uses_lt t
  rw [uses_eq] at hU ⊢
  generalize hT:(t.f1.foldl (fun a x=>if noNode x=true then a else a ||| 2 ^ x.toNat) 0 ||| useL t.f2)=T at hU
  have l1:∀ c,c < 1024→c ||| useL t.f2=T→Ev (fun k=>qref02_Uses.l1 k (c:Int) t.f2 (t.f2.length:Int) 0) (T:Int):=by
   intro c hc hcT
   refine Ev.fold (L:=fun (c:Nat) i k=>qref02_Uses.l1 k (c:Int) t.f2 (t.f2.length:Int) i) (by omega) (fun pre ys c=>c ||| useL ys=T∧c < 1024) ?_ ?_ c ⟨hcT,hc⟩
   ·rintro c i ⟨hI,hc⟩ hi
    rw [useL,Nat.or_zero] at hI
    (refine Ev.shift ?_;simp only [qref02_Uses.l1,hi,Option.bind_some,↓reduceIte,Bool.false_eq_true,reduceCtorEq,decide_eq_true_eq,rd_,rd_T90,rd_T92])
    rw [← hI]
    exact Ev.now _
   ·rintro pre y ys c i e ⟨hI,hc⟩ hi h0 hlt hw hrd
    rw [useL] at hI
    refine Or.inl ⟨c ||| uses y,⟨by rw [Nat.or_assoc];exact hI,or_lt10 hc (uses_lt y)⟩,fun k=>?_⟩
    (refine Ev.shift ?_;simp only [qref02_Uses.l1,h0,hlt,hw,hrd,Option.bind_some,↓reduceIte,Bool.false_eq_true,reduceCtorEq,decide_eq_true_eq,rd_,rd_T90,rd_T92])
    refine Ev.bind1 (ref_Uses_ev n y (by have:=wt_mem (show y∈t.f2 by rw [e];simp);omega) (by omega)) ?_
    have:=uses_lt y
    rw [or_nat (by omega) (by omega)]
    exact k
  (refine Ev.shift ?_;simp only [qref02_Uses.f,Option.bind_some,↓reduceIte,Bool.false_eq_true,reduceCtorEq,decide_eq_true_eq,rd_,rd_T90,rd_T92])
  refine Ev.fold (L:=fun (c:Nat) i k=>qref02_Uses.l0 k (c:Int) t.f1 (t.f1.length:Int) i t.f0 t.f1 t.f2) (by omega) (fun pre ys c=>(ys.foldl (fun a x=>if noNode x=true then a else a ||| 2 ^ x.toNat) c) ||| useL t.f2=T∧c < 1024) ?_ ?_ 0 ⟨hT,by decide⟩
  ·rintro c i ⟨hI,hc⟩ hi
   (refine Ev.shift ?_;simp only [qref02_Uses.l0,hi,Option.bind_some,↓reduceIte,Bool.false_eq_true,reduceCtorEq,decide_eq_true_eq,rd_,rd_T90,rd_T92])
   exact l1 c hc hI
  ·rintro pre y ys c i e ⟨hI,hc⟩ hi h0 hlt hw hrd
   rw [List.foldl_cons] at hI
   cases hn:noNode y
   ·have hb:=noNode_not hn
    have h2:=two_lt10 (show y.toNat < 10 by omega)
    refine Or.inl ⟨c ||| 2 ^ y.toNat,⟨by simpa [hn] using hI,or_lt10 hc h2⟩,fun k=>?_⟩
    have e2:Go.bits .or .i64 (c:Int) (shl .i64 1 y)=((c ||| 2 ^ y.toNat:Nat):Int):=by
     rw [show y=(y.toNat:Int) by omega,shl_nat (by omega),Int.toNat_natCast,or_nat (by omega) (by omega)]
    have h3:y ≥ 0:=by omega
    have h4:y < 10:=by omega
    (refine Ev.shift ?_;simp only [qref02_Uses.l0,h0,hlt,hw,hrd,h3,h4,decide_true,hb.1,Option.bind_some,↓reduceIte,Bool.false_eq_true,reduceCtorEq,decide_eq_true_eq,rd_,rd_T90,rd_T92])
    rw [e2]
    exact k
   ·refine Or.inl ⟨c,⟨by simpa [hn] using hI,hc⟩,fun k=>?_⟩
    by_cases h3:y ≥ 0
    ·have h4:¬ y < 10:=by simp [noNode] at hn;omega
     (refine Ev.shift ?_;simp only [qref02_Uses.l0,h0,hlt,hw,hrd,h3,h4,decide_false,Option.bind_some,↓reduceIte,Bool.false_eq_true,reduceCtorEq,decide_eq_true_eq,rd_,rd_T90,rd_T92])
     exact k
    ·(refine Ev.shift ?_;simp only [qref02_Uses.l0,h0,hlt,hw,hrd,h3,Option.bind_some,↓reduceIte,Bool.false_eq_true,reduceCtorEq,decide_eq_true_eq,rd_,rd_T90,rd_T92])
     exact k
theorem ref_level_ev:∀ (n:Nat) (t:S90),wt t < n→n < 1152921504606846976→Ev (fun k=>qref02_check.f k t.f0 t.f1 t.f2) (chk t)
 | 0,t,h,_=>absurd h (by omega)
 | n+1,t,h,hn=>by
  rw [wt_eq] at h
  have hl:=len_wtL t.f2
  rw [chk_eq]
  have el:wrap64 ((t.f1.length:Int)+(t.f2.length:Int))=((t.f1.length+t.f2.length:Nat):Int):=by rw [w64 (by omega) (by omega)];omega
  by_cases h1:t.f0 < 1
  ·(refine Ev.shift ?_;simp only [qref02_check.f,h1,true_or,Option.bind_some,↓reduceIte,Bool.false_eq_true,reduceCtorEq,decide_eq_true_eq,rd_,rd_T90,rd_T92])
   (refine Ev.shift ?_;simp only [qref02_check.j0,Option.bind_some,↓reduceIte,Bool.false_eq_true,reduceCtorEq,decide_eq_true_eq,rd_,rd_T90,rd_T92])
   exact Ev.now _
  by_cases h2:t.f0 > ((t.f1.length+t.f2.length:Nat):Int)
  ·(refine Ev.shift ?_;simp only [qref02_check.f,h1,h2,el,or_true,decide_true,Option.bind_some,↓reduceIte,Bool.false_eq_true,reduceCtorEq,decide_eq_true_eq,rd_,rd_T90,rd_T92])
   (refine Ev.shift ?_;simp only [qref02_check.j0,Option.bind_some,↓reduceIte,Bool.false_eq_true,reduceCtorEq,decide_eq_true_eq,rd_,rd_T90,rd_T92])
   exact Ev.now _
  (refine Ev.shift ?_;simp only [qref02_check.f,h1,h2,el,or_false,decide_false,Option.bind_some,↓reduceIte,Bool.false_eq_true,reduceCtorEq,decide_eq_true_eq,rd_,rd_T90,rd_T92])
  (refine Ev.shift ?_;simp only [qref02_check.j0,Option.bind_some,↓reduceIte,Bool.false_eq_true,reduceCtorEq,decide_eq_true_eq,rd_,rd_T90,rd_T92])
  have l1:Ev (fun k=>qref02_check.l1 k t.f2 (t.f2.length:Int) 0) (chkL t.f2):=by
    refine Ev.fold (L:=fun (c:Unit) i k=>qref02_check.l1 k t.f2 (t.f2.length:Int) i) (by omega) (fun pre ys c=>chkL ys=chkL t.f2) ?_ ?_ () rfl
    ·intro c i hI hi
     rw [chkL] at hI
     (refine Ev.shift ?_;simp only [qref02_check.l1,hi,Option.bind_some,↓reduceIte,Bool.false_eq_true,reduceCtorEq,decide_eq_true_eq,rd_,rd_T90,rd_T92])
     rw [← hI]
     exact Ev.now _
    ·intro pre y ys c i e hI hi h0 hlt hw hrd
     rw [chkL] at hI
     have hy:=ref_level_ev n y (by have:=wt_mem (show y∈t.f2 by rw [e];simp);omega) (by omega)
     by_cases h4:chk y=0
     ·refine Or.inl ⟨(),by rw [← hI,if_pos h4],fun k=>?_⟩
      (refine Ev.shift ?_;simp only [qref02_check.l1,h0,hlt,hw,hrd,Option.bind_some,↓reduceIte,Bool.false_eq_true,reduceCtorEq,decide_eq_true_eq,rd_,rd_T90,rd_T92])
      refine Ev.bind1 hy ?_
      simp only [h4,if_true]
      exact k
     ·refine Or.inr ?_
      rw [← hI,if_neg h4]
      (refine Ev.shift ?_;simp only [qref02_check.l1,h0,hlt,hw,hrd,Option.bind_some,↓reduceIte,Bool.false_eq_true,reduceCtorEq,decide_eq_true_eq,rd_,rd_T90,rd_T92])
      refine Ev.bind1 hy ?_
      simp only [h4,if_false]
      exact Ev.now _
  generalize hT:(if (t.f1.any noNode)=true then 5 else if (ofS 0 t.f1).2=0 then chkL t.f2 else (ofS 0 t.f1).2)=T
  refine Ev.fold (L:=fun (c:Unit) i k=>qref02_check.l0 k t.f1 (t.f1.length:Int) i t.f0 t.f1 t.f2) (by omega) (fun pre ys c=>(if (ys.any noNode)=true then 5 else if (ofS 0 t.f1).2=0 then chkL t.f2 else (ofS 0 t.f1).2)=T) ?_ ?_ () hT
  ·intro c i hI hi
   simp only [List.any_nil,Bool.false_eq_true,if_false] at hI
   (refine Ev.shift ?_;simp only [qref02_check.l0,hi,Option.bind_some,↓reduceIte,Bool.false_eq_true,reduceCtorEq,decide_eq_true_eq,rd_,rd_T90,rd_T92])
   refine Ev.bind1 (ref_Of_ev t.f1 (by omega)) ?_
   rw [← hI]
   by_cases h3:(ofS 0 t.f1).2=0
   ·simp only [h3,if_true]
    exact l1
   ·simp only [h3,if_false]
    exact Ev.now _
  ·intro pre y ys c i e hI hi h0 hlt hw hrd
   rw [List.any_cons] at hI
   cases hn:noNode y
   ·have hb:=noNode_not hn
    have h3:¬ y < 0:=by omega
    have h4:¬ y ≥ 10:=by omega
    refine Or.inl ⟨(),by simpa [hn] using hI,fun k=>?_⟩
    (refine Ev.shift ?_;simp only [qref02_check.l0,h0,hlt,hw,hrd,h3,h4,Option.bind_some,↓reduceIte,Bool.false_eq_true,reduceCtorEq,decide_eq_true_eq,rd_,rd_T90,rd_T92])
    exact k
   ·refine Or.inr ?_
    simp only [hn,Bool.true_or,if_true] at hI
    rw [← hI]
    by_cases h3:y < 0
    ·(refine Ev.shift ?_;simp only [qref02_check.l0,h0,hlt,hw,hrd,h3,Option.bind_some,↓reduceIte,Bool.false_eq_true,reduceCtorEq,decide_eq_true_eq,rd_,rd_T90,rd_T92])
     exact Ev.now _
    ·have h4:y ≥ 10:=by simp [noNode] at hn;omega
     (refine Ev.shift ?_;simp only [qref02_check.l0,h0,hlt,hw,hrd,h3,h4,Option.bind_some,↓reduceIte,Bool.false_eq_true,reduceCtorEq,decide_eq_true_eq,rd_,rd_T90,rd_T92])
     exact Ev.now _
theorem ref_Valid_ev (t:S90) (h:wt t < 1000000):Ev (fun k=>qref02_Valid.f k t.f0 t.f1 t.f2) (validT t):=by
 simp only [qref02_Valid.f,validT,Option.bind_some,↓reduceIte,Bool.false_eq_true,reduceCtorEq,decide_eq_true_eq,rd_,rd_T90,rd_T92]
 refine Ev.bind1 (ref_Depth_ev 1000000 t h (by decide)) ?_
 by_cases h1:dep t > 4
 ·have:(dep t:Int) > 4:=by omega
  simp only [h1,this,Option.bind_some,↓reduceIte,Bool.false_eq_true,reduceCtorEq,decide_eq_true_eq,rd_,rd_T90,rd_T92]
  exact Ev.now _
 have h2:¬ (dep t:Int) > 4:=by omega
 simp only [h1,h2,Option.bind_some,↓reduceIte,Bool.false_eq_true,reduceCtorEq,decide_eq_true_eq,rd_,rd_T90,rd_T92]
 refine Ev.bind1 (ref_Size_ev 1000000 t h (by decide)) ?_
 by_cases h3:siz t > 200
 ·have:(siz t:Int) > 200:=by omega
  simp only [h3,this,Option.bind_some,↓reduceIte,Bool.false_eq_true,reduceCtorEq,decide_eq_true_eq,rd_,rd_T90,rd_T92]
  exact Ev.now _
 have h4:¬ (siz t:Int) > 200:=by omega
 simp only [h3,h4,Option.bind_some,↓reduceIte,Bool.false_eq_true,reduceCtorEq,decide_eq_true_eq,rd_,rd_T90,rd_T92]
 refine Ev.bind1 (ref_level_ev 1000000 t h (by decide)) ?_
 exact Ev.now _
def EvP {α:Type} (g:Nat→Option α) (P:α→Prop):Prop:=∃ r,P r∧Ev g r
theorem EvP.now {α:Type} {P:α→Prop} {r:α} (h:P r):EvP (fun _=>some r) P:=⟨r,h,Ev.now r⟩
theorem EvP.shift {α:Type} {g:Nat→Option α} {P:α→Prop} (h:EvP (fun k=>g (k+1)) P):EvP g P:=by
 obtain ⟨r,h1,h2⟩:=h
 exact ⟨r,h1,Ev.shift h2⟩
theorem EvP.bind {α β:Type} {g:Nat→Option α} {f:Nat→α→Option β} {P:α→Prop} {Q:β→Prop} (h:EvP g P) (k:∀ a,P a→EvP (fun n=>f n a) Q):EvP (fun n=>(g n).bind (f n)) Q:=by
 obtain ⟨a,h1,h2⟩:=h
 obtain ⟨r,k1,k2⟩:=k a h1
 exact ⟨r,k1,Ev.bind h2 k2⟩
theorem EvP.imp {α:Type} {g:Nat→Option α} {P Q:α→Prop} (h:EvP g P) (k:∀ a,P a→Q a):EvP g Q:=by
 obtain ⟨r,h1,h2⟩:=h
 exact ⟨r,k r h1,h2⟩
theorem EvP.ofEv {α:Type} {g:Nat→Option α} {r:α} (h:Ev g r):EvP g (fun x=>x=r):=⟨r,rfl,h⟩
theorem EvP.loop {σ ρ:Type} {L:σ→Nat→Option ρ} {Q:ρ→Prop} (I:σ→Prop) (m:σ→Nat)
  (hstep:∀ c,I c→(∀ c',I c'→m c' < m c→EvP (L c') Q)→EvP (L c) Q) (c0:σ) (h0:I c0):EvP (L c0) Q:=by
 have key:∀ n c,m c < n→I c→EvP (L c) Q:=by
  intro n
  induction n with
  | zero=>intro c h;exact absurd h (by omega)
  | succ n ih=>intro c h hc;exact hstep c hc fun c' h' hm=>ih c' (by omega) h'
 exact key (m c0+1) c0 (by omega) h0
theorem tN {s:List Int} (hs:s.length < 4611686018427387904) {s1 a:Int} (h1:0≤s1) (ha:0 < a) (ha2:a < 4611686018427387904) :
  EvP (fun _=>qmake_Tape_N.f s s1 a) (fun r=>(0≤r.1∧r.1 < a)∧0≤r.2):=by
 unfold qmake_Tape_N.f
 by_cases h:s1 ≥ (s.length:Int)
 ·simp only [h,if_true]
  exact EvP.now ⟨⟨by simp,by simpa using ha⟩,h1⟩
 have h2:s1 < (s.length:Int):=by omega
 have h3:¬ a=0:=by omega
 have hb1:=Int.tmod_lt_of_pos (rd s s1) ha
 have hb2:- a < Int.tmod (rd s s1) a:=by
  have:=Int.lt_tmod_of_pos (rd s s1) ha
  omega
 simp only [h,if_false,h1,if_true,h2,h3]
 by_cases h4:Int.tmod (rd s s1) a < 0
 ·simp only [h4,if_true]
  refine EvP.now ?_
  show (0≤wrap64 _∧wrap64 _ < a)∧0≤wrap64 _
  rw [w64 (by omega) (by omega),w64 (by omega) (by omega)]
  omega
 ·simp only [h4,if_false]
  refine EvP.now ?_
  show (0≤Int.tmod (rd s s1) a∧Int.tmod (rd s s1) a < a)∧0≤wrap64 _
  rw [w64 (by omega) (by omega)]
  omega
theorem tRange {s:List Int} (hs:s.length < 4611686018427387904) {s1 a b:Int} (h1:0≤s1) (ha:0≤a) (hb:a≤b) (hb2:b < 4611686018427387) :
  EvP (fun _=>qmake_Tape_Range.f s s1 a b) (fun r=>(a≤r.1∧r.1≤b)∧0≤r.2):=by
 unfold qmake_Tape_Range.f
 rw [w64 (n:=b - a) (by omega) (by omega),w64 (by omega) (by omega)]
 refine EvP.bind (tN hs h1 (by omega) (by omega)) ?_
 rintro ⟨v,s'⟩ ⟨⟨h2,h3⟩,h4⟩
 refine EvP.now ?_
 show (a≤wrap64 _∧wrap64 _≤b)∧0≤s'
 simp only at h2 h3 h4 ⊢
 rw [w64 (by omega) (by omega)]
 omega
theorem tPick {s:List Int} (hs:s.length < 4611686018427387904) {s1:Int} {l:List Int} (h1:0≤s1) (ha:0 < l.length) (hl:l.length < 4611686018427387904) :
  EvP (fun _=>qmake_Tape_Pick.f s s1 l) (fun r=>r.1∈l∧0≤r.2):=by
 unfold qmake_Tape_Pick.f
 refine EvP.bind (tN hs h1 (by omega) (by omega)) ?_
 rintro ⟨v,s'⟩ ⟨⟨h2,h3⟩,h4⟩
 simp only at h2 h3 h4 ⊢
 simp only [h2,h3,if_true]
 refine EvP.now ⟨?_,h4⟩
 simp only [rd]
 have h5:v.toNat < l.length:=by omega
 rw [List.getD_eq_getElem?_getD,List.getElem?_eq_getElem h5]
 exact List.getElem_mem h5
theorem tOrder {s:List Int} (hs:s.length < 4611686018427387904) {s1:Int} {n:Nat} (h1:0≤s1) (hn:n≤1000) :
  EvP (fun k=>qmake_Tape_Order.f k s s1 (n:Int)) (fun r=>(r.1.length=n∧∀ x∈r.1,0≤x∧x < (n:Int))∧0≤r.2):=by
 simp only [qmake_Tape_Order.f]
 have l1:∀ (l:List Int) (i:Int) (s1:Int),0≤s1→l.length=n→(∀ x∈l,0≤x∧x < (n:Int))→i < n →
   EvP (fun k=>qmake_Tape_Order.l1 k l i s s1) (fun r=>(r.1.length=n∧∀ x∈r.1,0≤x∧x < (n:Int))∧0≤r.2):=by
  intro l i s1 h1 hl hx hi
  refine EvP.loop (L:=fun (c:List Int × Int × Int) k=>qmake_Tape_Order.l1 k c.1 c.2.1 s c.2.2) (fun c=>0≤c.2.2∧c.1.length=n∧(∀ x∈c.1,0≤x∧x < (n:Int))∧c.2.1 < n) (fun c=>c.2.1.toNat) ?_ (l,i,s1) ⟨h1,hl,hx,hi⟩
  rintro ⟨l,i,s1⟩ ⟨h1,hl,hx,hi⟩ ih
  simp only at h1 hl hx hi ih ⊢
  by_cases h0:i > 0
  ·have e1:wrap64 (i+1)=i+1:=w64 (by omega) (by omega)
   have e2:wrap64 (i - 1)=i - 1:=w64 (by omega) (by omega)
   have h3:0≤i:=by omega
   have h4:i < (l.length:Int):=by omega
   (refine EvP.shift ?_;simp only [qmake_Tape_Order.l1,h0,e1,e2,h3,h4,Option.bind_some,↓reduceIte,Bool.false_eq_true,reduceCtorEq,decide_eq_true_eq,rd_,rd_T90,rd_T92])
   refine EvP.bind (tN hs h1 (by omega) (by omega)) ?_
   rintro ⟨v,s'⟩ ⟨⟨h5,h6⟩,h7⟩
   simp only at h5 h6 h7 ⊢
   have h8:v < (l.length:Int):=by omega
   simp only [h5,h8,if_true]
   have hm:∀ j:Nat,j < l.length→l.getD j 0∈l:=fun j hj=>by
    rw [List.getD_eq_getElem?_getD,List.getElem?_eq_getElem hj];exact List.getElem_mem hj
   refine ih (_,i - 1,s') ⟨h7,by simpa using hl,?_,by show i - 1 < n;omega⟩ (by show (i - 1).toNat < i.toNat;omega)
   intro x hx'
   rcases List.mem_or_eq_of_mem_set hx' with h|h
   ·rcases List.mem_or_eq_of_mem_set h with h|h
    ·exact hx x h
    ·rw [h];exact hx _ (hm _ (by omega))
   ·rw [h];exact hx _ (hm _ (by omega))
  ·(refine EvP.shift ?_;simp only [qmake_Tape_Order.l1,h0,Option.bind_some,↓reduceIte,Bool.false_eq_true,reduceCtorEq,decide_eq_true_eq,rd_,rd_T90,rd_T92])
   exact EvP.now ⟨⟨hl,hx⟩,h1⟩
 refine EvP.loop (L:=fun (c:List Int × Int) k=>qmake_Tape_Order.l0 k (n:Int) c.1 c.2 s s1) (fun c=>c.2=(c.1.length:Int)∧c.2≤n∧(∀ x∈c.1,0≤x∧x < (n:Int))) (fun c=>n - c.1.length) ?_ ([],0) ⟨rfl,by show (0:Int)≤n;omega,by simp⟩
 rintro ⟨l,i⟩ ⟨h2,h3,hx⟩ ih
 simp only at h2 h3 hx ih ⊢
 by_cases h0:i < (n:Int)
 ·have e1:wrap64 (i+1)=i+1:=w64 (by omega) (by omega)
  have h4:l.length < 17592186044416:=by omega
  (refine EvP.shift ?_;simp only [qmake_Tape_Order.l0,h0,e1,h4,Option.bind_some,↓reduceIte,Bool.false_eq_true,reduceCtorEq,decide_eq_true_eq,rd_,rd_T90,rd_T92])
  refine ih (l++[i],i+1) ⟨by simp;omega,by show i+1≤n;omega,?_⟩ (by simp;omega)
  intro x hx'
  rcases List.mem_append.1 hx' with h|h
  ·exact hx x h
  ·rw [List.mem_singleton.1 h];omega
 ·(refine EvP.shift ?_;simp only [qmake_Tape_Order.l0,h0,Option.bind_some,↓reduceIte,Bool.false_eq_true,reduceCtorEq,decide_eq_true_eq,rd_,rd_T90,rd_T92])
  exact l1 l _ s1 h1 (by omega) hx (by rw [w64 (by omega) (by omega)];omega)
def foldU (l:List Int) (a:Nat):Nat:=l.foldl (fun a x=>if noNode x=true then a else a ||| 2 ^ x.toNat) a
theorem foldU_lt {n:Nat} (hn:n≤10):∀ (l:List Int) (a:Nat),a < 2 ^ n→(∀ x∈l,0≤x∧x < (n:Int))→foldU l a < 2 ^ n:=by
 intro l
 induction l with
 | nil=>intro a h _;exact h
 | cons x xs ih =>
  intro a h hx
  have h1:=hx x (by simp)
  show foldU xs (if noNode x=true then a else a ||| 2 ^ x.toNat) < 2 ^ n
  refine ih _ ?_ fun y hy=>hx y (by simp [hy])
  split
  ·exact h
  ·exact or_lt h (Nat.pow_lt_pow_right (by decide) (by omega))
theorem useL_lt2 {n:Nat}:∀ (l:List S90),(∀ t∈l,uses t < 2 ^ n)→useL l < 2 ^ n
 | [],_=>by rw [useL];exact Nat.two_pow_pos n
 | t :: ts,h=>by rw [useL];exact or_lt (h t (by simp)) (useL_lt2 ts fun y hy=>h y (by simp [hy]))
theorem wtL_le {b:Nat}:∀ (l:List S90),(∀ t∈l,wt t≤b)→wtL l≤l.length * b
 | [],_=>by rw [wtL];omega
 | t :: ts,h=>by
  rw [wtL,List.length_cons,Nat.add_mul]
  have:=h t (by simp)
  have:=wtL_le ts fun y hy=>h y (by simp [hy])
  omega
def In (n b:Nat) (t:S90):Prop:=wt t≤b∧uses t < 2 ^ n
theorem In_mk {n b:Nat} (hn:n≤10) {v:Int} {l:List Int} {ts:List S90} (h2:∀ x∈l,0≤x∧x < (n:Int)) (h4:∀ t∈ts,In n b t) (B:Nat) (hB:1+l.length+ts.length * b≤B):In n B ⟨v,l,ts⟩:=by
 constructor
 ·rw [wt_eq]
  have:=wtL_le ts fun t ht=>(h4 t ht).1
  simp only
  omega
 ·rw [uses_eq]
  exact or_lt (foldU_lt hn l 0 (Nat.two_pow_pos n) h2) (useL_lt2 ts fun t ht=>(h4 t ht).2)
abbrev toT (r:Int × List Int × List S90 × Int):S90:=⟨r.1,r.2.1,r.2.2.1⟩
theorem trust_row {s:List Int} (hs:s.length < 4611686018427387904) {n b:Nat} (hn:n≤10) (hn1:1≤n) (hb:b≤100) (a2:Int) (h2:a2≤10)
  (hrec:a2 > 1→∀ s1,0≤s1→EvP (fun k=>qmake_trust.f k s s1 (n:Int) (wrap64 (a2 - 1))) (fun r=>In n b (toT r)∧0≤r.2.2.2)) {s1:Int} (h1:0≤s1) :
  EvP (fun k=>qmake_trust.f k s s1 (n:Int) a2) (fun r=>In n (6+3 * b) (toT r)∧0≤r.2.2.2):=by
 have fin:∀ (v:Int) (l:List Int) (ts:List S90),l.length≤5→(∀ x∈l,0≤x∧x < (n:Int))→ts.length≤3→(∀ t∈ts,In n b t)→In n (6+3 * b) ⟨v,l,ts⟩:=by
  intro v l ts h1 h2 h3 h4
  refine In_mk hn h2 h4 _ ?_
  have:ts.length * b≤3 * b:=Nat.mul_le_mul_right b h3
  omega
 have fine:∀ (v:Int) (l:List Int) (ts:List S90) (s2:Int),l.length≤5→(∀ x∈l,0≤x∧x < (n:Int))→ts.length≤3→(∀ t∈ts,In n b t)→0≤s2→EvP (fun _=>some (v,l,ts,s2)) (fun r=>In n (6+3 * b) (toT r)∧0≤r.2.2.2) :=
  fun v l ts s2 h1 h2 h3 h4 h5=>EvP.now ⟨fin v l ts h1 h2 h3 h4,h5⟩
 clear fin
 generalize 6+3 * b=B at fine ⊢
 have L1:∀ (l:List Int),1≤l.length→l.length≤5→(∀ x∈l,0≤x∧x < (n:Int))→a2 > 1→∀ (m:Nat),m≤3→∀ (s1:Int),0≤s1 →
   EvP (fun k=>qmake_trust.l1 k (n:Int) a2 (m:Int) s s1 0 l ([]:List S90)) (fun r=>In n B (toT r)∧0≤r.2.2.2):=by
  intro l hl0 hl hx ha m hm s1 h1
  refine EvP.loop (L:=fun (c:Nat × Int × List S90) k=>qmake_trust.l1 k (n:Int) a2 (c.1:Int) s c.2.1 0 l c.2.2) (fun c=>0≤c.2.1∧c.1+c.2.2.length≤3∧∀ t∈c.2.2,In n b t) (fun c=>c.1) ?_ (m,s1,[]) ⟨h1,by simp;omega,by simp⟩
  rintro ⟨m,s1,ts⟩ ⟨h1,h3,h4⟩ ih
  simp only at h1 h3 h4 ih ⊢
  by_cases h0:(m:Int) > 0
  ·have e1:wrap64 ((m:Int) - 1)=((m - 1:Nat):Int):=by rw [w64 (by omega) (by omega)];omega
   have h6:ts.length < 2513169434916:=by omega
   (refine EvP.shift ?_;simp only [qmake_trust.l1,h0,e1,h6,Option.bind_some,↓reduceIte,Bool.false_eq_true,reduceCtorEq,decide_eq_true_eq,rd_,rd_T90,rd_T92])
   refine EvP.bind (hrec ha s1 h1) ?_
   rintro ⟨v,l',ts',s'⟩ ⟨h7,h8⟩
   refine ih (m - 1,s',ts++[⟨v,l',ts'⟩]) ⟨h8,by simp;omega,?_⟩ (by show m - 1 < m;omega)
   intro t ht
   rcases List.mem_append.1 ht with h|h
   ·exact h4 t h
   ·rw [List.mem_singleton.1 h];exact h7
  ·clear ih
   have ew:wrap64 ((l.length:Int)+(ts.length:Int))=(l.length:Int)+(ts.length:Int):=w64 (by omega) (by omega)
   by_cases h5:(ts.length:Int) > 0
   ·(refine EvP.shift ?_;simp only [qmake_trust.l1,h0,h5,ew,Option.bind_some,↓reduceIte,Bool.false_eq_true,reduceCtorEq,decide_eq_true_eq,rd_,rd_T90,rd_T92])
    clear ew
    refine EvP.bind (tN hs h1 (by omega) (by omega)) ?_
    rintro ⟨v,s'⟩ ⟨⟨h6,h7⟩,h8⟩
    simp only at h6 h7 h8 ⊢
    split
    ·rw [show wrap64 ((([]:List Int).length:Int)+(ts.length:Int))=(ts.length:Int) by rw [List.length_nil,w64 (by omega) (by omega)];omega]
     refine EvP.bind (tRange hs h8 (by omega) (by omega) (by omega)) ?_
     rintro ⟨v2,s2⟩ ⟨h9,h10⟩
     exact fine v2 [] ts s2 (by simp) (by simp) (by omega) h4 h10
    ·refine EvP.bind (tRange hs h8 (by omega) (by omega) (by omega)) ?_
     rintro ⟨v2,s2⟩ ⟨h9,h10⟩
     exact fine v2 l ts s2 hl hx (by omega) h4 h10
   ·(refine EvP.shift ?_;simp only [qmake_trust.l1,h0,h5,ew,Option.bind_some,↓reduceIte,Bool.false_eq_true,reduceCtorEq,decide_eq_true_eq,rd_,rd_T90,rd_T92])
    clear ew
    refine EvP.bind (tRange hs h1 (by omega) (by omega) (by omega)) ?_
    rintro ⟨v2,s2⟩ ⟨h9,h10⟩
    exact fine v2 l ts s2 hl hx (by omega) h4 h10
 have mnv:mn (n:Int) 5≤n∧1≤mn (n:Int) 5∧mn (n:Int) 5≤5:=by unfold mn;split <;> omega
 (refine EvP.shift ?_;simp only [qmake_trust.f,Option.bind_some,↓reduceIte,Bool.false_eq_true,reduceCtorEq,decide_eq_true_eq,rd_,rd_T90,rd_T92])
 refine EvP.bind (tOrder hs h1 (by omega)) ?_
 rintro ⟨o,s2⟩ ⟨⟨ho,hox⟩,h2'⟩
 simp only at ho hox h2' ⊢
 refine EvP.bind (tRange hs h2' (by omega) mnv.2.1 (by omega)) ?_
 rintro ⟨q,s3⟩ ⟨⟨hq1,hq2⟩,h3'⟩
 simp only at hq1 hq2 h3' ⊢
 have hq3:0≤q:=by omega
 have hq4:q≤(o.length:Int):=by omega
 simp only [hq3,hq4,if_true,Option.bind_some]
 generalize hy:o.take q.toNat=y
 have hyl:y.length=q.toNat:=by rw [← hy,List.length_take];omega
 have hyx:∀ x∈y,0≤x∧x < (n:Int):=fun x hx=>hox x (by rw [← hy] at hx;exact List.mem_of_mem_take hx)
 refine EvP.loop (L:=fun (c:List Int × Int) k=>qmake_trust.l0 k (n:Int) a2 y (y.length:Int) c.2 s s3 0 c.1) (fun c=>c.2=(c.1.length:Int)∧c.1.length≤y.length∧(∀ x∈c.1,0≤x∧x < (n:Int))) (fun c=>y.length - c.1.length) ?_ ([],0) ⟨rfl,by simp,by simp⟩
 rintro ⟨l,i⟩ ⟨h3,h4,hx⟩ ih
 simp only at h3 h4 hx ih ⊢
 by_cases h0:i < (y.length:Int)
 ·have e1:wrap64 (i+1)=i+1:=w64 (by omega) (by omega)
  have h6:l.length < 17592186044416:=by omega
  have h7:0≤i:=by omega
  (refine EvP.shift ?_;simp only [qmake_trust.l0,h0,e1,h6,h7,Option.bind_some,↓reduceIte,Bool.false_eq_true,reduceCtorEq,decide_eq_true_eq,rd_,rd_T90,rd_T92])
  refine ih (l++[y.getD i.toNat 0],i+1) ⟨by simp;omega,by simp;omega,?_⟩ (by simp;omega)
  intro x hx'
  rcases List.mem_append.1 hx' with h|h
  ·exact hx x h
  ·rw [List.mem_singleton.1 h,List.getD_eq_getElem?_getD,List.getElem?_eq_getElem (show i.toNat < y.length by omega)]
   exact hyx _ (List.getElem_mem _)
 ·by_cases ha:a2 > 1
  ·(refine EvP.shift ?_;simp only [qmake_trust.l0,h0,ha,Option.bind_some,↓reduceIte,Bool.false_eq_true,reduceCtorEq,decide_eq_true_eq,rd_,rd_T90,rd_T92])
   refine EvP.bind (tPick hs h3' (by decide) (by decide)) ?_
   rintro ⟨p,s4⟩ ⟨hp,h4'⟩
   simp only at hp h4' ⊢
   have hp2:0≤p∧p≤3:=by
    simp only [List.mem_cons,List.not_mem_nil,or_false] at hp
    omega
   have:=L1 l (by omega) (by omega) hx ha p.toNat (by omega) s4 h4'
   rw [show ((p.toNat:Nat):Int)=p by omega] at this
   exact this
  ·(refine EvP.shift ?_;simp only [qmake_trust.l0,h0,ha,Option.bind_some,↓reduceIte,Bool.false_eq_true,reduceCtorEq,decide_eq_true_eq,rd_,rd_T90,rd_T92])
   rw [show wrap64 ((l.length:Int)+(([]:List S90).length:Int))=(l.length:Int) by rw [List.length_nil,w64 (by omega) (by omega)];omega]
   refine EvP.bind (tRange hs h3' (by omega) (by omega) (by omega)) ?_
   rintro ⟨v2,s2⟩ ⟨h9,h10⟩
   exact fine v2 l [] s2 (by omega) hx (by simp) (by simp) h10
theorem trust_ev {s:List Int} (hs:s.length < 4611686018427387904) {n:Nat} (hn:n≤10) (hn1:1≤n) {s1:Int} (h1:0≤s1) :
  EvP (fun k=>qmake_trust.f k s s1 (n:Int) 2) (fun r=>In n 24 (toT r)∧0≤r.2.2.2) :=
 trust_row hs (b:=6) hn hn1 (by decide) 2 (by decide) (fun _ s1 h1=>by
  rw [show wrap64 ((2:Int) - 1)=1 from w64 (by decide) (by decide)]
  exact trust_row hs (b:=0) hn hn1 (by decide) 1 (by decide) (fun h=>absurd h (by decide)) h1) h1
def Okt (n:Nat) (t:S90):Prop:=validT t=0∧In n 100 t
theorem one_ok {n:Nat} {v:Int} (h0:0≤v) (h1:v < (n:Int)) (hn:n≤10):Okt n ⟨1,[v],[]⟩:=by
 constructor
 ·have hv:noNode v=false:=by simp [noNode];omega
  have:(ofS 0 [v]).2=0:=by
   rw [ofS,hv,ofS];simp [inS]
  simp [validT,dep,siz,depL,sizL,chk,chkL,hv,this]
 ·exact In_mk hn (b:=0) (by simp;omega) (by simp) _ (by simp)
theorem Trust_ev {s:List Int} (hs:s.length < 4611686018427387904) {n:Nat} (hn:n≤10) (hn1:1≤n) {s1:Int} (h1:0≤s1) :
  EvP (fun k=>qmake_Trust.f k s s1 (n:Int) 2) (fun r=>Okt n (toT r)∧0≤r.2.2.2):=by
 simp only [qmake_Trust.f]
 refine EvP.bind (trust_ev hs hn hn1 h1) ?_
 rintro ⟨v,l,ts,s'⟩ ⟨h2,h3⟩
 simp only at h2 h3 ⊢
 refine EvP.bind (EvP.ofEv (ref_Valid_ev (toT (v,l,ts,s')) (by have:=h2.1;omega))) ?_
 rintro r rfl
 by_cases h:validT (toT (v,l,ts,s'))=0
 ·simp only [h,if_true]
  exact EvP.now ⟨⟨h,Nat.le_trans h2.1 (by decide),h2.2⟩,h3⟩
 ·simp only [h,if_false]
  refine EvP.bind (tN hs h3 (by omega) (by omega)) ?_
  rintro ⟨v,s'⟩ ⟨⟨h2,h3⟩,h4⟩
  exact EvP.now ⟨one_ok h2 h3 hn,h4⟩
theorem ofS_snoc (l:List Int) (x:Int):∀ a,(ofS a l).2=0→ofS a (l++[x])=if noNode x=true then (0,5) else if inS (ofS a l).1 x=true then (0,6) else ((ofS a l).1 ||| 2 ^ x.toNat,0):=by
 induction l with
 | nil=>intro a _;rw [List.nil_append,ofS,ofS,ofS]
 | cons y ys ih =>
  intro a h
  rw [List.cons_append,ofS]
  rw [ofS] at h ⊢
  split at h
  ·cases h
  ·split at h
   ·cases h
   ·rename_i h1 h2
    simp only [h1,h2,if_false]
    exact ih _ h
def Asc (n:Nat) (l:List Int):Prop:=l.length≤n∧(ofS 0 l).2=0∧(ofS 0 l).1 < 2 ^ n∧∀ x∈l,0≤x∧x < (n:Int)
theorem Asc_nil (n:Nat):Asc n []:=⟨by simp,rfl,Nat.two_pow_pos n,by simp⟩
theorem Asc_snoc {n m:Nat} {l:List Int} (h:Asc n l) (hm:m≤10) (hnm:n < m):Asc m (l++[(n:Int)]):=by
 obtain ⟨h1,h2,h3,h4⟩:=h
 have hv:noNode (n:Int)=false:=by simp [noNode];omega
 have hi:inS (ofS 0 l).1 (n:Int)=false:=by rw [inS_nat _ _ (by omega)];exact bit_lt h3 (Nat.le_refl _)
 have e:=ofS_snoc l (n:Int) 0 h2
 rw [hv,hi] at e
 simp only [Bool.false_eq_true,if_false] at e
 refine ⟨by simp;omega,by rw [e],?_,?_⟩
 ·rw [e]
  exact or_lt (Nat.lt_of_lt_of_le h3 (Nat.pow_le_pow_right (by decide) (by omega))) (by rw [Int.toNat_natCast];exact Nat.pow_lt_pow_right (by decide) hnm)
 ·intro x hx
  rcases List.mem_append.1 hx with h|h
  ·have:=h4 x h;omega
  ·rw [List.mem_singleton.1 h];omega
theorem Asc.mono {n m:Nat} {l:List Int} (h:Asc n l) (hnm:n≤m):Asc m l:=by
 obtain ⟨h1,h2,h3,h4⟩:=h
 exact ⟨by omega,h2,Nat.lt_of_lt_of_le h3 (Nat.pow_le_pow_right (by decide) hnm),fun x hx=>by have:=h4 x hx;omega⟩
theorem Asc.any {n:Nat} {l:List Int} (h:Asc n l) (hn:n≤10):l.any noNode=false:=by
 rw [List.any_eq_false]
 intro x hx
 have:=h.2.2.2 x hx
 simp [noNode];omega
def Flat (n:Nat) (t:S90):Prop:=Asc n t.f1∧t.f2=[]∧1≤t.f0∧t.f0≤(t.f1.length:Int)
theorem flat_chk {n:Nat} {t:S90} (hn:n≤10) (h:Flat n t):chk t=0:=by
 obtain ⟨h1,h2,h3,h4⟩:=h
 rw [chk_eq,h2,h1.any hn,h1.2.1,if_neg (by simp;omega)]
 simp [chkL]
theorem flat_in {n:Nat} {t:S90} (hn:n≤10) (h:Flat n t):In n 11 t:=by
 obtain ⟨h1,h2,h3,h4⟩:=h
 have e:t=⟨t.f0,t.f1,[]⟩:=by cases t;simp only at h2;subst h2;rfl
 rw [e]
 have:=h1.1
 exact In_mk hn (b:=0) h1.2.2.2 (by simp) _ (by simp;omega)
theorem flat_ok {n:Nat} {t:S90} (hn:n≤10) (h:Flat n t):Okt n t:=by
 constructor
 ·have:=h.1.1
  rw [validT,dep_eq,siz_eq,h.2.1,flat_chk hn h,depL,sizL]
  simp;omega
 ·have:=flat_in hn h
  exact ⟨Nat.le_trans this.1 (by decide),this.2⟩
theorem most_ev {s:List Int} (hs:s.length < 4611686018427387904) {n:Nat} (hn:n≤10) (hn1:1≤n) {s1:Int} (h1:0≤s1) :
  EvP (fun k=>qmake_most.f k s s1 (n:Int)) (fun r=>Okt n (toT r)∧0≤r.2.2.2):=by
 simp only [qmake_most.f]
 have thr:∀ (l:List Int) (d:Int),1≤l.length→l.length≤10→-1≤d∧d≤1→1≤mn (l.length:Int) (mx 1 (wrap64 ((wrap64 (Int.tdiv (wrap64 ((wrap64 (2 * (l.length:Int)))+2)) 3))+d)))∧mn (l.length:Int) (mx 1 (wrap64 ((wrap64 (Int.tdiv (wrap64 ((wrap64 (2 * (l.length:Int)))+2)) 3))+d)))≤(l.length:Int):=by
  intro l d h1 h2 h3
  unfold mn mx
  split <;> split <;> omega
 have pk:∀ d∈([0,0,0,1,(-1)]:List Int),-1≤d∧d≤1:=by decide
 refine EvP.loop (L:=fun (c:Nat × Int × List Int) k=>qmake_most.l0 k (n:Int) (c.1:Int) s c.2.1 0 c.2.2) (fun c=>0≤c.2.1∧c.1≤n∧Asc c.1 c.2.2) (fun c=>n - c.1) ?_ (0,s1,[]) ⟨h1,by simp,Asc_nil 0⟩
 rintro ⟨i,s1,l⟩ ⟨h1,h3,h4⟩ ih
 simp only at h1 h3 h4 ih ⊢
 have hl:=h4.1
 by_cases h0:(i:Int) < (n:Int)
 ·have e1:wrap64 ((i:Int)+1)=((i+1:Nat):Int):=w64 (by omega) (by omega)
  have h6:l.length < 17592186044416:=by omega
  (refine EvP.shift ?_;simp only [qmake_most.l0,h0,e1,h6,Option.bind_some,↓reduceIte,Bool.false_eq_true,reduceCtorEq,decide_eq_true_eq,rd_,rd_T90,rd_T92])
  refine EvP.bind (tN hs h1 (by omega) (by omega)) ?_
  rintro ⟨v,s'⟩ ⟨⟨h7,h8⟩,h9⟩
  simp only at h7 h8 h9 ⊢
  split
  ·exact ih (i+1,s',l++[(i:Int)]) ⟨h9,by show i+1≤n;omega,Asc_snoc h4 (by omega) (by omega)⟩ (by show n - (i+1) < n - i;omega)
  ·exact ih (i+1,s',l) ⟨h9,by show i+1≤n;omega,h4.mono (by omega)⟩ (by show n - (i+1) < n - i;omega)
 ·have e:i=n:=by omega
  subst e
  by_cases h5:(l.length:Int)=0
  ·(refine EvP.shift ?_;simp only [qmake_most.l0,h0,h5,Option.bind_some,↓reduceIte,Bool.false_eq_true,reduceCtorEq,decide_eq_true_eq,rd_,rd_T90,rd_T92])
   refine EvP.bind (tPick hs h1 (by decide) (by decide)) ?_
   rintro ⟨d,s'⟩ ⟨h7,h8⟩
   simp only at h7 h8 ⊢
   have ht:=thr [0] d (by decide) (by decide) (pk d h7)
   refine EvP.now ⟨flat_ok hn ⟨?_,rfl,ht.1,ht.2⟩,h8⟩
   exact (Asc_snoc (Asc_nil 0) (by decide) (show 0 < 1 by decide)).mono hn1
  ·(refine EvP.shift ?_;simp only [qmake_most.l0,h0,h5,Option.bind_some,↓reduceIte,Bool.false_eq_true,reduceCtorEq,decide_eq_true_eq,rd_,rd_T90,rd_T92])
   refine EvP.bind (tPick hs h1 (by decide) (by decide)) ?_
   rintro ⟨d,s'⟩ ⟨h7,h8⟩
   simp only at h7 h8 ⊢
   have ht:=thr l d (by omega) (by omega) (pk d h7)
   exact EvP.now ⟨flat_ok hn ⟨h4,rfl,ht.1,ht.2⟩,h8⟩
theorem depL_flat {n:Nat}:∀ (l:List S90),(∀ t∈l,Flat n t)→depL l≤1
 | [],_=>by rw [depL];omega
 | t :: ts,h=>by
  rw [depL,dep_eq,(h t (by simp)).2.1,depL]
  have:=depL_flat ts fun y hy=>h y (by simp [hy])
  omega
theorem sizL_flat {n:Nat}:∀ (l:List S90),(∀ t∈l,Flat n t)→sizL l≤l.length * n
 | [],_=>by rw [sizL];omega
 | t :: ts,h=>by
  have:=sizL_flat ts fun y hy=>h y (by simp [hy])
  have h1:=(h t (by simp)).1.1
  rw [sizL,siz_eq,(h t (by simp)).2.1,List.length_cons,Nat.add_mul,sizL,List.length_nil]
  omega
theorem chkL_flat {n:Nat} (hn:n≤10):∀ (l:List S90),(∀ t∈l,Flat n t)→chkL l=0
 | [],_=>by rw [chkL]
 | t :: ts,h=>by rw [chkL,if_pos (flat_chk hn (h t (by simp)))];exact chkL_flat hn ts fun y hy=>h y (by simp [hy])
theorem group_ok {n:Nat} (hn:n≤10) {v:Int} {ts:List S90} (h1:1≤v) (h2:v≤(ts.length:Int)) (h3:ts.length≤3) (h4:∀ t∈ts,Flat n t):Okt n ⟨v,[],ts⟩:=by
 constructor
 ·have hd:=depL_flat ts h4
  have hs:=sizL_flat ts h4
  have:ts.length * n≤3 * 10:=Nat.mul_le_mul h3 hn
  rw [validT,dep_eq,siz_eq,chk_eq]
  simp only [List.length_nil,List.any_nil,ofS,chkL_flat hn ts h4]
  rw [if_neg (by omega),if_neg (by omega),if_neg (by omega)]
  simp
 ·refine In_mk hn (b:=11) (by simp) (fun t ht=>flat_in hn (h4 t ht)) _ ?_
  have:ts.length * 11≤3 * 11:=Nat.mul_le_mul_right 11 h3
  simp only [List.length_nil];omega
theorem getD_mem' {α:Type} {l:List α} {i:Nat} (d:α) (h:i < l.length):l.getD i d∈l:=by
 rw [List.getD_eq_getElem?_getD,List.getElem?_eq_getElem h];exact List.getElem_mem h
theorem group_ev {s:List Int} (hs:s.length < 4611686018427387904) {n:Nat} (hn:n≤10) (hn1:1≤n) {s1:Int} (h1:0≤s1) (i:Nat) (hi:i < 1000) :
  EvP (fun k=>qmake_group.f k s s1 (n:Int) (i:Int)) (fun r=>Okt n (toT r)∧0≤r.2.2.2):=by
 simp only [qmake_group.f]
 refine EvP.loop (L:=fun (c:Nat × Int × List S90) k=>qmake_group.l0 k (n:Int) (i:Int) c.2.2 (c.1:Int) s c.2.1) (fun c=>0≤c.2.1∧c.1≤3∧c.2.2.length≤c.1∧(1≤c.1→1≤c.2.2.length)∧∀ t∈c.2.2,Flat n t) (fun c=>3 - c.1) ?_ (0,s1,[]) ⟨h1,by simp,by simp,by simp,by simp⟩
 clear h1 s1
 rintro ⟨g,s1,ts⟩ ⟨h1,h2,h3,h4,h5⟩ ih
 simp only at h1 h2 h3 h4 h5 ih ⊢
 by_cases h0:(g:Int) < 3
 ·(refine EvP.shift ?_;simp only [qmake_group.l0,h0,Option.bind_some,↓reduceIte,Bool.false_eq_true,reduceCtorEq,decide_eq_true_eq,rd_,rd_T90,rd_T92])
  refine EvP.loop (L:=fun (c:Nat × List Int) k=>qmake_group.l1 k (n:Int) (i:Int) ts (g:Int) (c.1:Int) s s1 1 c.2) (fun c=>Asc (min c.1 n) c.2∧(c.1=g∧c.2=[] ∨ 1≤c.2.length)∧(c.1=g ∨ g+3≤c.1)∧c.1≤100) (fun c=>n - c.1) ?_ (g,[]) ⟨(Asc_nil 0).mono (by omega),Or.inl ⟨rfl,rfl⟩,Or.inl rfl,by show g≤100;omega⟩
  rintro ⟨j,l⟩ ⟨h6,h7,h8,h9⟩ ih2
  simp only at h6 h7 h8 h9 ih2 ⊢
  have hl:=h6.1
  by_cases hj:(j:Int) < (n:Int)
  ·have e1:wrap64 ((j:Int)+3)=((j+3:Nat):Int):=w64 (by omega) (by omega)
   have h10:l.length < 17592186044416:=by omega
   (refine EvP.shift ?_;simp only [qmake_group.l1,hj,e1,h10,Option.bind_some,↓reduceIte,Bool.false_eq_true,reduceCtorEq,decide_eq_true_eq,rd_,rd_T90,rd_T92])
   clear e1
   refine ih2 (j+3,l++[(j:Int)]) ⟨?_,Or.inr (by simp),Or.inr (by show g+3≤j+3;omega),by show j+3≤100;omega⟩ (by show n - (j+3) < n - j;omega)
   rw [show min j n=j by omega] at h6
   exact (Asc_snoc h6 (m:=j+1) (by omega) (by omega)).mono (by show j+1≤min (j+3) n;omega)
  ·rw [show min j n=n by omega] at h6 hl
   have ew:wrap64 ((g:Int)+1)=((g+1:Nat):Int):=w64 (by omega) (by omega)
   by_cases h10:(l.length:Int) > 0
   ·have h11:ts.length < 2513169434916:=by omega
    (refine EvP.shift ?_;simp only [qmake_group.l1,hj,h10,ew,h11,Option.bind_some,↓reduceIte,Bool.false_eq_true,reduceCtorEq,decide_eq_true_eq,rd_,rd_T90,rd_T92])
    clear ew
    refine EvP.bind (tRange hs h1 (by omega) (by omega) (by omega)) ?_
    rintro ⟨v,s'⟩ ⟨⟨h12,h13⟩,h14⟩
    simp only at h12 h13 h14 ⊢
    refine ih (g+1,s',ts++[⟨v,l,[]⟩]) ⟨h14,by show g+1≤3;omega,by simp;omega,by simp,?_⟩ (by show 3 - (g+1) < 3 - g;omega)
    intro t ht
    rcases List.mem_append.1 ht with h|h
    ·exact h5 t h
    ·rw [List.mem_singleton.1 h];exact ⟨h6,rfl,h12,h13⟩
   ·(refine EvP.shift ?_;simp only [qmake_group.l1,hj,h10,ew,Option.bind_some,↓reduceIte,Bool.false_eq_true,reduceCtorEq,decide_eq_true_eq,rd_,rd_T90,rd_T92])
    clear ew
    refine ih (g+1,s1,ts) ⟨h1,by show g+1≤3;omega,by show ts.length≤g+1;omega,fun _=>?_,h5⟩ (by show 3 - (g+1) < 3 - g;omega)
    show 1≤ts.length
    by_cases hg:1≤g
    ·exact h4 hg
    ·exfalso;omega
 ·(refine EvP.shift ?_;simp only [qmake_group.l0,h0,Option.bind_some,↓reduceIte,Bool.false_eq_true,reduceCtorEq,decide_eq_true_eq,rd_,rd_T90,rd_T92])
  refine EvP.bind (tN hs h1 (by omega) (by omega)) ?_
  rintro ⟨v,s'⟩ ⟨⟨h6,h7⟩,h8⟩
  simp only at h6 h7 h8 ⊢
  have h9:1≤ts.length:=h4 (by omega)
  split
  ·have h10:¬ (ts.length:Int)=0:=by omega
   have h11:0≤Int.tmod (i:Int) (ts.length:Int):=Int.tmod_nonneg _ (by omega)
   have h12:Int.tmod (i:Int) (ts.length:Int) < (ts.length:Int):=Int.tmod_lt_of_pos _ (by omega)
   simp only [h10,if_false,h11,if_true,h12]
   have hf:=flat_ok hn (h5 _ (getD_mem' (l:=ts) z90 (show (Int.tmod (i:Int) (ts.length:Int)).toNat < ts.length by omega)))
   generalize ts.getD (Int.tmod (i:Int) (ts.length:Int)).toNat z90=t at hf ⊢
   cases t
   exact EvP.now ⟨hf,h8⟩
  ·have ew:wrap64 ((ts.length:Int) - 1)=(ts.length:Int) - 1:=w64 (by omega) (by omega)
   rw [ew]
   clear ew
   have hm:1≤mx 1 ((ts.length:Int) - 1)∧mx 1 ((ts.length:Int) - 1)≤(ts.length:Int):=by unfold mx;split <;> omega
   refine EvP.bind (tRange hs h8 (by omega) (by omega) (by omega)) ?_
   rintro ⟨v,s'⟩ ⟨⟨h12,h13⟩,h14⟩
   simp only at h12 h13 h14 ⊢
   exact EvP.now ⟨group_ok hn (show 1≤v by omega) h13 (show ts.length≤3 by omega) h5,h14⟩
def OkM (n:Nat) (m:S92):Prop:=if m.f0=true then Okt n m.f1 else m.f1=⟨0,[],[]⟩
def OkC (c:List S92):Prop:=1≤c.length∧c.length≤10∧∀ m∈c,OkM c.length m
theorem Config_ev {s:List Int} (hs:s.length < 4611686018427387904) {a:Int} (ha:1≤a) (ha2:a≤10) {s1:Int} (h1:0≤s1) :
  EvP (fun k=>qmake_Config.f k s s1 a) (fun r=>(OkC r.1∧(r.1.length:Int)≤a)∧0≤r.2):=by
 simp only [qmake_Config.f]
 refine EvP.bind (tRange hs h1 (by omega) ha (by omega)) ?_
 rintro ⟨N,s2⟩ ⟨⟨h2,h3⟩,h4⟩
 simp only at h2 h3 h4 ⊢
 refine EvP.bind (tN hs h4 (by omega) (by omega)) ?_
 rintro ⟨g,s3⟩ ⟨⟨h5,h6⟩,h7⟩
 simp only at h5 h6 h7 ⊢
 obtain ⟨n,rfl⟩:=Int.eq_ofNat_of_zero_le (show 0≤N by omega)
 have hn:n≤10:=by omega
 have hn1:1≤n:=by omega
 clear h1 h4
 refine EvP.loop (L:=fun (c:Nat × Int × List S92) k=>qmake_Config.l0 k (n:Int) g (c.1:Int) s c.2.1 c.2.2) (fun c=>0≤c.2.1∧c.1≤n∧c.2.2.length=c.1∧∀ m∈c.2.2,OkM n m) (fun c=>n - c.1) ?_ (0,s3,[]) ⟨h7,by simp,by simp,by simp⟩
 rintro ⟨i,s1,c⟩ ⟨h1,h8,h9,h10⟩ ih
 simp only at h1 h8 h9 h10 ih ⊢
 by_cases h0:(i:Int) < (n:Int)
 ·have h11:c.length < 2199023255552:=by omega
  have nxt:∀ (m:S92) (s':Int),0≤s'→OkM n m→EvP (fun k=>qmake_Config.l0 k (n:Int) g ((i+1:Nat):Int) s s' (c++[m])) (fun r=>(OkC r.1∧(r.1.length:Int)≤a)∧0≤r.2):=by
   intro m s' hs' hm
   refine ih (i+1,s',c++[m]) ⟨hs',by show i+1≤n;omega,by simp;omega,?_⟩ (by show n - (i+1) < n - i;omega)
   intro x hx
   rcases List.mem_append.1 hx with h|h
   ·exact h10 x h
   ·rw [List.mem_singleton.1 h];exact hm
  have e1:wrap64 ((i:Int)+1)=((i+1:Nat):Int):=w64 (by omega) (by omega)
  by_cases c1:g=0
  ·(refine EvP.shift ?_;simp only [qmake_Config.l0,h0,e1,h11,c1,Option.bind_some,↓reduceIte,Bool.false_eq_true,reduceCtorEq,decide_eq_true_eq,rd_,rd_T90,rd_T92])
   rw [c1] at nxt
   clear e1
   refine EvP.bind (Trust_ev hs hn hn1 h1) ?_
   rintro ⟨v,l,ts,s'⟩ ⟨h12,h13⟩
   simp only at h12 h13 ⊢
   refine EvP.bind (tN hs h13 (by omega) (by omega)) ?_
   rintro ⟨v2,s2⟩ ⟨_,h14⟩
   simp only at h14 ⊢
   split
   ·exact nxt ⟨false,⟨0,[],[]⟩⟩ s2 h14 rfl
   ·exact nxt ⟨true,⟨v,l,ts⟩⟩ s2 h14 h12
  by_cases c2:g=1
  ·have c3:¬ (1:Int)=0:=by decide
   (refine EvP.shift ?_;simp only [qmake_Config.l0,h0,e1,h11,c2,c3,Option.bind_some,↓reduceIte,Bool.false_eq_true,reduceCtorEq,decide_eq_true_eq,rd_,rd_T90,rd_T92])
   rw [c2] at nxt
   clear e1
   refine EvP.bind (most_ev hs hn hn1 h1) ?_
   rintro ⟨v,l,ts,s'⟩ ⟨h12,h13⟩
   simp only at h12 h13 ⊢
   refine EvP.bind (tN hs h13 (by omega) (by omega)) ?_
   rintro ⟨v2,s2⟩ ⟨_,h14⟩
   simp only at h14 ⊢
   split
   ·exact nxt ⟨false,⟨0,[],[]⟩⟩ s2 h14 rfl
   ·exact nxt ⟨true,⟨v,l,ts⟩⟩ s2 h14 h12
  ·(refine EvP.shift ?_;simp only [qmake_Config.l0,h0,e1,h11,c1,c2,Option.bind_some,↓reduceIte,Bool.false_eq_true,reduceCtorEq,decide_eq_true_eq,rd_,rd_T90,rd_T92])
   clear e1
   refine EvP.bind (group_ev hs hn hn1 h1 i (by omega)) ?_
   rintro ⟨v,l,ts,s'⟩ ⟨h12,h13⟩
   simp only at h12 h13 ⊢
   refine EvP.bind (tN hs h13 (by omega) (by omega)) ?_
   rintro ⟨v2,s2⟩ ⟨_,h14⟩
   simp only at h14 ⊢
   split
   ·exact nxt ⟨false,⟨0,[],[]⟩⟩ s2 h14 rfl
   ·exact nxt ⟨true,⟨v,l,ts⟩⟩ s2 h14 h12
 ·(refine EvP.shift ?_;simp only [qmake_Config.l0,h0,Option.bind_some,↓reduceIte,Bool.false_eq_true,reduceCtorEq,decide_eq_true_eq,rd_,rd_T90,rd_T92])
  have e:c.length=n:=by omega
  refine EvP.now ⟨⟨⟨?_,?_,?_⟩,?_⟩,h1⟩
  ·show 1≤c.length;omega
  ·show c.length≤10;omega
  ·show ∀ m∈c,OkM c.length m
   rw [e];exact h10
  ·show (c.length:Int)≤a;omega
theorem New_ev (l0:List Int) (h:l0.length < 4611686018427387904):∃ s,s.length < 4611686018427387904∧qmake_New.f l0=some (s,0):=by
 unfold qmake_New.f
 have h1:0≤mn (l0.length:Int) 400:=by unfold mn;split <;> omega
 have h2:mn (l0.length:Int) 400≤(l0.length:Int):=by unfold mn;split <;> omega
 rw [if_pos h1,if_pos h2]
 refine ⟨_,?_,rfl⟩
 rw [List.length_take]
 omega
theorem inS_mono {s t:Nat} (h:Sub s t) {x:Int} (hx:inS s x=true):inS t x=true:=by
 simp only [inS,Bool.and_eq_true] at hx ⊢
 exact ⟨hx.1,h _ hx.2⟩
mutual
theorem sat_mono {s t:Nat} (h:Sub s t):∀ x:S90,sat s x=true→sat t x=true
 | ⟨n,l,ts⟩=>by
  rw [sat,sat,decide_eq_true_eq,decide_eq_true_eq]
  intro hx
  have h1:l.countP (fun x=>inS s x)≤l.countP (fun x=>inS t x):=List.countP_mono_left fun x _ hx=>inS_mono h hx
  have h2:=satC_mono h ts
  omega
theorem satC_mono {s t:Nat} (h:Sub s t):∀ l:List S90,satC s l≤satC t l
 | []=>by rw [satC,satC];exact Nat.le_refl _
 | x :: xs=>by
  rw [satC,satC]
  have h1:=satC_mono h xs
  have h2:=sat_mono h x
  cases hs:sat s x
  ·simp;omega
  ·rw [h2 hs];simp;omega
end
def declF (i a:Nat):List S92→Nat
 | []=>a
 | m :: ms=>declF (i+1) (if m.f0=true∧i < 10 then a ||| 2 ^ i else a) ms
def decl (c:List S92):Nat:=declF 0 0 c
theorem declF_bit:∀ (ms:List S92) (i a j:Nat),(declF i a ms).testBit j=(a.testBit j || (decide (i≤j) && decide (j < 10) && (ms.getD (j - i) z92).f0)):=by
 intro ms
 induction ms with
 | nil=>intro i a j;simp [declF,z92]
 | cons m ms ih =>
  intro i a j
  rw [declF,ih]
  by_cases h:j=i
  ·subst h
   have e:decide (j+1≤j)=false:=by simp
   have e2:decide (j≤j)=true:=by simp
   rw [e,e2,Nat.sub_self]
   by_cases h2:j < 10 <;> cases hm:m.f0 <;> simp [h2,hm]
  ·have e:(if m.f0=true∧i < 10 then a ||| 2 ^ i else a).testBit j=a.testBit j:=by
    split
    ·rw [or_bit,two_bit];simp;intro h2;omega
    ·rfl
   rw [e]
   by_cases h2:i≤j
   ·obtain ⟨d,rfl⟩:∃ d,j=i+1+d:=⟨j - (i+1),by omega⟩
    have h3:i+1+d - i=d+1:=by omega
    have h4:i+1+d - (i+1)=d:=by omega
    rw [h3,h4,List.getD_cons_succ]
    simp [h2]
   ·have h3:¬ i+1≤j:=by omega
    simp [h2,h3]
theorem decl_bit (c:List S92) (j:Nat):(decl c).testBit j=(decide (j < 10) && (c.getD j z92).f0):=by
 rw [decl,declF_bit];simp
theorem decl_lt (c:List S92):decl c < 1024:=lt_of_bits (n:=10) fun i hi=>by rw [decl_bit];simp;omega
theorem decl_len {c:List S92} {j:Nat} (h:(decl c).testBit j=true):j < c.length:=by
 rw [decl_bit] at h
 by_cases hj:j < c.length
 ·exact hj
 ·rw [List.getD_eq_getElem?_getD,List.getElem?_eq_none (by omega)] at h
  simp [z92] at h
def nodesL (s:Nat):List Int:=((List.range 10).filter fun i=>s.testBit i).map Int.ofNat
theorem nodesL_mem {s:Nat} {x:Int}:x∈nodesL s ↔ inS s x=true:=by
 simp only [nodesL,List.mem_map,List.mem_filter,List.mem_range,inS,Bool.and_eq_true,decide_eq_true_eq]
 constructor
 ·rintro ⟨i,⟨h1,h2⟩,rfl⟩
  exact ⟨⟨by simp,by simp;omega⟩,by simpa using h2⟩
 ·rintro ⟨⟨h1,h2⟩,h3⟩
  exact ⟨x.toNat,⟨by omega,h3⟩,by simp;omega⟩
theorem nodesL_len (s:Nat):(nodesL s).length≤10:=by
 rw [nodesL,List.length_map]
 have:=List.length_filter_le (fun i=>s.testBit i) (List.range 10)
 simpa using this
def Light (c:List S92):Prop:=c.length < 1000000∧∀ m∈c,wt m.f1 < 1000000
theorem OkC.light {c:List S92} (h:OkC c):Light c:=by
 refine ⟨by have:=h.2.1;omega,fun m hm=>?_⟩
 have:=h.2.2 m hm
 unfold OkM at this
 split at this
 ·have:=this.2.1;omega
 ·rw [this];decide
theorem Light.at {c:List S92} (h:Light c) (j:Nat):wt (c.getD j z92).f1 < 1000000:=by
 by_cases hj:j < c.length
 ·exact h.2 _ (getD_mem' z92 hj)
 ·rw [List.getD_eq_getElem?_getD,List.getElem?_eq_none (by omega)];decide
def blk (c:List S92) (s:Nat) (j:Int):Bool:=inS (decl c) j && !(sat (dif 1023 s ||| 2 ^ j.toNat) (c.getD j.toNat z92).f1)
theorem inS_iff {s:Nat} {x:Int}:inS s x=true ↔ ∃ i:Nat,x=(i:Int)∧i < 10∧s.testBit i=true:=by
 simp only [inS,Bool.and_eq_true,decide_eq_true_eq]
 constructor
 ·rintro ⟨⟨h1,h2⟩,h3⟩
  exact ⟨x.toNat,by omega,by omega,h3⟩
 ·rintro ⟨i,rfl,h1,h2⟩
  exact ⟨⟨by omega,by omega⟩,by simpa using h2⟩
theorem and_nat' {a b:Nat} (ha:a < 1024) (hb:b < 1024):Go.bits .and .i64 (a:Int) (b:Int)=((a &&& b:Nat):Int):=and_nat (by omega) (by omega)
theorem or_nat' {a b:Nat} (ha:a < 1024) (hb:b < 1024):Go.bits .or .i64 (a:Int) (b:Int)=((a ||| b:Nat):Int):=or_nat (by omega) (by omega)
theorem shl_nat' {k:Nat} (h:k < 10):shl .i64 1 (k:Int)=((2 ^ k:Nat):Int):=shl_nat (by omega)
theorem Declared_ev {c:List S92} (hc:c.length < 1000000):Ev (fun k=>configuration_Declared.f k c) (decl c:Int):=by
 simp only [configuration_Declared.f]
 refine Ev.fold (xs:=c) (L:=fun (a:Nat) i k=>configuration_Declared.l0 k (a:Int) c (c.length:Int) i) (by omega) (fun pre ys a=>declF pre.length a ys=decl c∧a < 1024) ?_ ?_ 0 ⟨rfl,by decide⟩
 ·rintro a i ⟨hI,ha⟩ hi
  rw [declF] at hI
  (refine Ev.shift ?_;simp only [configuration_Declared.l0,hi,Option.bind_some,↓reduceIte,Bool.false_eq_true,reduceCtorEq,decide_eq_true_eq,rd_,rd_T90,rd_T92])
  rw [hI]
  exact Ev.now _
 ·rintro pre y ys a i e ⟨hI,ha⟩ hi h0 hlt hw hrd
  subst hi
  rw [declF] at hI
  by_cases h10:pre.length < 10
  ·have h10':(pre.length:Int) < 10:=by omega
   have h2:=two_lt10 h10
   cases hy:y.f0
   ·refine Or.inl ⟨a,⟨by simpa [hy] using hI,ha⟩,fun k=>?_⟩
    (refine Ev.shift ?_;simp only [configuration_Declared.l0,h0,hlt,hw,hrd,hy,h10',Option.bind_some,↓reduceIte,Bool.false_eq_true,reduceCtorEq,decide_eq_true_eq,rd_,rd_T90,rd_T92])
    exact k
   ·refine Or.inl ⟨a ||| 2 ^ pre.length,⟨by simpa [hy,h10] using hI,or_lt10 ha h2⟩,fun k=>?_⟩
    (refine Ev.shift ?_;simp only [configuration_Declared.l0,h0,hlt,hw,hrd,hy,h10',Option.bind_some,↓reduceIte,Bool.false_eq_true,reduceCtorEq,decide_eq_true_eq,rd_,rd_T90,rd_T92])
    rw [shl_nat' h10,or_nat' ha h2]
    exact k
  ·have h10':¬ (pre.length:Int) < 10:=by omega
   refine Or.inl ⟨a,⟨by simpa [h10] using hI,ha⟩,fun k=>?_⟩
   cases hy:y.f0
   ·(refine Ev.shift ?_;simp only [configuration_Declared.l0,h0,hlt,hw,hrd,hy,h10',Option.bind_some,↓reduceIte,Bool.false_eq_true,reduceCtorEq,decide_eq_true_eq,rd_,rd_T90,rd_T92])
    exact k
   ·(refine Ev.shift ?_;simp only [configuration_Declared.l0,h0,hlt,hw,hrd,hy,h10',Option.bind_some,↓reduceIte,Bool.false_eq_true,reduceCtorEq,decide_eq_true_eq,rd_,rd_T90,rd_T92])
    exact k
theorem Nodes_ev {s:Nat} (hs:s < 1024):Ev (fun k=>nodeset_Nodes.f k (s:Int)) (nodesL s):=by
 simp only [nodeset_Nodes.f]
 refine Ev.count (L:=fun (l:List Int) i k=>nodeset_Nodes.l0 k (s:Int) l i) 10 (by decide) (fun i l=>l=((List.range i).filter fun i=>s.testBit i).map Int.ofNat) ?_ ?_ [] rfl
 ·rintro l rfl
  have h:¬ ((10:Nat):Int) < 10:=by decide
  (refine Ev.shift ?_;simp only [nodeset_Nodes.l0,h,Option.bind_some,↓reduceIte,Bool.false_eq_true,reduceCtorEq,decide_eq_true_eq,rd_,rd_T90,rd_T92])
  exact Ev.now _
 ·rintro i l hi hl hw
  have h:(i:Int) < 10:=by omega
  have hlen:l.length < 17592186044416:=by
   rw [hl,List.length_map]
   have:=List.length_filter_le (fun i=>s.testBit i) (List.range i)
   simp at this ⊢;omega
  cases hb:s.testBit i
  ·refine Or.inl ⟨l,?_,fun k=>?_⟩
   ·rw [hl,List.range_succ,List.filter_append];simp [hb]
   ·(refine Ev.shift ?_;simp only [nodeset_Nodes.l0,h,Has_eq hs,inS_nat s i (by omega),hb,hw,Option.bind_some,↓reduceIte,Bool.false_eq_true,reduceCtorEq,decide_eq_true_eq,rd_,rd_T90,rd_T92])
    exact k
  ·refine Or.inl ⟨l++[(i:Int)],?_,fun k=>?_⟩
   ·rw [hl,List.range_succ,List.filter_append];simp [hb]
   ·(refine Ev.shift ?_;simp only [nodeset_Nodes.l0,h,Has_eq hs,inS_nat s i (by omega),hb,hw,hlen,Option.bind_some,↓reduceIte,Bool.false_eq_true,reduceCtorEq,decide_eq_true_eq,rd_,rd_T90,rd_T92])
    exact k
def nxt (c:List S92) (s:Nat):Option Int:=(nodesL (dif (decl c) s)).find? fun j=>blk c s j
theorem Sub.or {a b c:Nat} (h:Sub a c) (k:Sub b c):Sub (a ||| b) c:=fun i hi=>by
 rw [or_bit,Bool.or_eq_true] at hi
 exact hi.elim (h i) (k i)
theorem Sub.orl (a b:Nat):Sub a (a ||| b):=fun i hi=>by rw [or_bit,hi];rfl
theorem Sub.orr (a b:Nat):Sub b (a ||| b):=fun i hi=>by rw [or_bit,hi];simp
theorem Sub.two {i s:Nat} (h:s.testBit i=true):Sub (2 ^ i) s:=fun j hj=>by
 rw [two_bit,decide_eq_true_eq] at hj;subst hj;exact h
theorem pcn_lt {s i:Nat} (hi:i < 10) (h:s.testBit i=false):pcn s < pcn (s ||| 2 ^ i):=by
 unfold pcn
 have key:∀ n,(List.range n).countP (fun k=>s.testBit k)+(if i < n then 1 else 0)≤(List.range n).countP fun k=>(s ||| 2 ^ i).testBit k:=by
  intro n
  induction n with
  | zero=>simp
  | succ n ih =>
   rw [List.range_succ,List.countP_append,List.countP_append,List.countP_singleton,List.countP_singleton,or_bit,two_bit]
   generalize (List.range n).countP (fun k=>(s ||| 2 ^ i).testBit k)=B at ih ⊢
   generalize (List.range n).countP (fun k=>s.testBit k)=A at ih ⊢
   by_cases e:i=n
   ·subst e
    rw [h,if_neg (Nat.lt_irrefl i)] at *
    simp
    omega
   ·by_cases hin:i < n
    ·rw [if_pos hin] at ih
     rw [if_pos (show i < n+1 by omega)]
     cases hb:s.testBit n <;> simp [e] <;> omega
    ·rw [if_neg hin] at ih
     rw [if_neg (show ¬ i < n+1 by omega)]
     cases hb:s.testBit n <;> simp [e] <;> omega
 have:=key 10
 rw [if_pos hi] at this
 omega
theorem pcn_le (s:Nat):pcn s≤10:=by
 have:(List.range 10).countP (fun k=>s.testBit k)≤(List.range 10).length:=List.countP_le_length
 simpa [pcn] using this
theorem ref_Declared_ev {c:List S92} (hc:c.length < 1000000):Ev (fun k=>qref06_Declared.f k c) (decl c:Int):=by
 simp only [qref06_Declared.f]
 refine Ev.fold (xs:=c) (L:=fun (a:Nat) i k=>qref06_Declared.l0 k (a:Int) c (c.length:Int) i) (by omega) (fun pre ys a=>declF pre.length a ys=decl c∧a < 1024) ?_ ?_ 0 ⟨rfl,by decide⟩
 ·rintro a i ⟨hI,ha⟩ hi
  rw [declF] at hI
  (refine Ev.shift ?_;simp only [qref06_Declared.l0,hi,Option.bind_some,↓reduceIte,Bool.false_eq_true,reduceCtorEq,decide_eq_true_eq,rd_,rd_T90,rd_T92])
  rw [hI]
  exact Ev.now _
 ·rintro pre y ys a i e ⟨hI,ha⟩ hi h0 hlt hw hrd
  subst hi
  rw [declF] at hI
  by_cases h10:pre.length < 10
  ·have h10':(pre.length:Int) < 10:=by omega
   have h2:=two_lt10 h10
   cases hy:y.f0
   ·refine Or.inl ⟨a,⟨by simpa [hy] using hI,ha⟩,fun k=>?_⟩
    (refine Ev.shift ?_;simp only [qref06_Declared.l0,h0,hlt,hw,hrd,hy,h10',Option.bind_some,↓reduceIte,Bool.false_eq_true,reduceCtorEq,decide_eq_true_eq,rd_,rd_T90,rd_T92])
    exact k
   ·refine Or.inl ⟨a ||| 2 ^ pre.length,⟨by simpa [hy,h10] using hI,or_lt10 ha h2⟩,fun k=>?_⟩
    (refine Ev.shift ?_;simp only [qref06_Declared.l0,h0,hlt,hw,hrd,hy,h10',Option.bind_some,↓reduceIte,Bool.false_eq_true,reduceCtorEq,decide_eq_true_eq,rd_,rd_T90,rd_T92])
    rw [shl_nat' h10,or_nat' ha h2]
    exact k
  ·have h10':¬ (pre.length:Int) < 10:=by omega
   refine Or.inl ⟨a,⟨by simpa [h10] using hI,ha⟩,fun k=>?_⟩
   cases hy:y.f0
   ·(refine Ev.shift ?_;simp only [qref06_Declared.l0,h0,hlt,hw,hrd,hy,h10',Option.bind_some,↓reduceIte,Bool.false_eq_true,reduceCtorEq,decide_eq_true_eq,rd_,rd_T90,rd_T92])
    exact k
   ·(refine Ev.shift ?_;simp only [qref06_Declared.l0,h0,hlt,hw,hrd,hy,h10',Option.bind_some,↓reduceIte,Bool.false_eq_true,reduceCtorEq,decide_eq_true_eq,rd_,rd_T90,rd_T92])
    exact k
theorem ref_Nodes_ev {s:Nat} (hs:s < 1024):Ev (fun k=>qref01_Nodes.f k (s:Int)) (nodesL s):=by
 simp only [qref01_Nodes.f]
 refine Ev.count (L:=fun (l:List Int) i k=>qref01_Nodes.l0 k (s:Int) l i) 10 (by decide) (fun i l=>l=((List.range i).filter fun i=>s.testBit i).map Int.ofNat) ?_ ?_ [] rfl
 ·rintro l rfl
  have h:¬ ((10:Nat):Int) < 10:=by decide
  (refine Ev.shift ?_;simp only [qref01_Nodes.l0,h,Option.bind_some,↓reduceIte,Bool.false_eq_true,reduceCtorEq,decide_eq_true_eq,rd_,rd_T90,rd_T92])
  exact Ev.now _
 ·rintro i l hi hl hw
  have h:(i:Int) < 10:=by omega
  have hlen:l.length < 17592186044416:=by
   rw [hl,List.length_map]
   have:=List.length_filter_le (fun i=>s.testBit i) (List.range i)
   simp at this ⊢;omega
  cases hb:s.testBit i
  ·refine Or.inl ⟨l,?_,fun k=>?_⟩
   ·rw [hl,List.range_succ,List.filter_append];simp [hb]
   ·(refine Ev.shift ?_;simp only [qref01_Nodes.l0,h,ref01_Has_eq hs,inS_nat s i (by omega),hb,hw,Option.bind_some,↓reduceIte,Bool.false_eq_true,reduceCtorEq,decide_eq_true_eq,rd_,rd_T90,rd_T92])
    exact k
  ·refine Or.inl ⟨l++[(i:Int)],?_,fun k=>?_⟩
   ·rw [hl,List.range_succ,List.filter_append];simp [hb]
   ·(refine Ev.shift ?_;simp only [qref01_Nodes.l0,h,ref01_Has_eq hs,inS_nat s i (by omega),hb,hw,hlen,Option.bind_some,↓reduceIte,Bool.false_eq_true,reduceCtorEq,decide_eq_true_eq,rd_,rd_T90,rd_T92])
    exact k
def quo (c:List S92) (x:Nat):Bool:=decide (x ≠ 0) && decide (x &&& decl c=x) && (nodesL x).all fun j=>sat x (c.getD j.toNat z92).f1
theorem quo_iff {c:List S92} {x:Nat} (hx:x < 1024):quo c x=true ↔ x ≠ 0∧Sub x (decl c)∧∀ i,x.testBit i=true→sat x (c.getD i z92).f1=true:=by
 unfold quo
 rw [Bool.and_eq_true,Bool.and_eq_true,decide_eq_true_eq,decide_eq_true_eq,List.all_eq_true,sub_and]
 constructor
 ·rintro ⟨⟨h1,h2⟩,h3⟩
  refine ⟨h1,h2,fun i hi=>?_⟩
  have h10:i < 10:=by
   rcases Nat.lt_or_ge i 10 with h|h
   ·exact h
   ·rw [bit_lt (n:=10) hx h] at hi;cases hi
  have:=h3 (i:Int) (nodesL_mem.2 (inS_iff.2 ⟨i,rfl,h10,hi⟩))
  rwa [Int.toNat_natCast] at this
 ·rintro ⟨h1,h2,h3⟩
  refine ⟨⟨h1,h2⟩,fun j hj=>?_⟩
  obtain ⟨i,rfl,h10,hi⟩:=inS_iff.1 (nodesL_mem.1 hj)
  rw [Int.toNat_natCast]
  exact h3 i hi
theorem ref_Quorum_ev {c:List S92} (hc:Light c) {x:Nat} (hx:x < 1024):Ev (fun k=>qref09_Quorum.f k c (x:Int)) (quo c x):=by
 simp only [qref09_Quorum.f,ref01_Valid_eq,vld_nat hx,Option.bind_some,↓reduceIte,Bool.false_eq_true,reduceCtorEq,decide_eq_true_eq,rd_,rd_T90,rd_T92]
 unfold quo
 by_cases h0:x=0
 ·have h1:(x:Int)=0:=by omega
  simp only [h1,Option.bind_some,↓reduceIte,Bool.false_eq_true,reduceCtorEq,decide_eq_true_eq,rd_,rd_T90,rd_T92]
  (refine Ev.shift ?_;simp only [qref09_Quorum.j0,Option.bind_some,↓reduceIte,Bool.false_eq_true,reduceCtorEq,decide_eq_true_eq,rd_,rd_T90,rd_T92])
  simp only [h0,ne_eq,not_true_eq_false,decide_false,Bool.false_and]
  exact Ev.now _
 have h1:¬ (x:Int)=0:=by omega
 simp only [h1,Option.bind_some,↓reduceIte,Bool.false_eq_true,reduceCtorEq,decide_eq_true_eq,rd_,rd_T90,rd_T92]
 refine Ev.bind1 (ref_Declared_ev hc.1) ?_
 have hd:=decl_lt c
 rw [and_nat' hx hd]
 by_cases h2:x &&& decl c=x
 ·have h3:(((x &&& decl c:Nat):Int) != (x:Int))=false:=by rw [h2];simp
  simp only [h3,Option.bind_some,↓reduceIte,Bool.false_eq_true,reduceCtorEq,decide_eq_true_eq,rd_,rd_T90,rd_T92]
  (refine Ev.shift ?_;simp only [qref09_Quorum.j0,Option.bind_some,↓reduceIte,Bool.false_eq_true,reduceCtorEq,decide_eq_true_eq,rd_,rd_T90,rd_T92])
  refine Ev.bind1 (ref_Nodes_ev hx) ?_
  have hl:=nodesL_len x
  simp only [h0,h2,ne_eq,not_false_eq_true,decide_true,Bool.true_and]
  refine Ev.fold (xs:=nodesL x) (L:=fun (a:Unit) i k=>qref09_Quorum.l0 k (x:Int) (nodesL x) ((nodesL x).length:Int) i c) (by omega) (fun pre ys a=>(ys.all fun j=>sat x (c.getD j.toNat z92).f1)=(nodesL x).all fun j=>sat x (c.getD j.toNat z92).f1) ?_ ?_ () rfl
  ·intro a i hI hi
   rw [List.all_nil] at hI
   (refine Ev.shift ?_;simp only [qref09_Quorum.l0,hi,Option.bind_some,↓reduceIte,Bool.false_eq_true,reduceCtorEq,decide_eq_true_eq,rd_,rd_T90,rd_T92])
   rw [← hI]
   exact Ev.now _
  ·intro pre y ys a i e hI hi h0 hlt hw hrd
   rw [List.all_cons] at hI
   obtain ⟨j,rfl,h10,hj⟩:=inS_iff.1 (nodesL_mem.1 (show y∈nodesL x by rw [e];simp))
   have hjl:j < c.length:=decl_len (sub_and.1 h2 j hj)
   have hj0:(0:Int)≤j:=by omega
   have hj1:(j:Int) < (c.length:Int):=by omega
   rw [Int.toNat_natCast] at hI
   have hsat:=ref02_Sat_ev hx 1000000 _ (hc.at j) (by decide)
   cases hs:sat x (c.getD j z92).f1
   ·refine Or.inr ?_
    rw [hs,Bool.false_and] at hI
    rw [← hI]
    (refine Ev.shift ?_;simp only [qref09_Quorum.l0,h0,hlt,hw,hrd,hj0,hj1,Int.toNat_natCast,Option.bind_some,↓reduceIte,Bool.false_eq_true,reduceCtorEq,decide_eq_true_eq,rd_,rd_T90,rd_T92])
    refine Ev.bind1 hsat ?_
    rw [hs]
    exact Ev.now _
   ·rw [hs,Bool.true_and] at hI
    refine Or.inl ⟨(),hI,fun k=>?_⟩
    (refine Ev.shift ?_;simp only [qref09_Quorum.l0,h0,hlt,hw,hrd,hj0,hj1,Int.toNat_natCast,Option.bind_some,↓reduceIte,Bool.false_eq_true,reduceCtorEq,decide_eq_true_eq,rd_,rd_T90,rd_T92])
    refine Ev.bind1 hsat ?_
    rw [hs]
    exact k
 ·have h3:(((x &&& decl c:Nat):Int) != (x:Int))=true:=by
   rw [bne_iff_ne];intro h;exact h2 (by omega)
  simp only [h3,Option.bind_some,↓reduceIte,Bool.false_eq_true,reduceCtorEq,decide_eq_true_eq,rd_,rd_T90,rd_T92]
  (refine Ev.shift ?_;simp only [qref09_Quorum.j0,Option.bind_some,↓reduceIte,Bool.false_eq_true,reduceCtorEq,decide_eq_true_eq,rd_,rd_T90,rd_T92])
  simp only [h2,decide_false,Bool.and_false,Bool.false_and]
  exact Ev.now _
end Go.Proofs.YtkjlcbfjllpcnaaGreat.X
namespace Go.Proofs.YtkjlcbfjllpcnaaGreat.X
open Go.RowKit Go.Lib Go.Sort YtkjlcbfjllpcnaaGreatW.PrintWords YtkjlcbfjllpcnaaGreatW.PrintLast YtkjlcbfjllpcnaaGreatW.PrintMore
def leS (x y:Int):Prop:=¬ ltS y x
instance (x y:Int):Decidable (leS x y):=inferInstanceAs (Decidable (¬ (_ ∨ _)))
theorem leS_antisymm {x y:Int} (h:leS x y) (k:leS y x):x=y:=by unfold leS ltS at *;omega
theorem sortS_perm (l:List Int):(sortS l).Perm l:=List.mergeSort_perm _ _
theorem sortS_sorted (l:List Int):(sortS l).Pairwise leS:=by
 have:=List.pairwise_mergeSort (le:=fun x y=>!(ltOf cmpS) y x) (by
  intro a b c h1 h2
  rw [Bool.not_eq_true',ltOf_not] at *
  unfold ltS at *;omega) (by
  intro a b
  rw [Bool.or_eq_true,Bool.not_eq_true',Bool.not_eq_true',ltOf_not,ltOf_not]
  unfold ltS;omega) l
 refine this.imp ?_
 intro a b h
 rw [Bool.not_eq_true',ltOf_not] at h
 exact h
theorem sortS_eq {l l':List Int} (h:l.Perm l') (hs:l'.Pairwise leS):sortS l=l' :=
 List.Perm.eq_of_pairwise (le:=leS) (fun a b _ _ h k=>leS_antisymm h k) (sortS_sorted l) hs ((sortS_perm l).trans h)
theorem sub_nat {a b:Nat} (ha:a < 1024) (hb:b < 1024):sub (a:Int) (b:Int)=true ↔ Sub a b:=by
 unfold sub
 rw [andNot_nat (by omega) (by omega),beq_iff_eq,← sub_dif]
 omega
theorem subsetsS_mem {s:Nat} (hs:s < 1024) {x:Int}:x∈subsetsS (s:Int) ↔ ∃ t:Nat,x=(t:Int)∧Sub t s:=by
 rw [subsetsS,vld_nat hs,if_pos rfl,(sortS_perm _).mem_iff,subsBelow,List.mem_filter,List.mem_map]
 constructor
 ·rintro ⟨⟨t,h1,rfl⟩,h2⟩
  rw [List.mem_range] at h1
  exact ⟨t,rfl,(sub_nat (by simp at h1;omega) hs).1 h2⟩
 ·rintro ⟨t,rfl,h⟩
  have ht:t≤s:=by
   have:t &&& s=t:=sub_and.2 h
   rw [← this];exact Nat.and_le_right
  exact ⟨⟨t,by rw [List.mem_range];simp;omega,rfl⟩,(sub_nat (by omega) hs).2 h⟩
theorem subsetsS_len {s:Nat} (hs:s < 1024):(subsetsS (s:Int)).length≤1024:=by
 rw [subsetsS,vld_nat hs,if_pos rfl,sortS_length]
 have:=subsBelow_le (s:Int) ((s:Int).toNat+1)
 simp at this ⊢;omega
def memV (n:Nat) (m:S92):Int:=if m.f0=true then (if validT m.f1=0 then (if uses m.f1 < 2 ^ n then 0 else 5) else validT m.f1) else (if m.f1.f0=0∧m.f1.f1=[]∧m.f1.f2=[] then 0 else 1)
def valF (n:Nat):List S92→Int
 | []=>0
 | m :: ms=>if memV n m=0 then valF n ms else memV n m
def valC (c:List S92):Int:=if c.length > 10 then 3 else valF c.length c
theorem member_ev {n:Nat} (hn:n≤10) (m:S92) (hm:wt m.f1 < 1000000):Ev (fun k=>configuration_member.f k m.f0 m.f1.f0 m.f1.f1 m.f1.f2 (n:Int)) (memV n m):=by
 unfold memV
 cases h:m.f0
 ·simp only [configuration_member.f,configuration_blank.f,Option.bind_some,↓reduceIte,Bool.false_eq_true,reduceCtorEq,decide_eq_true_eq,rd_,rd_T90,rd_T92]
  by_cases h1:m.f1.f0=0
  ·by_cases h2:m.f1.f1=[]
   ·by_cases h3:m.f1.f2=[]
    ·simp only [h1,h2,h3,and_self,if_true,List.length_nil,Option.bind_some]
     simp only [Int.natCast_zero,beq_self_eq_true,if_true,Int.ofNat_zero,Option.bind_some]
     exact Ev.now _
    ·have:¬ (m.f1.f2.length:Int)=0:=by
      intro h;exact h3 (List.eq_nil_of_length_eq_zero (by omega))
     have e2:((m.f1.f2.length:Int) == 0)=false:=by simpa using this
     simp only [h1,h2,h3,and_false,if_true,if_false,List.length_nil,Int.natCast_zero,Int.ofNat_zero,e2,Option.bind_some,Bool.false_eq_true]
     exact Ev.now _
   ·have:¬ (m.f1.f1.length:Int)=0:=by
     intro h;exact h2 (List.eq_nil_of_length_eq_zero (by omega))
    simp only [h1,h2,this,false_and,and_false,if_true,if_false,Option.bind_some,Bool.false_eq_true]
    exact Ev.now _
  ·simp only [h1,false_and,if_false,Option.bind_some,Bool.false_eq_true]
   exact Ev.now _
 ·simp only [configuration_member.f,Option.bind_some,↓reduceIte,Bool.false_eq_true,reduceCtorEq,decide_eq_true_eq,rd_,rd_T90,rd_T92]
  refine Ev.bind1 (Valid_ev m.f1 hm) ?_
  by_cases h1:validT m.f1=0
  ·simp only [h1,if_true]
   refine Ev.bind1 (Uses_ev 1000000 m.f1 hm (by decide)) ?_
   have h0:(0:Int)≤(n:Int):=by omega
   rw [shl_nat (by omega),if_pos h0]
   by_cases h2:uses m.f1 < 2 ^ n
   ·rw [if_pos h2,if_neg (by omega)];exact Ev.now _
   ·rw [if_neg h2,if_pos (by omega)];exact Ev.now _
  ·simp only [h1,if_false]
   exact Ev.now _
theorem CValid_ev {c:List S92} (hc:Light c):Ev (fun k=>configuration_Valid.f k c) (valC c):=by
 have hl:=hc.1
 unfold valC
 by_cases h:c.length > 10
 ·have h2:(c.length:Int) > 10:=by omega
  simp only [configuration_Valid.f,h,h2,Option.bind_some,↓reduceIte,Bool.false_eq_true,reduceCtorEq,decide_eq_true_eq,rd_,rd_T90,rd_T92]
  exact Ev.now _
 ·have h2:¬ (c.length:Int) > 10:=by omega
  simp only [configuration_Valid.f,h,h2,Option.bind_some,↓reduceIte,Bool.false_eq_true,reduceCtorEq,decide_eq_true_eq,rd_,rd_T90,rd_T92]
  refine Ev.fold (xs:=c) (L:=fun (a:Unit) i k=>configuration_Valid.l0 k c (c.length:Int) i c) (by omega) (fun pre ys a=>valF c.length ys=valF c.length c) ?_ ?_ () rfl
  ·intro a i hI hi
   rw [valF] at hI
   (refine Ev.shift ?_;simp only [configuration_Valid.l0,hi,Option.bind_some,↓reduceIte,Bool.false_eq_true,reduceCtorEq,decide_eq_true_eq,rd_,rd_T90,rd_T92])
   rw [← hI]
   exact Ev.now _
  ·intro pre y ys a i e hI hi h0 hlt hw hrd
   rw [valF] at hI
   have hm:=member_ev (n:=c.length) (by omega) y (hc.2 y (by rw [e];simp))
   by_cases h4:memV c.length y=0
   ·rw [if_pos h4] at hI
    refine Or.inl ⟨(),hI,fun k=>?_⟩
    (refine Ev.shift ?_;simp only [configuration_Valid.l0,h0,hlt,hw,hrd,Option.bind_some,↓reduceIte,Bool.false_eq_true,reduceCtorEq,decide_eq_true_eq,rd_,rd_T90,rd_T92])
    refine Ev.bind1 hm ?_
    rw [h4]
    exact k
   ·rw [if_neg h4] at hI
    refine Or.inr ?_
    rw [← hI]
    (refine Ev.shift ?_;simp only [configuration_Valid.l0,h0,hlt,hw,hrd,Option.bind_some,↓reduceIte,Bool.false_eq_true,reduceCtorEq,decide_eq_true_eq,rd_,rd_T90,rd_T92])
    refine Ev.bind1 hm ?_
    simp only [h4,if_false]
    exact Ev.now _
theorem OkM.memV {n:Nat} {m:S92} (h:OkM n m):memV n m=0:=by
 unfold OkM at h
 unfold X.memV
 split at h
 ·rename_i h1
  rw [if_pos h1,if_pos h.1,if_pos h.2.2]
 ·rename_i h1
  rw [if_neg h1,h]
  simp
theorem valF_ok {n:Nat}:∀ (l:List S92),(∀ m∈l,OkM n m)→valF n l=0
 | [],_=>by rw [valF]
 | m :: ms,h=>by rw [valF,if_pos (h m (by simp)).memV];exact valF_ok ms fun x hx=>h x (by simp [hx])
theorem OkC.valC {c:List S92} (h:OkC c):valC c=0:=by
 have:=h.2.1
 rw [X.valC,if_neg (by omega)]
 exact valF_ok c h.2.2
theorem Ints_ev {xs ys:List Int} (hx:xs.length < 1000000):Ev (fun k=>qmake_Ints.f k xs ys) (decide (xs=ys)):=by
 by_cases hl:xs.length=ys.length
 ·have hl2:(xs.length:Int)=(ys.length:Int):=by omega
  simp only [qmake_Ints.f,Option.bind_some,↓reduceIte,Bool.false_eq_true,reduceCtorEq,decide_eq_true_eq,rd_,rd_T90,rd_T92]
  simp only [if_pos hl2]
  refine Ev.fold (xs:=xs) (L:=fun (a:Unit) i k=>qmake_Ints.l0 k xs ys (xs.length:Int) i) (by omega) (fun pre zs a=>xs.take pre.length=ys.take pre.length) ?_ ?_ () rfl
  ·intro a i hI hi
   rw [List.take_of_length_le (Nat.le_refl _),List.take_of_length_le (by omega)] at hI
   (refine Ev.shift ?_;simp only [qmake_Ints.l0,hi,Option.bind_some,↓reduceIte,Bool.false_eq_true,reduceCtorEq,decide_eq_true_eq,rd_,rd_T90,rd_T92])
   rw [decide_eq_true hI]
   exact Ev.now _
  ·intro pre y zs a i e hI hi h0 hlt hw hrd
   subst hi
   have hrd':=hrd
   simp only [Int.toNat_natCast] at hrd'
   have hlt2:(pre.length:Int) < (ys.length:Int):=by omega
   have hp:pre.length < ys.length:=by omega
   have hy:ys.getD pre.length 0=ys[pre.length]:=by rw [List.getD_eq_getElem?_getD,List.getElem?_eq_getElem hp];rfl
   have hx':xs.take (pre.length+1)=xs.take pre.length++[y]:=by
    have:=hrd 0
    rw [Int.toNat_natCast,List.getD_eq_getElem?_getD,List.getElem?_eq_getElem (show pre.length < xs.length by omega)] at this
    rw [List.take_succ_eq_append_getElem (by omega)]
    congr 2
   by_cases h:y=ys.getD pre.length 0
   ·refine Or.inl ⟨(),?_,fun k=>?_⟩
    ·rw [List.length_append,List.length_singleton,hx',hI,List.take_succ_eq_append_getElem hp,← hy,h]
    ·(refine Ev.shift ?_;simp only [qmake_Ints.l0,h0,hlt,hw,hlt2,hrd',Int.toNat_natCast,Option.bind_some,↓reduceIte,Bool.false_eq_true,reduceCtorEq,decide_eq_true_eq,rd_,rd_T90,rd_T92])
     simp only [if_pos h]
     exact k
   ·refine Or.inr ?_
    have hne:xs ≠ ys:=by
     intro hh
     subst hh
     have:=hrd 0
     rw [Int.toNat_natCast] at this
     exact h this.symm
    rw [decide_eq_false hne]
    (refine Ev.shift ?_;simp only [qmake_Ints.l0,h0,hlt,hw,hlt2,hrd',Int.toNat_natCast,Option.bind_some,↓reduceIte,Bool.false_eq_true,reduceCtorEq,decide_eq_true_eq,rd_,rd_T90,rd_T92])
    simp only [if_neg h]
    exact Ev.now _
 ·have hl2:¬ (xs.length:Int)=(ys.length:Int):=by omega
  simp only [qmake_Ints.f,hl2,Option.bind_some,↓reduceIte,Bool.false_eq_true,reduceCtorEq,decide_eq_true_eq,rd_,rd_T90,rd_T92]
  have hne:xs ≠ ys:=fun hh=>hl (by rw [hh])
  rw [decide_eq_false hne]
  exact Ev.now _
end Go.Proofs.YtkjlcbfjllpcnaaGreat.X
