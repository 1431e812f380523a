/- Proof of the statement BlockingGrows: part 5 of 7, what it computes and why that answers true. -/
import Derived.Test.YtkjlcbfjllpcnaaKBG4
import Derived.Sort.OwnSortedInts
set_option linter.unusedVariables false
set_option linter.unusedSimpArgs false
namespace Go.Proofs.Ytkjlcbfjllpcnaa.X
open Go.RowKit Go.Proofs.YtkjlcbfjllpcnaaW.PrintWords Go.Proofs.YtkjlcbfjllpcnaaW.PrintLast Go.Proofs.YtkjlcbfjllpcnaaW.PrintMore
attribute [local go_sem] max2_int min2_int max_two min_two max_three min_three max_four min_four
set_option linter.unusedVariables false
set_option linter.unusedSimpArgs false
def trustquorummake_Config.l0:Nat→Int→Int→Int→List Int→Int→List (S34)→Option ((List (S34)) × Int)
 | 0,_,_,_,_,_,_=>none
 | k+1,x5,x6,x8,x1000,x1001,x182000=>if x8 < x5 then (if x6=0 then ((trustquorummake_Trust.f k x1000 x1001 x5 2).bind fun bt183=>((trustquorummake_Tape_N.f x1000 bt183.2.2.2 12).bind fun bt191=>(if bt191.1=11 then (if x182000.length < 2199023255552 then (trustquorummake_Config.l0 k x5 x6 (wrap64 (x8+1)) x1000 bt191.2 (x182000++[(⟨false,(⟨0,([]:List Int),([]:List (S32))⟩:S32)⟩:S34)])) else (none)) else (if x182000.length < 2199023255552 then (trustquorummake_Config.l0 k x5 x6 (wrap64 (x8+1)) x1000 bt191.2 (x182000++[(⟨true,(⟨bt183.1,bt183.2.1,bt183.2.2.1⟩:S32)⟩:S34)])) else (none))))) else (if x6=1 then ((trustquorummake_most.f k x1000 x1001 x5).bind fun bt199=>((trustquorummake_Tape_N.f x1000 bt199.2.2.2 12).bind fun bt207=>(if bt207.1=11 then (if x182000.length < 2199023255552 then (trustquorummake_Config.l0 k x5 x6 (wrap64 (x8+1)) x1000 bt207.2 (x182000++[(⟨false,(⟨0,([]:List Int),([]:List (S32))⟩:S32)⟩:S34)])) else (none)) else (if x182000.length < 2199023255552 then (trustquorummake_Config.l0 k x5 x6 (wrap64 (x8+1)) x1000 bt207.2 (x182000++[(⟨true,(⟨bt199.1,bt199.2.1,bt199.2.2.1⟩:S32)⟩:S34)])) else (none))))) else ((trustquorummake_group.f k x1000 x1001 x5 x8).bind fun bt215=>((trustquorummake_Tape_N.f x1000 bt215.2.2.2 12).bind fun bt223=>(if bt223.1=11 then (if x182000.length < 2199023255552 then (trustquorummake_Config.l0 k x5 x6 (wrap64 (x8+1)) x1000 bt223.2 (x182000++[(⟨false,(⟨0,([]:List Int),([]:List (S32))⟩:S32)⟩:S34)])) else (none)) else (if x182000.length < 2199023255552 then (trustquorummake_Config.l0 k x5 x6 (wrap64 (x8+1)) x1000 bt223.2 (x182000++[(⟨true,(⟨bt215.1,bt215.2.1,bt215.2.2.1⟩:S32)⟩:S34)])) else (none))))))) else (some (x182000,x1001))
def trustquorummake_Config.f (k:Nat) (s0_0:List Int) (s0_1:Int) (a1:Int):Option ((List (S34)) × Int):=(trustquorummake_Tape_Range.f s0_0 s0_1 1 a1).bind fun bt177=>((trustquorummake_Tape_N.f s0_0 bt177.2 3).bind fun bt179=>(trustquorummake_Config.l0 k bt177.1 bt179.1 0 s0_0 bt179.2 ([]:List (S34))))
set_option maxHeartbeats 8000000 in
set_option maxRecDepth 100000 in
theorem trustquorummake_Config.calls (k:Nat) (g:Nat) (s0_0:List Int) (s0_1:Int) (a1:Int) (r1:List (S34)) (r2:Int) (w0 w:World) (hI:IsS71 w0 w g s0_0 s0_1) (hB:Below w0.heap.size w0 w) (h:trustquorummake_Config.f k s0_0 s0_1 a1=some (r1,r2)) :
  Calls Try.prog 15 #[.pointer (some ⟨g,0,none⟩),.int .i64 a1] w fun e w'=>∃ v0_:Value,e=.returned (.agg #[v0_])∧Kd.R k34 34 w' w.heap.size (fun _=>True) v0_ r1∧IsS71 w0 w' g s0_0 r2∧Below w0.heap.size w0 w'∧KeepBut w w' g none:=by
 have hu27:=Try.underlying27
 have hu32:=Try.underlying32
 have hu34:=Try.underlying34
 have HI0:=Aside0.mk hI
 have HK:=Aside0.mk (KeepBut.refl w g none)
 have HL:=Aside0.mk hB.size
 clear hI
 have HW0:=Aside0.mk hB.size
 have HB:=Aside0.mk hB
 clear hB
 have H:((trustquorummake_Tape_Range.f s0_0 s0_1 1 a1).bind fun bt177=>((trustquorummake_Tape_N.f s0_0 bt177.2 3).bind fun bt179=>(trustquorummake_Config.l0 k bt177.1 bt179.1 0 s0_0 bt179.2 ([]:List (S34)))))=some (r1,r2):=h
 clear h
 replace H:=Option.bind_eq_some_iff.mp H
 obtain ⟨⟨t177,t178⟩,A30,H⟩:=H
 replace H:((trustquorummake_Tape_N.f s0_0 t178 3).bind fun bt179=>(trustquorummake_Config.l0 k t177 bt179.1 0 s0_0 bt179.2 ([]:List (S34))))=some (r1,r2):=H
 have A3:=Aside0.mk A30
 clear A30
 replace H:=Option.bind_eq_some_iff.mp H
 obtain ⟨⟨t179,t180⟩,A40,H⟩:=H
 replace H:(trustquorummake_Config.l0 k t177 t179 0 s0_0 t180 ([]:List (S34)))=some (r1,r2):=H
 have A4:=Aside0.mk A40
 clear A40
 have H':=Aside0.mk H
 clear H
 go_enter Try.func15,Try.ntmps15
 go_wp2_with (first|((with_reducible refine gate_dst (N:=4) rfl ?_);refine box_event ?hg (N:=4) ?hd (cs:=#[.slice none 0 0]) (t:=27) ?hr ?_;(case hd=>rfl);(case hg=>rfl);(case hr=>first|(go_simp;done)|(go_simp;rfl));intro gb176 hg w5 hbox hb;have n0_:=Aside0.mk (IsS71.below (by repeat (first|(with_reducible first|exact HI0.out|apply IsS71.alloc|apply IsS71.drewN|apply IsS71.drew|apply IsS71.set_1)|exact HI0.out)) hb);have n1_:=Aside0.mk (KeepBut.trans (by repeat (first|(with_reducible first|exact HK.out|apply KeepBut.set_|apply keep_drewN|apply keep_drew|apply keep_alloc)|exact HK.out)) (KeepBut.of_below hb g none) (.inl rfl));have n2_:=Aside0.mk (below_step (by repeat (first|(with_reducible first|exact HB.out|apply wA|apply wN|apply wD|refine wS ?_ (IsS71.ge HI0.out))|exact HB.out)) hb);have n3_:=Aside0.mk (hbox);have n4_:=Aside0.mk ((by rw [hg];exact (keep_size (w:=w) (g:=g) (row:=none) (by repeat (first|(with_reducible first|exact HK.out|apply KeepBut.set_|apply keep_drewN|apply keep_drew|apply keep_alloc)|exact HK.out))):w.heap.size≤gb176));have n5_:=Aside0.mk ((Nat.le_trans HW0.out (by rw [hg];exact (keep_size (w:=w) (g:=g) (row:=none) (by repeat (first|(with_reducible first|exact HK.out|apply KeepBut.set_|apply keep_drewN|apply keep_drew|apply keep_alloc)|exact HK.out))):w.heap.size≤gb176):w0.heap.size≤gb176));have n6_:=Aside0.mk ((by rw [hg];exact Nat.ne_of_lt (IsS71.lt (show IsS71 w0 _ g s0_0 s0_1 from by repeat (first|(with_reducible first|exact HI0.out|apply IsS71.alloc|apply IsS71.drewN|apply IsS71.drew|apply IsS71.set_1)|exact HI0.out))):g ≠ gb176));have n7_:=Aside0.mk ((by rw [hg];exact Nat.ne_of_gt (IsS71.lt (show IsS71 w0 _ g s0_0 s0_1 from by repeat (first|(with_reducible first|exact HI0.out|apply IsS71.alloc|apply IsS71.drewN|apply IsS71.drew|apply IsS71.set_1)|exact HI0.out))):gb176 ≠ g));clear HI0;clear HK;clear HB;have HI0:=n0_;have HK:=n1_;have HB:=n2_;have BK176:=n3_;have GW176:=n4_;have GE176:=n5_;have NB0_176:=n6_;have NB176_0:=n7_;clear n0_ n1_ n2_ n3_ n4_ n5_ n6_ n7_;clear hb hbox hg)|((with_reducible refine gate_callee (f:=44) rfl ?_);refine goesL_ (some 12) rfl rfl Try.func44 (by kernel_rfl) rfl #[.pointer (some ⟨g,0,none⟩),.int .i64 1,.int .i64 a1] rfl (by (try simp only [List.map_toArray,List.map_cons,List.map_nil]);first|done|rfl|(simp only [List.length_drop,List.length_take];rfl)) ?_;(with_reducible refine (trustquorummake_Tape_Range.calls g s0_0 s0_1 1 a1 t177 t178 w0 _ ?side1 ?side2 A3.out).mono ?_);(case side1=>repeat (first|(with_reducible first|exact HI0.out|apply IsS71.alloc|apply IsS71.drewN|apply IsS71.drew|apply IsS71.set_1|refine IsS71.far ?_ NB0_176.out _)|exact HI0.out));(case side2=>repeat (first|(with_reducible first|exact HB.out|apply wA|apply wN|apply wD|refine wS ?_ (IsS71.ge HI0.out)|refine wS ?_ GE176.out)|exact HB.out));rintro e w6 ⟨rfl,hi,hb,hk⟩;refine ⟨_,rfl,?_⟩;have n0_:=Aside0.mk (KeepBut.blk hk (g':=gb176) (o:=.cells #[.slice none 0 0] 27 (0,0)) (by (with_reducible repeat (first|refine kN ?_ _|refine kD ?_|refine kA ?_ _));exact BK176.out) NB176_0.out (by simp));have n1_:=Aside0.mk (KeepBut.trans (by repeat (first|(with_reducible first|exact HK.out|apply KeepBut.set_|apply keep_drewN|apply keep_drew|apply keep_alloc|refine eF ?_ GW176.out _)|exact HK.out)) hk (.inl rfl));have n2_:=Aside0.mk (hb);have n3_:=Aside0.mk (hi);clear BK176;clear HK;clear HB;clear HI0;have BK176:=n0_;have HK:=n1_;have HB:=n2_;have HI0:=n3_;clear n0_ n1_ n2_ n3_;(try clear hb);(try clear hb2);(try clear hk);(try clear hi))|((with_reducible refine gate_callee (f:=16) rfl ?_);refine goesL_ (some 14) rfl rfl Try.func16 (by kernel_rfl) rfl #[.pointer (some ⟨g,0,none⟩),.int .i64 3] rfl (by (try simp only [List.map_toArray,List.map_cons,List.map_nil]);first|done|rfl|(simp only [List.length_drop,List.length_take];rfl)) ?_;(with_reducible refine (trustquorummake_Tape_N.calls g s0_0 t178 3 t179 t180 w0 _ ?side1 ?side2 A4.out).mono ?_);(case side1=>repeat (first|(with_reducible first|exact HI0.out|apply IsS71.alloc|apply IsS71.drewN|apply IsS71.drew|apply IsS71.set_1|refine IsS71.far ?_ NB0_176.out _)|exact HI0.out));(case side2=>repeat (first|(with_reducible first|exact HB.out|apply wA|apply wN|apply wD|refine wS ?_ (IsS71.ge HI0.out)|refine wS ?_ GE176.out)|exact HB.out));rintro e w7 ⟨rfl,hi,hb,hk⟩;refine ⟨_,rfl,?_⟩;have n0_:=Aside0.mk (KeepBut.blk hk (g':=gb176) (o:=.cells #[.slice none 0 0] 27 (0,0)) (by (with_reducible repeat (first|refine kN ?_ _|refine kD ?_|refine kA ?_ _));exact BK176.out) NB176_0.out (by simp));have n1_:=Aside0.mk (KeepBut.trans (by repeat (first|(with_reducible first|exact HK.out|apply KeepBut.set_|apply keep_drewN|apply keep_drew|apply keep_alloc|refine eF ?_ GW176.out _)|exact HK.out)) hk (.inl rfl));have n2_:=Aside0.mk (hb);have n3_:=Aside0.mk (hi);clear BK176;clear HK;clear HB;clear HI0;have BK176:=n0_;have HK:=n1_;have HB:=n2_;have HI0:=n3_;clear n0_ n1_ n2_ n3_;(try clear hb);(try clear hb2);(try clear hk);(try clear hi))|((with_reducible refine gate_dst (N:=7) rfl ?_);refine box_event ?hg (N:=7) ?hd (cs:=#[.slice none 0 0]) (t:=27) ?hr ?_;(case hd=>rfl);(case hg=>rfl);(case hr=>first|(go_simp;done)|(go_simp;rfl));intro gb181 hg w8 hbox hb;have n0_:=Aside0.mk (IsS71.below (by repeat (first|(with_reducible first|exact HI0.out|apply IsS71.alloc|apply IsS71.drewN|apply IsS71.drew|apply IsS71.set_1|refine IsS71.far ?_ NB0_176.out _)|exact HI0.out)) hb);have n1_:=Aside0.mk (blk_below (g:=gb176) (o:=.cells #[.slice none 0 0] 27 (0,0)) (by (with_reducible repeat (first|refine kN ?_ _|refine kD ?_|refine kA ?_ _));exact BK176.out) hb);have n2_:=Aside0.mk (KeepBut.trans (by repeat (first|(with_reducible first|exact HK.out|apply KeepBut.set_|apply keep_drewN|apply keep_drew|apply keep_alloc|refine eF ?_ GW176.out _)|exact HK.out)) (KeepBut.of_below hb g none) (.inl rfl));have n3_:=Aside0.mk (below_step (by repeat (first|(with_reducible first|exact HB.out|apply wA|apply wN|apply wD|refine wS ?_ (IsS71.ge HI0.out)|refine wS ?_ GE176.out)|exact HB.out)) hb);have n4_:=Aside0.mk (hbox);have n5_:=Aside0.mk ((by rw [hg];exact (keep_size (w:=w) (g:=g) (row:=none) (by repeat (first|(with_reducible first|exact HK.out|apply KeepBut.set_|apply keep_drewN|apply keep_drew|apply keep_alloc|refine eF ?_ GW176.out _)|exact HK.out))):w.heap.size≤gb181));have n6_:=Aside0.mk ((Nat.le_trans HW0.out (by rw [hg];exact (keep_size (w:=w) (g:=g) (row:=none) (by repeat (first|(with_reducible first|exact HK.out|apply KeepBut.set_|apply keep_drewN|apply keep_drew|apply keep_alloc|refine eF ?_ GW176.out _)|exact HK.out))):w.heap.size≤gb181):w0.heap.size≤gb181));have n7_:=Aside0.mk ((by rw [hg];exact Nat.ne_of_lt (blk_lt (g:=gb176) (o:=.cells #[.slice none 0 0] 27 (0,0)) (by (with_reducible repeat (first|refine kN ?_ _|refine kD ?_|refine kA ?_ _));exact BK176.out)):gb176 ≠ gb181));have n8_:=Aside0.mk ((by rw [hg];exact Nat.ne_of_gt (blk_lt (g:=gb176) (o:=.cells #[.slice none 0 0] 27 (0,0)) (by (with_reducible repeat (first|refine kN ?_ _|refine kD ?_|refine kA ?_ _));exact BK176.out)):gb181 ≠ gb176));have n9_:=Aside0.mk ((by rw [hg];exact Nat.ne_of_lt (IsS71.lt (show IsS71 w0 _ g s0_0 t180 from by repeat (first|(with_reducible first|exact HI0.out|apply IsS71.alloc|apply IsS71.drewN|apply IsS71.drew|apply IsS71.set_1|refine IsS71.far ?_ NB0_176.out _)|exact HI0.out))):g ≠ gb181));have n10_:=Aside0.mk ((by rw [hg];exact Nat.ne_of_gt (IsS71.lt (show IsS71 w0 _ g s0_0 t180 from by repeat (first|(with_reducible first|exact HI0.out|apply IsS71.alloc|apply IsS71.drewN|apply IsS71.drew|apply IsS71.set_1|refine IsS71.far ?_ NB0_176.out _)|exact HI0.out))):gb181 ≠ g));clear HI0;clear BK176;clear HK;clear HB;have HI0:=n0_;have BK176:=n1_;have HK:=n2_;have HB:=n3_;have BK181:=n4_;have GW181:=n5_;have GE181:=n6_;have NB176_181:=n7_;have NB181_176:=n8_;have NB0_181:=n9_;have NB181_0:=n10_;clear n0_ n1_ n2_ n3_ n4_ n5_ n6_ n7_ n8_ n9_ n10_;clear hb hbox hg))
 go_loopg [8] k (fun kq v8 w'=>∃ (x8_1:Int) (x1001_1:Int) (x182000_1:List (S34)) (u182000:Value),v8=.int .i64 x8_1∧Aside0 (trustquorummake_Config.l0 kq t177 t179 x8_1 s0_0 x1001_1 x182000_1=some (r1,r2))∧Aside0 (kq≤k)∧Aside0 (Kd.R k34 34 w' w.heap.size (fun _=>True) u182000 x182000_1)∧Aside0 (w'.heap[gb176]?=some (.cells #[(.slice none 0 0)] 27 (0,0)))∧Aside0 (w'.heap[gb181]?=some (.cells #[u182000] 27 (0,0)))∧Aside0 (IsS71 w0 w' g s0_0 x1001_1)∧Aside0 (KeepBut w w' g none)∧Aside0 (Below w0.heap.size w0 w'))
 case atStart=>exact ⟨(0),(t180),(([]:List (S34))),(.slice none 0 0),(by first|rfl|(simp;done)|(simp [*];done)),H',⟨Nat.le_refl _⟩,⟨by first|exact Kd.R_nil _ _ _ _ _|exact Kd.N_nil _ _ _ _ _|exact Kd.V_nil _ _ _ _ _|exact Kd.Q_nil _ _ _ _ _|exact Kd.S_nil _ _ _ _ _⟩,⟨by (with_reducible repeat (first|refine kN ?_ _|refine kD ?_|refine kA ?_ _));exact BK176.out⟩,⟨by (with_reducible repeat (first|refine kN ?_ _|refine kD ?_|refine kA ?_ _));exact BK181.out⟩,⟨by repeat (first|(with_reducible first|exact HI0.out|apply IsS71.alloc|apply IsS71.drewN|apply IsS71.drew|apply IsS71.set_1|refine IsS71.far ?_ NB0_176.out _|refine IsS71.far ?_ NB0_181.out _)|exact HI0.out)⟩,⟨by repeat (first|(with_reducible first|exact HK.out|apply KeepBut.set_|apply keep_drewN|apply keep_drew|apply keep_alloc|refine eF ?_ GW176.out _|refine eF ?_ GW181.out _)|exact HK.out)⟩,⟨by repeat (first|(with_reducible first|exact HB.out|apply wA|apply wN|apply wD|refine wS ?_ (IsS71.ge HI0.out)|refine wS ?_ GE176.out|refine wS ?_ GE181.out)|exact HB.out)⟩⟩
 case round =>
  clear H'
  try clear c1
  try clear p2
  try clear c4
  obtain ⟨x8_1,x1001_1,x182000_1,u182000,rfl,HA,HK1,HO_182000,BK176,BK181,HI0,HK,HB⟩:=hrel
  cases gk with
  | zero=>exact absurd HA.out (by simp [trustquorummake_Config.l0])
  | succ k1 =>
   have H:=HA.out
   clear HA
   simp only [trustquorummake_Config.l0] at H
   by_cases c9:x8_1 < t177
   ·rw [if_pos c9] at H
    have c9b0:decide (x8_1 < t177)=true:=decide_eq_true c9
    clear c9
    by_cases c10:t179=0
    ·rw [if_pos c10] at H
     have c10b0:(t179 == 0)=true:=beq_iff_eq.mpr c10
     have c10b1:(t179 != 0)=false:=bne_eq_false_iff_eq.mpr c10
     clear c10
     replace H:=Option.bind_eq_some_iff.mp H
     obtain ⟨⟨t183,t184,t187,t190⟩,A110,H⟩:=H
     replace H:((trustquorummake_Tape_N.f s0_0 t190 12).bind fun bt191=>(if bt191.1=11 then (if x182000_1.length < 2199023255552 then (trustquorummake_Config.l0 k1 t177 t179 (wrap64 (x8_1+1)) s0_0 bt191.2 (x182000_1++[(⟨false,(⟨0,([]:List Int),([]:List (S32))⟩:S32)⟩:S34)])) else (none)) else (if x182000_1.length < 2199023255552 then (trustquorummake_Config.l0 k1 t177 t179 (wrap64 (x8_1+1)) s0_0 bt191.2 (x182000_1++[(⟨true,(⟨t183,t184,t187⟩:S32)⟩:S34)])) else (none))))=some (r1,r2):=H
     have A11:=Aside0.mk A110
     clear A110
     replace H:=Option.bind_eq_some_iff.mp H
     obtain ⟨⟨t191,t192⟩,A120,H⟩:=H
     replace H:(if t191=11 then (if x182000_1.length < 2199023255552 then (trustquorummake_Config.l0 k1 t177 t179 (wrap64 (x8_1+1)) s0_0 t192 (x182000_1++[(⟨false,(⟨0,([]:List Int),([]:List (S32))⟩:S32)⟩:S34)])) else (none)) else (if x182000_1.length < 2199023255552 then (trustquorummake_Config.l0 k1 t177 t179 (wrap64 (x8_1+1)) s0_0 t192 (x182000_1++[(⟨true,(⟨t183,t184,t187⟩:S32)⟩:S34)])) else (none)))=some (r1,r2):=H
     have A12:=Aside0.mk A120
     clear A120
     by_cases c13:t191=11
     ·rw [if_pos c13] at H
      have c13b0:(t191 == 11)=true:=beq_iff_eq.mpr c13
      have c13b1:(t191 != 11)=false:=bne_eq_false_iff_eq.mpr c13
      clear c13
      by_cases c14:x182000_1.length < 2199023255552
      ·rw [if_pos c14] at H
       have LMc14:=Aside0.mk c14
       clear c14
       obtain ⟨y193,hy193⟩:∃ y_:List (S34),y_=(x182000_1++[(⟨false,(⟨0,([]:List Int),([]:List (S32))⟩:S32)⟩:S34)]):=⟨_,rfl⟩
       replace H:(trustquorummake_Config.l0 k1 t177 t179 (wrap64 (x8_1+1)) s0_0 t192 y193)=some (r1,r2):=by first|(rw [hy193];with_reducible exact H)|(have H2_:=(Option.bind_some _ _).symm.trans H;rw [hy193];with_reducible exact H2_)|(have H2_:=(Option.bind_some _ _).symm.trans H;with_reducible exact H2_)|with_reducible exact H|(rw [hy193];exact H)|exact H
       have Ny193:=Aside0.mk hy193
       clear hy193
       have H':=Aside0.mk H
       clear H
       go_wp2_with (first|((with_reducible refine gate_dst (N:=9) rfl ?_);refine box_event ?hg (N:=9) ?hd (cs:=#[.int .i64 0,.slice none 0 0,.slice none 0 0]) (t:=32) ?hr ?_;(case hd=>rfl);(case hg=>rfl);(case hr=>first|(go_simp;done)|(go_simp;rfl));intro gb182 hg w15 hbox hb;have n0_:=Aside0.mk (Kd.R_below (Kd.R_elderB (by (with_reducible repeat (first|apply Kd.R_alloc|apply Kd.R_drewN|apply Kd.R_drew));exact HO_182000.out) gb182 (Nat.le_of_eq hg.symm)) hb);have n1_:=Aside0.mk (blk_below (g:=gb176) (o:=.cells #[.slice none 0 0] 27 (0,0)) (by (with_reducible repeat (first|refine kN ?_ _|refine kD ?_|refine kA ?_ _));exact BK176.out) hb);have n2_:=Aside0.mk (blk_below (g:=gb181) (o:=.cells #[u182000] 27 (0,0)) (by (with_reducible repeat (first|refine kN ?_ _|refine kD ?_|refine kA ?_ _));exact BK181.out) hb);have n3_:=Aside0.mk (IsS71.below (by repeat (first|(with_reducible first|exact HI0.out|apply IsS71.alloc|apply IsS71.drewN|apply IsS71.drew|apply IsS71.set_1|refine IsS71.far ?_ NB0_176.out _|refine IsS71.far ?_ NB0_181.out _)|exact HI0.out)) hb);have n4_:=Aside0.mk (KeepBut.trans (by repeat (first|(with_reducible first|exact HK.out|apply KeepBut.set_|apply keep_drewN|apply keep_drew|apply keep_alloc|refine eF ?_ GW176.out _|refine eF ?_ GW181.out _)|exact HK.out)) (KeepBut.of_below hb g none) (.inl rfl));have n5_:=Aside0.mk (below_step (by repeat (first|(with_reducible first|exact HB.out|apply wA|apply wN|apply wD|refine wS ?_ (IsS71.ge HI0.out)|refine wS ?_ GE176.out|refine wS ?_ GE181.out)|exact HB.out)) hb);have n6_:=Aside0.mk (hbox);have n7_:=Aside0.mk ((by rw [hg];exact (keep_size (w:=w) (g:=g) (row:=none) (by repeat (first|(with_reducible first|exact HK.out|apply KeepBut.set_|apply keep_drewN|apply keep_drew|apply keep_alloc|refine eF ?_ GW176.out _|refine eF ?_ GW181.out _)|exact HK.out))):w.heap.size≤gb182));have n8_:=Aside0.mk ((Nat.le_trans HW0.out (by rw [hg];exact (keep_size (w:=w) (g:=g) (row:=none) (by repeat (first|(with_reducible first|exact HK.out|apply KeepBut.set_|apply keep_drewN|apply keep_drew|apply keep_alloc|refine eF ?_ GW176.out _|refine eF ?_ GW181.out _)|exact HK.out))):w.heap.size≤gb182):w0.heap.size≤gb182));have n9_:=Aside0.mk ((by rw [hg];exact Nat.ne_of_lt (blk_lt (g:=gb176) (o:=.cells #[.slice none 0 0] 27 (0,0)) (by (with_reducible repeat (first|refine kN ?_ _|refine kD ?_|refine kA ?_ _));exact BK176.out)):gb176 ≠ gb182));have n10_:=Aside0.mk ((by rw [hg];exact Nat.ne_of_gt (blk_lt (g:=gb176) (o:=.cells #[.slice none 0 0] 27 (0,0)) (by (with_reducible repeat (first|refine kN ?_ _|refine kD ?_|refine kA ?_ _));exact BK176.out)):gb182 ≠ gb176));have n11_:=Aside0.mk ((by rw [hg];exact Nat.ne_of_lt (blk_lt (g:=gb181) (o:=.cells #[u182000] 27 (0,0)) (by (with_reducible repeat (first|refine kN ?_ _|refine kD ?_|refine kA ?_ _));exact BK181.out)):gb181 ≠ gb182));have n12_:=Aside0.mk ((by rw [hg];exact Nat.ne_of_gt (blk_lt (g:=gb181) (o:=.cells #[u182000] 27 (0,0)) (by (with_reducible repeat (first|refine kN ?_ _|refine kD ?_|refine kA ?_ _));exact BK181.out)):gb182 ≠ gb181));have n13_:=Aside0.mk ((by rw [hg];exact Nat.ne_of_lt (IsS71.lt (show IsS71 w0 _ g s0_0 x1001_1 from by repeat (first|(with_reducible first|exact HI0.out|apply IsS71.alloc|apply IsS71.drewN|apply IsS71.drew|apply IsS71.set_1|refine IsS71.far ?_ NB0_176.out _|refine IsS71.far ?_ NB0_181.out _)|exact HI0.out))):g ≠ gb182));have n14_:=Aside0.mk ((by rw [hg];exact Nat.ne_of_gt (IsS71.lt (show IsS71 w0 _ g s0_0 x1001_1 from by repeat (first|(with_reducible first|exact HI0.out|apply IsS71.alloc|apply IsS71.drewN|apply IsS71.drew|apply IsS71.set_1|refine IsS71.far ?_ NB0_176.out _|refine IsS71.far ?_ NB0_181.out _)|exact HI0.out))):gb182 ≠ g));clear HO_182000;clear BK176;clear BK181;clear HI0;clear HK;clear HB;have HO_182000:=n0_;have BK176:=n1_;have BK181:=n2_;have HI0:=n3_;have HK:=n4_;have HB:=n5_;have BK182:=n6_;have GW182:=n7_;have GE182:=n8_;have NB176_182:=n9_;have NB182_176:=n10_;have NB181_182:=n11_;have NB182_181:=n12_;have NB0_182:=n13_;have NB182_0:=n14_;clear n0_ n1_ n2_ n3_ n4_ n5_ n6_ n7_ n8_ n9_ n10_ n11_ n12_ n13_ n14_;clear hb hbox hg)|((with_reducible refine gate_callee (f:=45) rfl ?_);refine goesL_ (some 29) rfl rfl Try.func45 (by kernel_rfl) rfl #[.pointer (some ⟨g,0,none⟩),.int .i64 t177,.int .i64 2] rfl (by (try simp only [List.map_toArray,List.map_cons,List.map_nil]);first|done|rfl|(simp only [List.length_drop,List.length_take];rfl)) ?_;(with_reducible refine (trustquorummake_Trust.calls k1 g s0_0 x1001_1 t177 2 t183 t184 t187 t190 w0 _ ?side1 ?side2 A11.out).mono ?_);(case side1=>repeat (first|(with_reducible first|exact HI0.out|apply IsS71.alloc|apply IsS71.drewN|apply IsS71.drew|apply IsS71.set_1|refine IsS71.far ?_ NB0_176.out _|refine IsS71.far ?_ NB0_181.out _|refine IsS71.far ?_ NB0_182.out _)|exact HI0.out));(case side2=>repeat (first|(with_reducible first|exact HB.out|apply wA|apply wN|apply wD|refine wS ?_ (IsS71.ge HI0.out)|refine wS ?_ GE176.out|refine wS ?_ GE181.out|refine wS ?_ GE182.out)|exact HB.out));rintro e w16 ⟨v185,v188,rfl,ho0,ho1,hi,hb,hk⟩;refine ⟨_,rfl,?_⟩;have n0_:=Aside0.mk (Kd.R_mono (Kd.R_told (Kd.R_told (Kd.R_oldK (IsS71.apart (show IsS71 w0 _ g s0_0 x1001_1 from by repeat (first|(with_reducible first|exact HI0.out|apply IsS71.alloc|apply IsS71.drewN|apply IsS71.drew|apply IsS71.set_1|refine IsS71.far ?_ NB0_176.out _|refine IsS71.far ?_ NB0_181.out _|refine IsS71.far ?_ NB0_182.out _)|exact HI0.out)) (by (with_reducible repeat (first|apply Kd.R_alloc|apply Kd.R_drewN|apply Kd.R_drew));exact HO_182000.out) (by decide)) hk) (Kd.R_base ho0)) (Kd.R_base ho1)) (fun _ h_=>h_.1));have n1_:=Aside0.mk (KeepBut.blk hk (g':=gb176) (o:=.cells #[.slice none 0 0] 27 (0,0)) (by (with_reducible repeat (first|refine kN ?_ _|refine kD ?_|refine kA ?_ _));exact BK176.out) NB176_0.out (by simp));have n2_:=Aside0.mk (KeepBut.blk hk (g':=gb181) (o:=.cells #[u182000] 27 (0,0)) (by (with_reducible repeat (first|refine kN ?_ _|refine kD ?_|refine kA ?_ _));exact BK181.out) NB181_0.out (by simp));have n3_:=Aside0.mk (KeepBut.blk hk (g':=gb182) (o:=.cells #[.int .i64 0,.slice none 0 0,.slice none 0 0] 32 (0,0)) (by (with_reducible repeat (first|refine kN ?_ _|refine kD ?_|refine kA ?_ _));exact BK182.out) NB182_0.out (by simp));have n4_:=Aside0.mk (Kd.R_lower ho0 (keep_size (w:=w) (g:=g) (row:=none) (by repeat (first|(with_reducible first|exact HK.out|apply KeepBut.set_|apply keep_drewN|apply keep_drew|apply keep_alloc|refine eF ?_ GW176.out _|refine eF ?_ GW181.out _|refine eF ?_ GW182.out _)|exact HK.out))));have n5_:=Aside0.mk (Kd.R_lower (Kd.R_newB ho1 (g:=gb182) (o:=.cells #[.int .i64 0,.slice none 0 0,.slice none 0 0] 32 (0,0)) (by (with_reducible repeat (first|refine kN ?_ _|refine kD ?_|refine kA ?_ _));exact BK182.out)) (keep_size (w:=w) (g:=g) (row:=none) (by repeat (first|(with_reducible first|exact HK.out|apply KeepBut.set_|apply keep_drewN|apply keep_drew|apply keep_alloc|refine eF ?_ GW176.out _|refine eF ?_ GW181.out _|refine eF ?_ GW182.out _)|exact HK.out))));have n6_:=Aside0.mk (KeepBut.trans (by repeat (first|(with_reducible first|exact HK.out|apply KeepBut.set_|apply keep_drewN|apply keep_drew|apply keep_alloc|refine eF ?_ GW176.out _|refine eF ?_ GW181.out _|refine eF ?_ GW182.out _)|exact HK.out)) hk (.inl rfl));have n7_:=Aside0.mk (hb);have n8_:=Aside0.mk (hi);clear HO_182000;clear BK176;clear BK181;clear BK182;clear HK;clear HB;clear HI0;have HO_182000:=n0_;have BK176:=n1_;have BK181:=n2_;have BK182:=n3_;have HO186:=n4_;have HO189:=n5_;have HK:=n6_;have HB:=n7_;have HI0:=n8_;clear n0_ n1_ n2_ n3_ n4_ n5_ n6_ n7_ n8_;(try clear hb);(try clear hb2);(try clear hk);(try clear hi);(try clear ho0);(try clear ho1);have hnb17:=NB182_176.out;have hnc17:=NB176_182.out;have hnb18:=NB182_181.out;have hnc18:=NB181_182.out;have hnb19:=NB182_0.out;have hnc19:=NB0_182.out;have hcz20_0:w16.cell? ⟨gb182,0,none⟩=some (.int .i64 0):=(kC BK182.out 0).trans rfl;have hcz20_1:w16.cell? ⟨gb182,1,none⟩=some (.slice none 0 0):=(kC BK182.out 1).trans rfl;have hcz20_2:w16.cell? ⟨gb182,2,none⟩=some (.slice none 0 0):=(kC BK182.out 2).trans rfl;have hfz20_0:=kF BK182.out 0;have hfz20_1:=kF BK182.out 1;have hfz20_2:=kF BK182.out 2;obtain ⟨Ao21,co21,eo21⟩:=Kd.R_slice HO186.out;subst eo21;obtain ⟨Ao22,co22,eo22⟩:=Kd.R_slice HO189.out;subst eo22)|((with_reducible refine gate_callee (f:=16) rfl ?_);refine goesL_ (some 36) rfl rfl Try.func16 (by kernel_rfl) rfl #[.pointer (some ⟨g,0,none⟩),.int .i64 12] rfl (by (try simp only [List.map_toArray,List.map_cons,List.map_nil]);first|done|rfl|(simp only [List.length_drop,List.length_take];rfl)) ?_;(with_reducible refine (trustquorummake_Tape_N.calls g s0_0 t190 12 t191 t192 w0 _ ?side1 ?side2 A12.out).mono ?_);(case side1=>repeat (first|(with_reducible first|exact HI0.out|apply IsS71.alloc|apply IsS71.drewN|apply IsS71.drew|apply IsS71.set_1|refine IsS71.far ?_ NB0_176.out _|refine IsS71.far ?_ NB0_181.out _|refine IsS71.far ?_ NB0_182.out _)|exact HI0.out));(case side2=>repeat (first|(with_reducible first|exact HB.out|apply wA|apply wN|apply wD|refine wS ?_ (IsS71.ge HI0.out)|refine wS ?_ GE176.out|refine wS ?_ GE181.out|refine wS ?_ GE182.out)|exact HB.out));rintro e w23 ⟨rfl,hi,hb,hk⟩;refine ⟨_,rfl,?_⟩;have n0_:=Aside0.mk (Kd.R_mono (Kd.R_keep (IsS71.apart (show IsS71 w0 _ g s0_0 t190 from by repeat (first|(with_reducible first|exact HI0.out|apply IsS71.alloc|apply IsS71.drewN|apply IsS71.drew|apply IsS71.set_1|refine IsS71.far ?_ NB0_176.out _|refine IsS71.far ?_ NB0_181.out _|refine IsS71.far ?_ NB0_182.out _)|exact HI0.out)) (by (with_reducible repeat (first|apply Kd.R_alloc|apply Kd.R_drewN|apply Kd.R_drew));exact (Kd.R_mono (Kd.R_far (p:=⟨gb182,2,none⟩) (Kd.R_far (p:=⟨gb182,1,none⟩) (Kd.R_far (p:=⟨gb182,0,none⟩) (Kd.R_mono HO_182000.out (fun k_ hk=>(⟨hk,hk.1.1.2⟩:_∧k_ ≠ gb182))) (fun _ hk=>hk.2) (.int .i64 t183)) (fun _ hk=>hk.2) (.slice Ao21 t184.length co21)) (fun _ hk=>hk.2) (.slice Ao22 t187.length co22)) (fun _ h_=>h_.1))) (by decide)) hk (fun _ h=>h.2)) (fun _ h=>h.1));have n1_:=Aside0.mk (KeepBut.blk hk (g':=gb176) (o:=.cells #[.slice none 0 0] 27 (0,0)) (by (with_reducible repeat (first|refine kN ?_ _|refine kD ?_|refine kA ?_ _));refine blk_far ?_ NB176_182.out _;(with_reducible repeat (first|refine kN ?_ _|refine kD ?_|refine kA ?_ _));refine blk_far ?_ NB176_182.out _;(with_reducible repeat (first|refine kN ?_ _|refine kD ?_|refine kA ?_ _));refine blk_far ?_ NB176_182.out _;(with_reducible repeat (first|refine kN ?_ _|refine kD ?_|refine kA ?_ _));exact BK176.out) NB176_0.out (by simp));have n2_:=Aside0.mk (KeepBut.blk hk (g':=gb181) (o:=.cells #[u182000] 27 (0,0)) (by (with_reducible repeat (first|refine kN ?_ _|refine kD ?_|refine kA ?_ _));refine blk_far ?_ NB181_182.out _;(with_reducible repeat (first|refine kN ?_ _|refine kD ?_|refine kA ?_ _));refine blk_far ?_ NB181_182.out _;(with_reducible repeat (first|refine kN ?_ _|refine kD ?_|refine kA ?_ _));refine blk_far ?_ NB181_182.out _;(with_reducible repeat (first|refine kN ?_ _|refine kD ?_|refine kA ?_ _));exact BK181.out) NB181_0.out (by simp));have n3_:=Aside0.mk (KeepBut.blk hk (g':=gb182) (o:=.cells #[.int .i64 t183,.slice Ao21 t184.length co21,.slice Ao22 t187.length co22] 32 (0,0)) (by (with_reducible repeat (first|refine kN ?_ _|refine kD ?_|refine kA ?_ _));refine blk_put (cs:=#[.int .i64 t183,.slice Ao21 t184.length co21,.slice none 0 0]) ?_ 2 _ rfl;(with_reducible repeat (first|refine kN ?_ _|refine kD ?_|refine kA ?_ _));refine blk_put (cs:=#[.int .i64 t183,.slice none 0 0,.slice none 0 0]) ?_ 1 _ rfl;(with_reducible repeat (first|refine kN ?_ _|refine kD ?_|refine kA ?_ _));refine blk_put (cs:=#[.int .i64 0,.slice none 0 0,.slice none 0 0]) ?_ 0 _ rfl;(with_reducible repeat (first|refine kN ?_ _|refine kD ?_|refine kA ?_ _));exact BK182.out) NB182_0.out (by simp));have n4_:=Aside0.mk (Kd.R_mono (Kd.R_keep (IsS71.apart (show IsS71 w0 _ g s0_0 t190 from by repeat (first|(with_reducible first|exact HI0.out|apply IsS71.alloc|apply IsS71.drewN|apply IsS71.drew|apply IsS71.set_1|refine IsS71.far ?_ NB0_176.out _|refine IsS71.far ?_ NB0_181.out _|refine IsS71.far ?_ NB0_182.out _)|exact HI0.out)) (by (with_reducible repeat (first|apply Kd.R_alloc|apply Kd.R_drewN|apply Kd.R_drew));exact (Kd.R_mono (Kd.R_far (p:=⟨gb182,2,none⟩) (Kd.R_far (p:=⟨gb182,1,none⟩) (Kd.R_far (p:=⟨gb182,0,none⟩) (Kd.R_types HO186.out BK182.out (by decide)) (fun _ hk=>hk.2) (.int .i64 t183)) (fun _ hk=>hk.2) (.slice Ao21 t184.length co21)) (fun _ hk=>hk.2) (.slice Ao22 t187.length co22)) (fun _ h_=>h_.1))) (by decide)) hk (fun _ h=>h.2)) (fun _ h=>h.1));have n5_:=Aside0.mk (Kd.R_mono (Kd.R_keep (IsS71.apart (show IsS71 w0 _ g s0_0 t190 from by repeat (first|(with_reducible first|exact HI0.out|apply IsS71.alloc|apply IsS71.drewN|apply IsS71.drew|apply IsS71.set_1|refine IsS71.far ?_ NB0_176.out _|refine IsS71.far ?_ NB0_181.out _|refine IsS71.far ?_ NB0_182.out _)|exact HI0.out)) (by (with_reducible repeat (first|apply Kd.R_alloc|apply Kd.R_drewN|apply Kd.R_drew));exact (Kd.R_mono (Kd.R_far (p:=⟨gb182,2,none⟩) (Kd.R_far (p:=⟨gb182,1,none⟩) (Kd.R_far (p:=⟨gb182,0,none⟩) (Kd.R_mono HO189.out (fun k_ hk=>(⟨hk,hk.2⟩:_∧k_ ≠ gb182))) (fun _ hk=>hk.2) (.int .i64 t183)) (fun _ hk=>hk.2) (.slice Ao21 t184.length co21)) (fun _ hk=>hk.2) (.slice Ao22 t187.length co22)) (fun _ h_=>h_.1))) (by decide)) hk (fun _ h=>h.2)) (fun _ h=>h.1));have n6_:=Aside0.mk (KeepBut.trans (by repeat (first|(with_reducible first|exact HK.out|apply KeepBut.set_|apply keep_drewN|apply keep_drew|apply keep_alloc|refine eF ?_ GW176.out _|refine eF ?_ GW181.out _|refine eF ?_ GW182.out _)|exact HK.out)) hk (.inl rfl));have n7_:=Aside0.mk (hb);have n8_:=Aside0.mk (hi);clear HO_182000;clear BK176;clear BK181;clear BK182;clear HO186;clear HO189;clear HK;clear HB;clear HI0;have HO_182000:=n0_;have BK176:=n1_;have BK181:=n2_;have BK182:=n3_;have HO186:=n4_;have HO189:=n5_;have HK:=n6_;have HB:=n7_;have HI0:=n8_;clear n0_ n1_ n2_ n3_ n4_ n5_ n6_ n7_ n8_;(try clear hb);(try clear hb2);(try clear hk);(try clear hi);have hnb24:=NB181_176.out;have hnc24:=NB176_181.out;have hnb25:=NB181_0.out;have hnc25:=NB0_181.out;have hcz26_0:w23.cell? ⟨gb181,0,none⟩=some (u182000):=(kC BK181.out 0).trans rfl;have hfz26_0:=kF BK181.out 0)|((with_reducible refine gate_builtin (b:=.append) (xs:=#[.tmp 39,.tmp 41]) rfl ?_);at_builtin;refine Kd.R_append k34 w.heap.size rfl (.tmp 39) (.tmp 41) 25 34 (.agg #[(.bool false),(.int .i64 0),(.slice none 0 0),(.slice none 0 0)]) 64 rfl Try.underlying25 info34 rfl (by decide) (by omega) u182000 x182000_1 (⟨false,(⟨0,([]:List Int),([]:List (S32))⟩:S32)⟩:S34) [.bool false,.int .i64 0,.slice none 0 0,.slice none 0 0] (fun k_=>some k_ ≠ (.slice Ao21 t184.length co21:Value).ownBlock∧some k_ ≠ (.slice Ao22 t187.length co22:Value).ownBlock∧k_ ≠ gb182) (fun k_=>((fun k_=>some k_ ≠ (.slice Ao21 t184.length co21:Value).ownBlock∧some k_ ≠ (.slice Ao22 t187.length co22:Value).ownBlock∧k_ ≠ gb182)) k_∧some k_ ≠ (u182000:Value).ownBlock) rfl rfl ?aP (fun _ hk=>hk) ?aF ?aO (Below.refl _ _) ?aS ?aL ?_;(case aP=>exact k34_mkM _ _ _ (⟨false,(⟨0,([]:List Int),([]:List (S32))⟩:S32)⟩:S34) (Kd.R_nil _ _ _ _ _) (Kd.R_nil _ _ _ _ _));(case aF=>exact (fun k_ hk=>⟨Kd.fresh' (Kd.R_lt (by (with_reducible repeat (first|apply Kd.R_alloc|apply Kd.R_drewN|apply Kd.R_drew));exact HO186.out)) k_ hk,Kd.fresh' (Kd.R_lt (by (with_reducible repeat (first|apply Kd.R_alloc|apply Kd.R_drewN|apply Kd.R_drew));exact HO189.out)) k_ hk,Kd.freshB (g:=gb182) (o:=.cells #[.int .i64 t183,.slice Ao21 t184.length co21,.slice Ao22 t187.length co22] 32 (0,0)) (by (with_reducible repeat (first|refine kN ?_ _|refine kD ?_|refine kA ?_ _));exact BK182.out) k_ hk⟩));(case aO=>exact (by (with_reducible repeat (first|apply Kd.R_alloc|apply Kd.R_drewN|apply Kd.R_drew));exact Kd.R_mono HO_182000.out (fun _ hk=>⟨hk.1.2,⟨hk.2,hk.1.1.2⟩⟩)));(case aS=>exact (keep_size (w:=w) (g:=g) (row:=none) (by repeat (first|(with_reducible first|exact HK.out|apply KeepBut.set_|apply keep_drewN|apply keep_drew|apply keep_alloc|refine eF ?_ GW176.out _|refine eF ?_ GW181.out _|refine eF ?_ GW182.out _)|exact HK.out))));(case aL=>have:=LMc14.out;omega);intro v194 w27 ho hb hg hat;rw [← Ny193.out] at ho;have n0_:=Aside0.mk (blk_grown (g:=gb176) (o:=.cells #[.slice none 0 0] 27 (0,0)) (by (with_reducible repeat (first|refine kN ?_ _|refine kD ?_|refine kA ?_ _));exact BK176.out) hg (Kd.R_ne HO_182000.out BK176.out (by decide)));have n1_:=Aside0.mk (blk_grown (g:=gb181) (o:=.cells #[u182000] 27 (0,0)) (by (with_reducible repeat (first|refine kN ?_ _|refine kD ?_|refine kA ?_ _));exact BK181.out) hg (Kd.R_ne HO_182000.out BK181.out (by decide)));have n2_:=Aside0.mk (IsS71.grown (by repeat (first|(with_reducible first|exact HI0.out|apply IsS71.alloc|apply IsS71.drewN|apply IsS71.drew|apply IsS71.set_1|refine IsS71.far ?_ NB0_176.out _|refine IsS71.far ?_ NB0_181.out _|refine IsS71.far ?_ NB0_182.out _)|exact HI0.out)) hg (IsS71.own_ne HI0.out HO_182000.out (by decide)));have n3_:=Aside0.mk (blk_grown (g:=gb182) (o:=.cells #[.int .i64 t183,.slice Ao21 t184.length co21,.slice Ao22 t187.length co22] 32 (0,0)) (by (with_reducible repeat (first|refine kN ?_ _|refine kD ?_|refine kA ?_ _));exact BK182.out) hg (Kd.R_ne HO_182000.out BK182.out (by decide)));have n4_:=Aside0.mk (Kd.R_over' (by (with_reducible repeat (first|apply Kd.R_alloc|apply Kd.R_drewN|apply Kd.R_drew));exact HO186.out) (Kd.R_typed (by (with_reducible repeat (first|apply Kd.R_alloc|apply Kd.R_drewN|apply Kd.R_drew));exact HO_182000.out)) (by decide) hg);have n5_:=Aside0.mk (Kd.R_over' (by (with_reducible repeat (first|apply Kd.R_alloc|apply Kd.R_drewN|apply Kd.R_drew));exact HO189.out) (Kd.R_typed (by (with_reducible repeat (first|apply Kd.R_alloc|apply Kd.R_drewN|apply Kd.R_drew));exact HO_182000.out)) (by decide) hg);have n6_:=Aside0.mk (below_weaken (by repeat (first|(with_reducible first|exact HB.out|apply wA|apply wN|apply wD|refine wS ?_ (IsS71.ge HI0.out)|refine wS ?_ GE176.out|refine wS ?_ GE181.out|refine wS ?_ GE182.out)|exact HB.out)) HL.out hb);have n7_:=Aside0.mk (KeepBut.trans (by repeat (first|(with_reducible first|exact HK.out|apply KeepBut.set_|apply keep_drewN|apply keep_drew|apply keep_alloc|refine eF ?_ GW176.out _|refine eF ?_ GW181.out _|refine eF ?_ GW182.out _)|exact HK.out)) (KeepBut.of_grown hg g) (Kd.R_base2 HO_182000.out));have n8_:=Aside0.mk (ho);clear BK176;clear BK181;clear HI0;clear BK182;clear HO186;clear HO189;clear HB;clear HK;clear HO_182000;have BK176:=n0_;have BK181:=n1_;have HI0:=n2_;have BK182:=n3_;have HO186:=n4_;have HO189:=n5_;have HB:=n6_;have HK:=n7_;have HO195:=n8_;clear n0_ n1_ n2_ n3_ n4_ n5_ n6_ n7_ n8_;clear ho hb hg hat;obtain ⟨Ao28,co28,eo28⟩:=Kd.R_slice HO195.out;subst eo28;have hcz29_0:w27.cell? ⟨gb181,0,none⟩=some (u182000):=(kC BK181.out 0).trans rfl;have hfz29_0:=kF BK181.out 0))
       go_roundg k1
       case measure=>have:=HK1.out;omega
       case rel=>exact ⟨(wrap64 (x8_1+1)),(t192),(y193),(.slice Ao28 y193.length co28),(by first|rfl|(simp;done)|(simp [*];done)),H',⟨by have:=HK1.out;omega⟩,⟨by (with_reducible repeat (first|apply Kd.R_alloc|apply Kd.R_drewN|apply Kd.R_drew));exact Kd.R_mono (Kd.R_far (p:=⟨gb181,0,none⟩) (Kd.R_types HO195.out BK181.out (by decide)) (fun _ hk=>hk.2) (.slice Ao28 y193.length co28)) (fun _ hk=>trivial)⟩,⟨by (with_reducible repeat (first|refine kN ?_ _|refine kD ?_|refine kA ?_ _));refine blk_far ?_ NB176_181.out _;(with_reducible repeat (first|refine kN ?_ _|refine kD ?_|refine kA ?_ _));exact BK176.out⟩,⟨by (with_reducible repeat (first|refine kN ?_ _|refine kD ?_|refine kA ?_ _));refine blk_put (cs:=#[u182000]) ?_ 0 _ rfl;(with_reducible repeat (first|refine kN ?_ _|refine kD ?_|refine kA ?_ _));exact BK181.out⟩,⟨by repeat (first|(with_reducible first|exact HI0.out|apply IsS71.alloc|apply IsS71.drewN|apply IsS71.drew|apply IsS71.set_1|refine IsS71.far ?_ NB0_176.out _|refine IsS71.far ?_ NB0_181.out _|refine IsS71.far ?_ NB0_182.out _)|exact HI0.out)⟩,⟨by repeat (first|(with_reducible first|exact HK.out|apply KeepBut.set_|apply keep_drewN|apply keep_drew|apply keep_alloc|refine eF ?_ GW176.out _|refine eF ?_ GW181.out _|refine eF ?_ GW182.out _)|exact HK.out)⟩,⟨by repeat (first|(with_reducible first|exact HB.out|apply wA|apply wN|apply wD|refine wS ?_ (IsS71.ge HI0.out)|refine wS ?_ GE176.out|refine wS ?_ GE181.out|refine wS ?_ GE182.out)|exact HB.out)⟩⟩
      ·rw [if_neg c14] at H
       exact absurd H (by simp)
     ·rw [if_neg c13] at H
      have c13b0:(t191 == 11)=false:=beq_eq_false_iff_ne.mpr c13
      have c13b1:(t191 != 11)=true:=bne_iff_ne.mpr c13
      by_cases c30:x182000_1.length < 2199023255552
      ·rw [if_pos c30] at H
       have LMc30:=Aside0.mk c30
       clear c30
       obtain ⟨y196,hy196⟩:∃ y_:List (S34),y_=(x182000_1++[(⟨true,(⟨t183,t184,t187⟩:S32)⟩:S34)]):=⟨_,rfl⟩
       replace H:(trustquorummake_Config.l0 k1 t177 t179 (wrap64 (x8_1+1)) s0_0 t192 y196)=some (r1,r2):=by first|(rw [hy196];with_reducible exact H)|(have H2_:=(Option.bind_some _ _).symm.trans H;rw [hy196];with_reducible exact H2_)|(have H2_:=(Option.bind_some _ _).symm.trans H;with_reducible exact H2_)|with_reducible exact H|(rw [hy196];exact H)|exact H
       have Ny196:=Aside0.mk hy196
       clear hy196
       have H':=Aside0.mk H
       clear H
       go_wp2_with (first|((with_reducible refine gate_dst (N:=9) rfl ?_);refine box_event ?hg (N:=9) ?hd (cs:=#[.int .i64 0,.slice none 0 0,.slice none 0 0]) (t:=32) ?hr ?_;(case hd=>rfl);(case hg=>rfl);(case hr=>first|(go_simp;done)|(go_simp;rfl));intro gb182 hg w31 hbox hb;have n0_:=Aside0.mk (Kd.R_below (Kd.R_elderB (by (with_reducible repeat (first|apply Kd.R_alloc|apply Kd.R_drewN|apply Kd.R_drew));exact HO_182000.out) gb182 (Nat.le_of_eq hg.symm)) hb);have n1_:=Aside0.mk (blk_below (g:=gb176) (o:=.cells #[.slice none 0 0] 27 (0,0)) (by (with_reducible repeat (first|refine kN ?_ _|refine kD ?_|refine kA ?_ _));exact BK176.out) hb);have n2_:=Aside0.mk (blk_below (g:=gb181) (o:=.cells #[u182000] 27 (0,0)) (by (with_reducible repeat (first|refine kN ?_ _|refine kD ?_|refine kA ?_ _));exact BK181.out) hb);have n3_:=Aside0.mk (IsS71.below (by repeat (first|(with_reducible first|exact HI0.out|apply IsS71.alloc|apply IsS71.drewN|apply IsS71.drew|apply IsS71.set_1|refine IsS71.far ?_ NB0_176.out _|refine IsS71.far ?_ NB0_181.out _)|exact HI0.out)) hb);have n4_:=Aside0.mk (KeepBut.trans (by repeat (first|(with_reducible first|exact HK.out|apply KeepBut.set_|apply keep_drewN|apply keep_drew|apply keep_alloc|refine eF ?_ GW176.out _|refine eF ?_ GW181.out _)|exact HK.out)) (KeepBut.of_below hb g none) (.inl rfl));have n5_:=Aside0.mk (below_step (by repeat (first|(with_reducible first|exact HB.out|apply wA|apply wN|apply wD|refine wS ?_ (IsS71.ge HI0.out)|refine wS ?_ GE176.out|refine wS ?_ GE181.out)|exact HB.out)) hb);have n6_:=Aside0.mk (hbox);have n7_:=Aside0.mk ((by rw [hg];exact (keep_size (w:=w) (g:=g) (row:=none) (by repeat (first|(with_reducible first|exact HK.out|apply KeepBut.set_|apply keep_drewN|apply keep_drew|apply keep_alloc|refine eF ?_ GW176.out _|refine eF ?_ GW181.out _)|exact HK.out))):w.heap.size≤gb182));have n8_:=Aside0.mk ((Nat.le_trans HW0.out (by rw [hg];exact (keep_size (w:=w) (g:=g) (row:=none) (by repeat (first|(with_reducible first|exact HK.out|apply KeepBut.set_|apply keep_drewN|apply keep_drew|apply keep_alloc|refine eF ?_ GW176.out _|refine eF ?_ GW181.out _)|exact HK.out))):w.heap.size≤gb182):w0.heap.size≤gb182));have n9_:=Aside0.mk ((by rw [hg];exact Nat.ne_of_lt (blk_lt (g:=gb176) (o:=.cells #[.slice none 0 0] 27 (0,0)) (by (with_reducible repeat (first|refine kN ?_ _|refine kD ?_|refine kA ?_ _));exact BK176.out)):gb176 ≠ gb182));have n10_:=Aside0.mk ((by rw [hg];exact Nat.ne_of_gt (blk_lt (g:=gb176) (o:=.cells #[.slice none 0 0] 27 (0,0)) (by (with_reducible repeat (first|refine kN ?_ _|refine kD ?_|refine kA ?_ _));exact BK176.out)):gb182 ≠ gb176));have n11_:=Aside0.mk ((by rw [hg];exact Nat.ne_of_lt (blk_lt (g:=gb181) (o:=.cells #[u182000] 27 (0,0)) (by (with_reducible repeat (first|refine kN ?_ _|refine kD ?_|refine kA ?_ _));exact BK181.out)):gb181 ≠ gb182));have n12_:=Aside0.mk ((by rw [hg];exact Nat.ne_of_gt (blk_lt (g:=gb181) (o:=.cells #[u182000] 27 (0,0)) (by (with_reducible repeat (first|refine kN ?_ _|refine kD ?_|refine kA ?_ _));exact BK181.out)):gb182 ≠ gb181));have n13_:=Aside0.mk ((by rw [hg];exact Nat.ne_of_lt (IsS71.lt (show IsS71 w0 _ g s0_0 x1001_1 from by repeat (first|(with_reducible first|exact HI0.out|apply IsS71.alloc|apply IsS71.drewN|apply IsS71.drew|apply IsS71.set_1|refine IsS71.far ?_ NB0_176.out _|refine IsS71.far ?_ NB0_181.out _)|exact HI0.out))):g ≠ gb182));have n14_:=Aside0.mk ((by rw [hg];exact Nat.ne_of_gt (IsS71.lt (show IsS71 w0 _ g s0_0 x1001_1 from by repeat (first|(with_reducible first|exact HI0.out|apply IsS71.alloc|apply IsS71.drewN|apply IsS71.drew|apply IsS71.set_1|refine IsS71.far ?_ NB0_176.out _|refine IsS71.far ?_ NB0_181.out _)|exact HI0.out))):gb182 ≠ g));clear HO_182000;clear BK176;clear BK181;clear HI0;clear HK;clear HB;have HO_182000:=n0_;have BK176:=n1_;have BK181:=n2_;have HI0:=n3_;have HK:=n4_;have HB:=n5_;have BK182:=n6_;have GW182:=n7_;have GE182:=n8_;have NB176_182:=n9_;have NB182_176:=n10_;have NB181_182:=n11_;have NB182_181:=n12_;have NB0_182:=n13_;have NB182_0:=n14_;clear n0_ n1_ n2_ n3_ n4_ n5_ n6_ n7_ n8_ n9_ n10_ n11_ n12_ n13_ n14_;clear hb hbox hg)|((with_reducible refine gate_callee (f:=45) rfl ?_);refine goesL_ (some 29) rfl rfl Try.func45 (by kernel_rfl) rfl #[.pointer (some ⟨g,0,none⟩),.int .i64 t177,.int .i64 2] rfl (by (try simp only [List.map_toArray,List.map_cons,List.map_nil]);first|done|rfl|(simp only [List.length_drop,List.length_take];rfl)) ?_;(with_reducible refine (trustquorummake_Trust.calls k1 g s0_0 x1001_1 t177 2 t183 t184 t187 t190 w0 _ ?side1 ?side2 A11.out).mono ?_);(case side1=>repeat (first|(with_reducible first|exact HI0.out|apply IsS71.alloc|apply IsS71.drewN|apply IsS71.drew|apply IsS71.set_1|refine IsS71.far ?_ NB0_176.out _|refine IsS71.far ?_ NB0_181.out _|refine IsS71.far ?_ NB0_182.out _)|exact HI0.out));(case side2=>repeat (first|(with_reducible first|exact HB.out|apply wA|apply wN|apply wD|refine wS ?_ (IsS71.ge HI0.out)|refine wS ?_ GE176.out|refine wS ?_ GE181.out|refine wS ?_ GE182.out)|exact HB.out));rintro e w32 ⟨v185,v188,rfl,ho0,ho1,hi,hb,hk⟩;refine ⟨_,rfl,?_⟩;have n0_:=Aside0.mk (Kd.R_mono (Kd.R_told (Kd.R_told (Kd.R_oldK (IsS71.apart (show IsS71 w0 _ g s0_0 x1001_1 from by repeat (first|(with_reducible first|exact HI0.out|apply IsS71.alloc|apply IsS71.drewN|apply IsS71.drew|apply IsS71.set_1|refine IsS71.far ?_ NB0_176.out _|refine IsS71.far ?_ NB0_181.out _|refine IsS71.far ?_ NB0_182.out _)|exact HI0.out)) (by (with_reducible repeat (first|apply Kd.R_alloc|apply Kd.R_drewN|apply Kd.R_drew));exact HO_182000.out) (by decide)) hk) (Kd.R_base ho0)) (Kd.R_base ho1)) (fun _ h_=>h_.1));have n1_:=Aside0.mk (KeepBut.blk hk (g':=gb176) (o:=.cells #[.slice none 0 0] 27 (0,0)) (by (with_reducible repeat (first|refine kN ?_ _|refine kD ?_|refine kA ?_ _));exact BK176.out) NB176_0.out (by simp));have n2_:=Aside0.mk (KeepBut.blk hk (g':=gb181) (o:=.cells #[u182000] 27 (0,0)) (by (with_reducible repeat (first|refine kN ?_ _|refine kD ?_|refine kA ?_ _));exact BK181.out) NB181_0.out (by simp));have n3_:=Aside0.mk (KeepBut.blk hk (g':=gb182) (o:=.cells #[.int .i64 0,.slice none 0 0,.slice none 0 0] 32 (0,0)) (by (with_reducible repeat (first|refine kN ?_ _|refine kD ?_|refine kA ?_ _));exact BK182.out) NB182_0.out (by simp));have n4_:=Aside0.mk (Kd.R_lower ho0 (keep_size (w:=w) (g:=g) (row:=none) (by repeat (first|(with_reducible first|exact HK.out|apply KeepBut.set_|apply keep_drewN|apply keep_drew|apply keep_alloc|refine eF ?_ GW176.out _|refine eF ?_ GW181.out _|refine eF ?_ GW182.out _)|exact HK.out))));have n5_:=Aside0.mk (Kd.R_lower (Kd.R_newB ho1 (g:=gb182) (o:=.cells #[.int .i64 0,.slice none 0 0,.slice none 0 0] 32 (0,0)) (by (with_reducible repeat (first|refine kN ?_ _|refine kD ?_|refine kA ?_ _));exact BK182.out)) (keep_size (w:=w) (g:=g) (row:=none) (by repeat (first|(with_reducible first|exact HK.out|apply KeepBut.set_|apply keep_drewN|apply keep_drew|apply keep_alloc|refine eF ?_ GW176.out _|refine eF ?_ GW181.out _|refine eF ?_ GW182.out _)|exact HK.out))));have n6_:=Aside0.mk (KeepBut.trans (by repeat (first|(with_reducible first|exact HK.out|apply KeepBut.set_|apply keep_drewN|apply keep_drew|apply keep_alloc|refine eF ?_ GW176.out _|refine eF ?_ GW181.out _|refine eF ?_ GW182.out _)|exact HK.out)) hk (.inl rfl));have n7_:=Aside0.mk (hb);have n8_:=Aside0.mk (hi);clear HO_182000;clear BK176;clear BK181;clear BK182;clear HK;clear HB;clear HI0;have HO_182000:=n0_;have BK176:=n1_;have BK181:=n2_;have BK182:=n3_;have HO186:=n4_;have HO189:=n5_;have HK:=n6_;have HB:=n7_;have HI0:=n8_;clear n0_ n1_ n2_ n3_ n4_ n5_ n6_ n7_ n8_;(try clear hb);(try clear hb2);(try clear hk);(try clear hi);(try clear ho0);(try clear ho1);have hnb33:=NB182_176.out;have hnc33:=NB176_182.out;have hnb34:=NB182_181.out;have hnc34:=NB181_182.out;have hnb35:=NB182_0.out;have hnc35:=NB0_182.out;have hcz36_0:w32.cell? ⟨gb182,0,none⟩=some (.int .i64 0):=(kC BK182.out 0).trans rfl;have hcz36_1:w32.cell? ⟨gb182,1,none⟩=some (.slice none 0 0):=(kC BK182.out 1).trans rfl;have hcz36_2:w32.cell? ⟨gb182,2,none⟩=some (.slice none 0 0):=(kC BK182.out 2).trans rfl;have hfz36_0:=kF BK182.out 0;have hfz36_1:=kF BK182.out 1;have hfz36_2:=kF BK182.out 2;obtain ⟨Ao37,co37,eo37⟩:=Kd.R_slice HO186.out;subst eo37;obtain ⟨Ao38,co38,eo38⟩:=Kd.R_slice HO189.out;subst eo38)|((with_reducible refine gate_callee (f:=16) rfl ?_);refine goesL_ (some 36) rfl rfl Try.func16 (by kernel_rfl) rfl #[.pointer (some ⟨g,0,none⟩),.int .i64 12] rfl (by (try simp only [List.map_toArray,List.map_cons,List.map_nil]);first|done|rfl|(simp only [List.length_drop,List.length_take];rfl)) ?_;(with_reducible refine (trustquorummake_Tape_N.calls g s0_0 t190 12 t191 t192 w0 _ ?side1 ?side2 A12.out).mono ?_);(case side1=>repeat (first|(with_reducible first|exact HI0.out|apply IsS71.alloc|apply IsS71.drewN|apply IsS71.drew|apply IsS71.set_1|refine IsS71.far ?_ NB0_176.out _|refine IsS71.far ?_ NB0_181.out _|refine IsS71.far ?_ NB0_182.out _)|exact HI0.out));(case side2=>repeat (first|(with_reducible first|exact HB.out|apply wA|apply wN|apply wD|refine wS ?_ (IsS71.ge HI0.out)|refine wS ?_ GE176.out|refine wS ?_ GE181.out|refine wS ?_ GE182.out)|exact HB.out));rintro e w39 ⟨rfl,hi,hb,hk⟩;refine ⟨_,rfl,?_⟩;have n0_:=Aside0.mk (Kd.R_mono (Kd.R_keep (IsS71.apart (show IsS71 w0 _ g s0_0 t190 from by repeat (first|(with_reducible first|exact HI0.out|apply IsS71.alloc|apply IsS71.drewN|apply IsS71.drew|apply IsS71.set_1|refine IsS71.far ?_ NB0_176.out _|refine IsS71.far ?_ NB0_181.out _|refine IsS71.far ?_ NB0_182.out _)|exact HI0.out)) (by (with_reducible repeat (first|apply Kd.R_alloc|apply Kd.R_drewN|apply Kd.R_drew));exact (Kd.R_mono (Kd.R_far (p:=⟨gb182,2,none⟩) (Kd.R_far (p:=⟨gb182,1,none⟩) (Kd.R_far (p:=⟨gb182,0,none⟩) (Kd.R_mono HO_182000.out (fun k_ hk=>(⟨hk,hk.1.1.2⟩:_∧k_ ≠ gb182))) (fun _ hk=>hk.2) (.int .i64 t183)) (fun _ hk=>hk.2) (.slice Ao37 t184.length co37)) (fun _ hk=>hk.2) (.slice Ao38 t187.length co38)) (fun _ h_=>h_.1))) (by decide)) hk (fun _ h=>h.2)) (fun _ h=>h.1));have n1_:=Aside0.mk (KeepBut.blk hk (g':=gb176) (o:=.cells #[.slice none 0 0] 27 (0,0)) (by (with_reducible repeat (first|refine kN ?_ _|refine kD ?_|refine kA ?_ _));refine blk_far ?_ NB176_182.out _;(with_reducible repeat (first|refine kN ?_ _|refine kD ?_|refine kA ?_ _));refine blk_far ?_ NB176_182.out _;(with_reducible repeat (first|refine kN ?_ _|refine kD ?_|refine kA ?_ _));refine blk_far ?_ NB176_182.out _;(with_reducible repeat (first|refine kN ?_ _|refine kD ?_|refine kA ?_ _));exact BK176.out) NB176_0.out (by simp));have n2_:=Aside0.mk (KeepBut.blk hk (g':=gb181) (o:=.cells #[u182000] 27 (0,0)) (by (with_reducible repeat (first|refine kN ?_ _|refine kD ?_|refine kA ?_ _));refine blk_far ?_ NB181_182.out _;(with_reducible repeat (first|refine kN ?_ _|refine kD ?_|refine kA ?_ _));refine blk_far ?_ NB181_182.out _;(with_reducible repeat (first|refine kN ?_ _|refine kD ?_|refine kA ?_ _));refine blk_far ?_ NB181_182.out _;(with_reducible repeat (first|refine kN ?_ _|refine kD ?_|refine kA ?_ _));exact BK181.out) NB181_0.out (by simp));have n3_:=Aside0.mk (KeepBut.blk hk (g':=gb182) (o:=.cells #[.int .i64 t183,.slice Ao37 t184.length co37,.slice Ao38 t187.length co38] 32 (0,0)) (by (with_reducible repeat (first|refine kN ?_ _|refine kD ?_|refine kA ?_ _));refine blk_put (cs:=#[.int .i64 t183,.slice Ao37 t184.length co37,.slice none 0 0]) ?_ 2 _ rfl;(with_reducible repeat (first|refine kN ?_ _|refine kD ?_|refine kA ?_ _));refine blk_put (cs:=#[.int .i64 t183,.slice none 0 0,.slice none 0 0]) ?_ 1 _ rfl;(with_reducible repeat (first|refine kN ?_ _|refine kD ?_|refine kA ?_ _));refine blk_put (cs:=#[.int .i64 0,.slice none 0 0,.slice none 0 0]) ?_ 0 _ rfl;(with_reducible repeat (first|refine kN ?_ _|refine kD ?_|refine kA ?_ _));exact BK182.out) NB182_0.out (by simp));have n4_:=Aside0.mk (Kd.R_mono (Kd.R_keep (IsS71.apart (show IsS71 w0 _ g s0_0 t190 from by repeat (first|(with_reducible first|exact HI0.out|apply IsS71.alloc|apply IsS71.drewN|apply IsS71.drew|apply IsS71.set_1|refine IsS71.far ?_ NB0_176.out _|refine IsS71.far ?_ NB0_181.out _|refine IsS71.far ?_ NB0_182.out _)|exact HI0.out)) (by (with_reducible repeat (first|apply Kd.R_alloc|apply Kd.R_drewN|apply Kd.R_drew));exact (Kd.R_mono (Kd.R_far (p:=⟨gb182,2,none⟩) (Kd.R_far (p:=⟨gb182,1,none⟩) (Kd.R_far (p:=⟨gb182,0,none⟩) (Kd.R_types HO186.out BK182.out (by decide)) (fun _ hk=>hk.2) (.int .i64 t183)) (fun _ hk=>hk.2) (.slice Ao37 t184.length co37)) (fun _ hk=>hk.2) (.slice Ao38 t187.length co38)) (fun _ h_=>h_.1))) (by decide)) hk (fun _ h=>h.2)) (fun _ h=>h.1));have n5_:=Aside0.mk (Kd.R_mono (Kd.R_keep (IsS71.apart (show IsS71 w0 _ g s0_0 t190 from by repeat (first|(with_reducible first|exact HI0.out|apply IsS71.alloc|apply IsS71.drewN|apply IsS71.drew|apply IsS71.set_1|refine IsS71.far ?_ NB0_176.out _|refine IsS71.far ?_ NB0_181.out _|refine IsS71.far ?_ NB0_182.out _)|exact HI0.out)) (by (with_reducible repeat (first|apply Kd.R_alloc|apply Kd.R_drewN|apply Kd.R_drew));exact (Kd.R_mono (Kd.R_far (p:=⟨gb182,2,none⟩) (Kd.R_far (p:=⟨gb182,1,none⟩) (Kd.R_far (p:=⟨gb182,0,none⟩) (Kd.R_mono HO189.out (fun k_ hk=>(⟨hk,hk.2⟩:_∧k_ ≠ gb182))) (fun _ hk=>hk.2) (.int .i64 t183)) (fun _ hk=>hk.2) (.slice Ao37 t184.length co37)) (fun _ hk=>hk.2) (.slice Ao38 t187.length co38)) (fun _ h_=>h_.1))) (by decide)) hk (fun _ h=>h.2)) (fun _ h=>h.1));have n6_:=Aside0.mk (KeepBut.trans (by repeat (first|(with_reducible first|exact HK.out|apply KeepBut.set_|apply keep_drewN|apply keep_drew|apply keep_alloc|refine eF ?_ GW176.out _|refine eF ?_ GW181.out _|refine eF ?_ GW182.out _)|exact HK.out)) hk (.inl rfl));have n7_:=Aside0.mk (hb);have n8_:=Aside0.mk (hi);clear HO_182000;clear BK176;clear BK181;clear BK182;clear HO186;clear HO189;clear HK;clear HB;clear HI0;have HO_182000:=n0_;have BK176:=n1_;have BK181:=n2_;have BK182:=n3_;have HO186:=n4_;have HO189:=n5_;have HK:=n6_;have HB:=n7_;have HI0:=n8_;clear n0_ n1_ n2_ n3_ n4_ n5_ n6_ n7_ n8_;(try clear hb);(try clear hb2);(try clear hk);(try clear hi);have hnb40:=NB181_176.out;have hnc40:=NB176_181.out;have hnb41:=NB181_0.out;have hnc41:=NB0_181.out;have hcz42_0:w39.cell? ⟨gb181,0,none⟩=some (u182000):=(kC BK181.out 0).trans rfl;have hfz42_0:=kF BK181.out 0;have hcz43_0:w39.cell? ⟨gb182,0,none⟩=some (.int .i64 t183):=(kC BK182.out 0).trans rfl;have hcz43_1:w39.cell? ⟨gb182,1,none⟩=some (.slice Ao37 t184.length co37):=(kC BK182.out 1).trans rfl;have hcz43_2:w39.cell? ⟨gb182,2,none⟩=some (.slice Ao38 t187.length co38):=(kC BK182.out 2).trans rfl;have hfz43_0:=kF BK182.out 0;have hfz43_1:=kF BK182.out 1;have hfz43_2:=kF BK182.out 2)|((with_reducible refine gate_builtin (b:=.append) (xs:=#[.tmp 45,.tmp 48]) rfl ?_);at_builtin;refine Kd.R_append k34 w.heap.size rfl (.tmp 45) (.tmp 48) 25 34 (.agg #[(.bool false),(.int .i64 0),(.slice none 0 0),(.slice none 0 0)]) 64 rfl Try.underlying25 info34 rfl (by decide) (by omega) u182000 x182000_1 (⟨true,(⟨t183,t184,t187⟩:S32)⟩:S34) [.bool true,.int .i64 t183,.slice Ao37 t184.length co37,.slice Ao38 t187.length co38] (fun k_=>k_ ≠ gb182) (fun k_=>((fun k_=>k_ ≠ gb182)) k_∧some k_ ≠ (u182000:Value).ownBlock) rfl rfl ?aP (fun _ hk=>hk) ?aF ?aO (Below.refl _ _) ?aS ?aL ?_;(case aP=>exact k34_mkM _ _ _ (⟨true,(⟨t183,t184,t187⟩:S32)⟩:S34) (Kd.R_mono (Kd.R_types (Kd.R_apart' (HO186.out) (Kd.R_typed HO_182000.out) (by decide)) BK182.out (by decide)) (fun k_ hk=>⟨hk.2,hk.1.2⟩)) (Kd.R_mono (Kd.R_apart' (HO189.out) (Kd.R_typed HO_182000.out) (by decide)) (fun k_ hk=>⟨hk.1.2,hk.2⟩)));(case aF=>exact (fun k_ hk=>Kd.freshB (g:=gb182) (o:=.cells #[.int .i64 t183,.slice Ao37 t184.length co37,.slice Ao38 t187.length co38] 32 (0,0)) (by (with_reducible repeat (first|refine kN ?_ _|refine kD ?_|refine kA ?_ _));exact BK182.out) k_ hk));(case aO=>exact (by (with_reducible repeat (first|apply Kd.R_alloc|apply Kd.R_drewN|apply Kd.R_drew));exact Kd.R_mono HO_182000.out (fun _ hk=>hk.1.1.2)));(case aS=>exact (keep_size (w:=w) (g:=g) (row:=none) (by repeat (first|(with_reducible first|exact HK.out|apply KeepBut.set_|apply keep_drewN|apply keep_drew|apply keep_alloc|refine eF ?_ GW176.out _|refine eF ?_ GW181.out _|refine eF ?_ GW182.out _)|exact HK.out))));(case aL=>have:=LMc30.out;omega);intro v197 w44 ho hb hg hat;rw [← Ny196.out] at ho;have n0_:=Aside0.mk (blk_grown (g:=gb176) (o:=.cells #[.slice none 0 0] 27 (0,0)) (by (with_reducible repeat (first|refine kN ?_ _|refine kD ?_|refine kA ?_ _));exact BK176.out) hg (Kd.R_ne HO_182000.out BK176.out (by decide)));have n1_:=Aside0.mk (blk_grown (g:=gb181) (o:=.cells #[u182000] 27 (0,0)) (by (with_reducible repeat (first|refine kN ?_ _|refine kD ?_|refine kA ?_ _));exact BK181.out) hg (Kd.R_ne HO_182000.out BK181.out (by decide)));have n2_:=Aside0.mk (IsS71.grown (by repeat (first|(with_reducible first|exact HI0.out|apply IsS71.alloc|apply IsS71.drewN|apply IsS71.drew|apply IsS71.set_1|refine IsS71.far ?_ NB0_176.out _|refine IsS71.far ?_ NB0_181.out _|refine IsS71.far ?_ NB0_182.out _)|exact HI0.out)) hg (IsS71.own_ne HI0.out HO_182000.out (by decide)));have n3_:=Aside0.mk (blk_grown (g:=gb182) (o:=.cells #[.int .i64 t183,.slice Ao37 t184.length co37,.slice Ao38 t187.length co38] 32 (0,0)) (by (with_reducible repeat (first|refine kN ?_ _|refine kD ?_|refine kA ?_ _));exact BK182.out) hg (Kd.R_ne HO_182000.out BK182.out (by decide)));have n4_:=Aside0.mk (below_weaken (by repeat (first|(with_reducible first|exact HB.out|apply wA|apply wN|apply wD|refine wS ?_ (IsS71.ge HI0.out)|refine wS ?_ GE176.out|refine wS ?_ GE181.out|refine wS ?_ GE182.out)|exact HB.out)) HL.out hb);have n5_:=Aside0.mk (KeepBut.trans (by repeat (first|(with_reducible first|exact HK.out|apply KeepBut.set_|apply keep_drewN|apply keep_drew|apply keep_alloc|refine eF ?_ GW176.out _|refine eF ?_ GW181.out _|refine eF ?_ GW182.out _)|exact HK.out)) (KeepBut.of_grown hg g) (Kd.R_base2 HO_182000.out));have n6_:=Aside0.mk (ho);clear BK176;clear BK181;clear HI0;clear BK182;clear HB;clear HK;clear HO_182000;clear HO186;clear HO189;have BK176:=n0_;have BK181:=n1_;have HI0:=n2_;have BK182:=n3_;have HB:=n4_;have HK:=n5_;have HO198:=n6_;clear n0_ n1_ n2_ n3_ n4_ n5_ n6_;clear ho hb hg hat;obtain ⟨Ao45,co45,eo45⟩:=Kd.R_slice HO198.out;subst eo45;have hcz46_0:w44.cell? ⟨gb181,0,none⟩=some (u182000):=(kC BK181.out 0).trans rfl;have hfz46_0:=kF BK181.out 0))
       go_roundg k1
       case measure=>have:=HK1.out;omega
       case rel=>exact ⟨(wrap64 (x8_1+1)),(t192),(y196),(.slice Ao45 y196.length co45),(by first|rfl|(simp;done)|(simp [*];done)),H',⟨by have:=HK1.out;omega⟩,⟨by (with_reducible repeat (first|apply Kd.R_alloc|apply Kd.R_drewN|apply Kd.R_drew));exact Kd.R_mono (Kd.R_far (p:=⟨gb181,0,none⟩) (Kd.R_types HO198.out BK181.out (by decide)) (fun _ hk=>hk.2) (.slice Ao45 y196.length co45)) (fun _ hk=>trivial)⟩,⟨by (with_reducible repeat (first|refine kN ?_ _|refine kD ?_|refine kA ?_ _));refine blk_far ?_ NB176_181.out _;(with_reducible repeat (first|refine kN ?_ _|refine kD ?_|refine kA ?_ _));exact BK176.out⟩,⟨by (with_reducible repeat (first|refine kN ?_ _|refine kD ?_|refine kA ?_ _));refine blk_put (cs:=#[u182000]) ?_ 0 _ rfl;(with_reducible repeat (first|refine kN ?_ _|refine kD ?_|refine kA ?_ _));exact BK181.out⟩,⟨by repeat (first|(with_reducible first|exact HI0.out|apply IsS71.alloc|apply IsS71.drewN|apply IsS71.drew|apply IsS71.set_1|refine IsS71.far ?_ NB0_176.out _|refine IsS71.far ?_ NB0_181.out _|refine IsS71.far ?_ NB0_182.out _)|exact HI0.out)⟩,⟨by repeat (first|(with_reducible first|exact HK.out|apply KeepBut.set_|apply keep_drewN|apply keep_drew|apply keep_alloc|refine eF ?_ GW176.out _|refine eF ?_ GW181.out _|refine eF ?_ GW182.out _)|exact HK.out)⟩,⟨by repeat (first|(with_reducible first|exact HB.out|apply wA|apply wN|apply wD|refine wS ?_ (IsS71.ge HI0.out)|refine wS ?_ GE176.out|refine wS ?_ GE181.out|refine wS ?_ GE182.out)|exact HB.out)⟩⟩
      ·rw [if_neg c30] at H
       exact absurd H (by simp)
    ·rw [if_neg c10] at H
     have c10b0:(t179 == 0)=false:=beq_eq_false_iff_ne.mpr c10
     have c10b1:(t179 != 0)=true:=bne_iff_ne.mpr c10
     by_cases c47:t179=1
     ·rw [if_pos c47] at H
      have c47b0:(t179 == 1)=true:=beq_iff_eq.mpr c47
      have c47b1:(t179 != 1)=false:=bne_eq_false_iff_eq.mpr c47
      clear c47
      replace H:=Option.bind_eq_some_iff.mp H
      obtain ⟨⟨t199,t200,t203,t206⟩,A480,H⟩:=H
      replace H:((trustquorummake_Tape_N.f s0_0 t206 12).bind fun bt207=>(if bt207.1=11 then (if x182000_1.length < 2199023255552 then (trustquorummake_Config.l0 k1 t177 t179 (wrap64 (x8_1+1)) s0_0 bt207.2 (x182000_1++[(⟨false,(⟨0,([]:List Int),([]:List (S32))⟩:S32)⟩:S34)])) else (none)) else (if x182000_1.length < 2199023255552 then (trustquorummake_Config.l0 k1 t177 t179 (wrap64 (x8_1+1)) s0_0 bt207.2 (x182000_1++[(⟨true,(⟨t199,t200,t203⟩:S32)⟩:S34)])) else (none))))=some (r1,r2):=H
      have A48:=Aside0.mk A480
      clear A480
      replace H:=Option.bind_eq_some_iff.mp H
      obtain ⟨⟨t207,t208⟩,A490,H⟩:=H
      replace H:(if t207=11 then (if x182000_1.length < 2199023255552 then (trustquorummake_Config.l0 k1 t177 t179 (wrap64 (x8_1+1)) s0_0 t208 (x182000_1++[(⟨false,(⟨0,([]:List Int),([]:List (S32))⟩:S32)⟩:S34)])) else (none)) else (if x182000_1.length < 2199023255552 then (trustquorummake_Config.l0 k1 t177 t179 (wrap64 (x8_1+1)) s0_0 t208 (x182000_1++[(⟨true,(⟨t199,t200,t203⟩:S32)⟩:S34)])) else (none)))=some (r1,r2):=H
      have A49:=Aside0.mk A490
      clear A490
      by_cases c50:t207=11
      ·rw [if_pos c50] at H
       have c50b0:(t207 == 11)=true:=beq_iff_eq.mpr c50
       have c50b1:(t207 != 11)=false:=bne_eq_false_iff_eq.mpr c50
       clear c50
       by_cases c51:x182000_1.length < 2199023255552
       ·rw [if_pos c51] at H
        have LMc51:=Aside0.mk c51
        clear c51
        obtain ⟨y209,hy209⟩:∃ y_:List (S34),y_=(x182000_1++[(⟨false,(⟨0,([]:List Int),([]:List (S32))⟩:S32)⟩:S34)]):=⟨_,rfl⟩
        replace H:(trustquorummake_Config.l0 k1 t177 t179 (wrap64 (x8_1+1)) s0_0 t208 y209)=some (r1,r2):=by first|(rw [hy209];with_reducible exact H)|(have H2_:=(Option.bind_some _ _).symm.trans H;rw [hy209];with_reducible exact H2_)|(have H2_:=(Option.bind_some _ _).symm.trans H;with_reducible exact H2_)|with_reducible exact H|(rw [hy209];exact H)|exact H
        have Ny209:=Aside0.mk hy209
        clear hy209
        have H':=Aside0.mk H
        clear H
        go_wp2_with (first|((with_reducible refine gate_dst (N:=9) rfl ?_);refine box_event ?hg (N:=9) ?hd (cs:=#[.int .i64 0,.slice none 0 0,.slice none 0 0]) (t:=32) ?hr ?_;(case hd=>rfl);(case hg=>rfl);(case hr=>first|(go_simp;done)|(go_simp;rfl));intro gb182 hg w52 hbox hb;have n0_:=Aside0.mk (Kd.R_below (Kd.R_elderB (by (with_reducible repeat (first|apply Kd.R_alloc|apply Kd.R_drewN|apply Kd.R_drew));exact HO_182000.out) gb182 (Nat.le_of_eq hg.symm)) hb);have n1_:=Aside0.mk (blk_below (g:=gb176) (o:=.cells #[.slice none 0 0] 27 (0,0)) (by (with_reducible repeat (first|refine kN ?_ _|refine kD ?_|refine kA ?_ _));exact BK176.out) hb);have n2_:=Aside0.mk (blk_below (g:=gb181) (o:=.cells #[u182000] 27 (0,0)) (by (with_reducible repeat (first|refine kN ?_ _|refine kD ?_|refine kA ?_ _));exact BK181.out) hb);have n3_:=Aside0.mk (IsS71.below (by repeat (first|(with_reducible first|exact HI0.out|apply IsS71.alloc|apply IsS71.drewN|apply IsS71.drew|apply IsS71.set_1|refine IsS71.far ?_ NB0_176.out _|refine IsS71.far ?_ NB0_181.out _)|exact HI0.out)) hb);have n4_:=Aside0.mk (KeepBut.trans (by repeat (first|(with_reducible first|exact HK.out|apply KeepBut.set_|apply keep_drewN|apply keep_drew|apply keep_alloc|refine eF ?_ GW176.out _|refine eF ?_ GW181.out _)|exact HK.out)) (KeepBut.of_below hb g none) (.inl rfl));have n5_:=Aside0.mk (below_step (by repeat (first|(with_reducible first|exact HB.out|apply wA|apply wN|apply wD|refine wS ?_ (IsS71.ge HI0.out)|refine wS ?_ GE176.out|refine wS ?_ GE181.out)|exact HB.out)) hb);have n6_:=Aside0.mk (hbox);have n7_:=Aside0.mk ((by rw [hg];exact (keep_size (w:=w) (g:=g) (row:=none) (by repeat (first|(with_reducible first|exact HK.out|apply KeepBut.set_|apply keep_drewN|apply keep_drew|apply keep_alloc|refine eF ?_ GW176.out _|refine eF ?_ GW181.out _)|exact HK.out))):w.heap.size≤gb182));have n8_:=Aside0.mk ((Nat.le_trans HW0.out (by rw [hg];exact (keep_size (w:=w) (g:=g) (row:=none) (by repeat (first|(with_reducible first|exact HK.out|apply KeepBut.set_|apply keep_drewN|apply keep_drew|apply keep_alloc|refine eF ?_ GW176.out _|refine eF ?_ GW181.out _)|exact HK.out))):w.heap.size≤gb182):w0.heap.size≤gb182));have n9_:=Aside0.mk ((by rw [hg];exact Nat.ne_of_lt (blk_lt (g:=gb176) (o:=.cells #[.slice none 0 0] 27 (0,0)) (by (with_reducible repeat (first|refine kN ?_ _|refine kD ?_|refine kA ?_ _));exact BK176.out)):gb176 ≠ gb182));have n10_:=Aside0.mk ((by rw [hg];exact Nat.ne_of_gt (blk_lt (g:=gb176) (o:=.cells #[.slice none 0 0] 27 (0,0)) (by (with_reducible repeat (first|refine kN ?_ _|refine kD ?_|refine kA ?_ _));exact BK176.out)):gb182 ≠ gb176));have n11_:=Aside0.mk ((by rw [hg];exact Nat.ne_of_lt (blk_lt (g:=gb181) (o:=.cells #[u182000] 27 (0,0)) (by (with_reducible repeat (first|refine kN ?_ _|refine kD ?_|refine kA ?_ _));exact BK181.out)):gb181 ≠ gb182));have n12_:=Aside0.mk ((by rw [hg];exact Nat.ne_of_gt (blk_lt (g:=gb181) (o:=.cells #[u182000] 27 (0,0)) (by (with_reducible repeat (first|refine kN ?_ _|refine kD ?_|refine kA ?_ _));exact BK181.out)):gb182 ≠ gb181));have n13_:=Aside0.mk ((by rw [hg];exact Nat.ne_of_lt (IsS71.lt (show IsS71 w0 _ g s0_0 x1001_1 from by repeat (first|(with_reducible first|exact HI0.out|apply IsS71.alloc|apply IsS71.drewN|apply IsS71.drew|apply IsS71.set_1|refine IsS71.far ?_ NB0_176.out _|refine IsS71.far ?_ NB0_181.out _)|exact HI0.out))):g ≠ gb182));have n14_:=Aside0.mk ((by rw [hg];exact Nat.ne_of_gt (IsS71.lt (show IsS71 w0 _ g s0_0 x1001_1 from by repeat (first|(with_reducible first|exact HI0.out|apply IsS71.alloc|apply IsS71.drewN|apply IsS71.drew|apply IsS71.set_1|refine IsS71.far ?_ NB0_176.out _|refine IsS71.far ?_ NB0_181.out _)|exact HI0.out))):gb182 ≠ g));clear HO_182000;clear BK176;clear BK181;clear HI0;clear HK;clear HB;have HO_182000:=n0_;have BK176:=n1_;have BK181:=n2_;have HI0:=n3_;have HK:=n4_;have HB:=n5_;have BK182:=n6_;have GW182:=n7_;have GE182:=n8_;have NB176_182:=n9_;have NB182_176:=n10_;have NB181_182:=n11_;have NB182_181:=n12_;have NB0_182:=n13_;have NB182_0:=n14_;clear n0_ n1_ n2_ n3_ n4_ n5_ n6_ n7_ n8_ n9_ n10_ n11_ n12_ n13_ n14_;clear hb hbox hg)|((with_reducible refine gate_callee (f:=53) rfl ?_);refine goesL_ (some 34) rfl rfl Try.func53 (by kernel_rfl) rfl #[.pointer (some ⟨g,0,none⟩),.int .i64 t177] rfl (by (try simp only [List.map_toArray,List.map_cons,List.map_nil]);first|done|rfl|(simp only [List.length_drop,List.length_take];rfl)) ?_;(with_reducible refine (trustquorummake_most.calls k1 g s0_0 x1001_1 t177 t199 t200 t203 t206 w0 _ ?side1 ?side2 A48.out).mono ?_);(case side1=>repeat (first|(with_reducible first|exact HI0.out|apply IsS71.alloc|apply IsS71.drewN|apply IsS71.drew|apply IsS71.set_1|refine IsS71.far ?_ NB0_176.out _|refine IsS71.far ?_ NB0_181.out _|refine IsS71.far ?_ NB0_182.out _)|exact HI0.out));(case side2=>repeat (first|(with_reducible first|exact HB.out|apply wA|apply wN|apply wD|refine wS ?_ (IsS71.ge HI0.out)|refine wS ?_ GE176.out|refine wS ?_ GE181.out|refine wS ?_ GE182.out)|exact HB.out));rintro e w53 ⟨v201,v204,rfl,ho0,ho1,hi,hb,hk⟩;refine ⟨_,rfl,?_⟩;have n0_:=Aside0.mk (Kd.R_mono (Kd.R_told (Kd.R_told (Kd.R_oldK (IsS71.apart (show IsS71 w0 _ g s0_0 x1001_1 from by repeat (first|(with_reducible first|exact HI0.out|apply IsS71.alloc|apply IsS71.drewN|apply IsS71.drew|apply IsS71.set_1|refine IsS71.far ?_ NB0_176.out _|refine IsS71.far ?_ NB0_181.out _|refine IsS71.far ?_ NB0_182.out _)|exact HI0.out)) (by (with_reducible repeat (first|apply Kd.R_alloc|apply Kd.R_drewN|apply Kd.R_drew));exact HO_182000.out) (by decide)) hk) (Kd.R_base ho0)) (Kd.R_base ho1)) (fun _ h_=>h_.1));have n1_:=Aside0.mk (KeepBut.blk hk (g':=gb176) (o:=.cells #[.slice none 0 0] 27 (0,0)) (by (with_reducible repeat (first|refine kN ?_ _|refine kD ?_|refine kA ?_ _));exact BK176.out) NB176_0.out (by simp));have n2_:=Aside0.mk (KeepBut.blk hk (g':=gb181) (o:=.cells #[u182000] 27 (0,0)) (by (with_reducible repeat (first|refine kN ?_ _|refine kD ?_|refine kA ?_ _));exact BK181.out) NB181_0.out (by simp));have n3_:=Aside0.mk (KeepBut.blk hk (g':=gb182) (o:=.cells #[.int .i64 0,.slice none 0 0,.slice none 0 0] 32 (0,0)) (by (with_reducible repeat (first|refine kN ?_ _|refine kD ?_|refine kA ?_ _));exact BK182.out) NB182_0.out (by simp));have n4_:=Aside0.mk (Kd.R_lower ho0 (keep_size (w:=w) (g:=g) (row:=none) (by repeat (first|(with_reducible first|exact HK.out|apply KeepBut.set_|apply keep_drewN|apply keep_drew|apply keep_alloc|refine eF ?_ GW176.out _|refine eF ?_ GW181.out _|refine eF ?_ GW182.out _)|exact HK.out))));have n5_:=Aside0.mk (Kd.R_lower (Kd.R_newB ho1 (g:=gb182) (o:=.cells #[.int .i64 0,.slice none 0 0,.slice none 0 0] 32 (0,0)) (by (with_reducible repeat (first|refine kN ?_ _|refine kD ?_|refine kA ?_ _));exact BK182.out)) (keep_size (w:=w) (g:=g) (row:=none) (by repeat (first|(with_reducible first|exact HK.out|apply KeepBut.set_|apply keep_drewN|apply keep_drew|apply keep_alloc|refine eF ?_ GW176.out _|refine eF ?_ GW181.out _|refine eF ?_ GW182.out _)|exact HK.out))));have n6_:=Aside0.mk (KeepBut.trans (by repeat (first|(with_reducible first|exact HK.out|apply KeepBut.set_|apply keep_drewN|apply keep_drew|apply keep_alloc|refine eF ?_ GW176.out _|refine eF ?_ GW181.out _|refine eF ?_ GW182.out _)|exact HK.out)) hk (.inl rfl));have n7_:=Aside0.mk (hb);have n8_:=Aside0.mk (hi);clear HO_182000;clear BK176;clear BK181;clear BK182;clear HK;clear HB;clear HI0;have HO_182000:=n0_;have BK176:=n1_;have BK181:=n2_;have BK182:=n3_;have HO202:=n4_;have HO205:=n5_;have HK:=n6_;have HB:=n7_;have HI0:=n8_;clear n0_ n1_ n2_ n3_ n4_ n5_ n6_ n7_ n8_;(try clear hb);(try clear hb2);(try clear hk);(try clear hi);(try clear ho0);(try clear ho1);have hnb54:=NB182_176.out;have hnc54:=NB176_182.out;have hnb55:=NB182_181.out;have hnc55:=NB181_182.out;have hnb56:=NB182_0.out;have hnc56:=NB0_182.out;have hcz57_0:w53.cell? ⟨gb182,0,none⟩=some (.int .i64 0):=(kC BK182.out 0).trans rfl;have hcz57_1:w53.cell? ⟨gb182,1,none⟩=some (.slice none 0 0):=(kC BK182.out 1).trans rfl;have hcz57_2:w53.cell? ⟨gb182,2,none⟩=some (.slice none 0 0):=(kC BK182.out 2).trans rfl;have hfz57_0:=kF BK182.out 0;have hfz57_1:=kF BK182.out 1;have hfz57_2:=kF BK182.out 2;obtain ⟨Ao58,co58,eo58⟩:=Kd.R_slice HO202.out;subst eo58;obtain ⟨Ao59,co59,eo59⟩:=Kd.R_slice HO205.out;subst eo59)|((with_reducible refine gate_callee (f:=16) rfl ?_);refine goesL_ (some 36) rfl rfl Try.func16 (by kernel_rfl) rfl #[.pointer (some ⟨g,0,none⟩),.int .i64 12] rfl (by (try simp only [List.map_toArray,List.map_cons,List.map_nil]);first|done|rfl|(simp only [List.length_drop,List.length_take];rfl)) ?_;(with_reducible refine (trustquorummake_Tape_N.calls g s0_0 t206 12 t207 t208 w0 _ ?side1 ?side2 A49.out).mono ?_);(case side1=>repeat (first|(with_reducible first|exact HI0.out|apply IsS71.alloc|apply IsS71.drewN|apply IsS71.drew|apply IsS71.set_1|refine IsS71.far ?_ NB0_176.out _|refine IsS71.far ?_ NB0_181.out _|refine IsS71.far ?_ NB0_182.out _)|exact HI0.out));(case side2=>repeat (first|(with_reducible first|exact HB.out|apply wA|apply wN|apply wD|refine wS ?_ (IsS71.ge HI0.out)|refine wS ?_ GE176.out|refine wS ?_ GE181.out|refine wS ?_ GE182.out)|exact HB.out));rintro e w60 ⟨rfl,hi,hb,hk⟩;refine ⟨_,rfl,?_⟩;have n0_:=Aside0.mk (Kd.R_mono (Kd.R_keep (IsS71.apart (show IsS71 w0 _ g s0_0 t206 from by repeat (first|(with_reducible first|exact HI0.out|apply IsS71.alloc|apply IsS71.drewN|apply IsS71.drew|apply IsS71.set_1|refine IsS71.far ?_ NB0_176.out _|refine IsS71.far ?_ NB0_181.out _|refine IsS71.far ?_ NB0_182.out _)|exact HI0.out)) (by (with_reducible repeat (first|apply Kd.R_alloc|apply Kd.R_drewN|apply Kd.R_drew));exact (Kd.R_mono (Kd.R_far (p:=⟨gb182,2,none⟩) (Kd.R_far (p:=⟨gb182,1,none⟩) (Kd.R_far (p:=⟨gb182,0,none⟩) (Kd.R_mono HO_182000.out (fun k_ hk=>(⟨hk,hk.1.1.2⟩:_∧k_ ≠ gb182))) (fun _ hk=>hk.2) (.int .i64 t199)) (fun _ hk=>hk.2) (.slice Ao58 t200.length co58)) (fun _ hk=>hk.2) (.slice Ao59 t203.length co59)) (fun _ h_=>h_.1))) (by decide)) hk (fun _ h=>h.2)) (fun _ h=>h.1));have n1_:=Aside0.mk (KeepBut.blk hk (g':=gb176) (o:=.cells #[.slice none 0 0] 27 (0,0)) (by (with_reducible repeat (first|refine kN ?_ _|refine kD ?_|refine kA ?_ _));refine blk_far ?_ NB176_182.out _;(with_reducible repeat (first|refine kN ?_ _|refine kD ?_|refine kA ?_ _));refine blk_far ?_ NB176_182.out _;(with_reducible repeat (first|refine kN ?_ _|refine kD ?_|refine kA ?_ _));refine blk_far ?_ NB176_182.out _;(with_reducible repeat (first|refine kN ?_ _|refine kD ?_|refine kA ?_ _));exact BK176.out) NB176_0.out (by simp));have n2_:=Aside0.mk (KeepBut.blk hk (g':=gb181) (o:=.cells #[u182000] 27 (0,0)) (by (with_reducible repeat (first|refine kN ?_ _|refine kD ?_|refine kA ?_ _));refine blk_far ?_ NB181_182.out _;(with_reducible repeat (first|refine kN ?_ _|refine kD ?_|refine kA ?_ _));refine blk_far ?_ NB181_182.out _;(with_reducible repeat (first|refine kN ?_ _|refine kD ?_|refine kA ?_ _));refine blk_far ?_ NB181_182.out _;(with_reducible repeat (first|refine kN ?_ _|refine kD ?_|refine kA ?_ _));exact BK181.out) NB181_0.out (by simp));have n3_:=Aside0.mk (KeepBut.blk hk (g':=gb182) (o:=.cells #[.int .i64 t199,.slice Ao58 t200.length co58,.slice Ao59 t203.length co59] 32 (0,0)) (by (with_reducible repeat (first|refine kN ?_ _|refine kD ?_|refine kA ?_ _));refine blk_put (cs:=#[.int .i64 t199,.slice Ao58 t200.length co58,.slice none 0 0]) ?_ 2 _ rfl;(with_reducible repeat (first|refine kN ?_ _|refine kD ?_|refine kA ?_ _));refine blk_put (cs:=#[.int .i64 t199,.slice none 0 0,.slice none 0 0]) ?_ 1 _ rfl;(with_reducible repeat (first|refine kN ?_ _|refine kD ?_|refine kA ?_ _));refine blk_put (cs:=#[.int .i64 0,.slice none 0 0,.slice none 0 0]) ?_ 0 _ rfl;(with_reducible repeat (first|refine kN ?_ _|refine kD ?_|refine kA ?_ _));exact BK182.out) NB182_0.out (by simp));have n4_:=Aside0.mk (Kd.R_mono (Kd.R_keep (IsS71.apart (show IsS71 w0 _ g s0_0 t206 from by repeat (first|(with_reducible first|exact HI0.out|apply IsS71.alloc|apply IsS71.drewN|apply IsS71.drew|apply IsS71.set_1|refine IsS71.far ?_ NB0_176.out _|refine IsS71.far ?_ NB0_181.out _|refine IsS71.far ?_ NB0_182.out _)|exact HI0.out)) (by (with_reducible repeat (first|apply Kd.R_alloc|apply Kd.R_drewN|apply Kd.R_drew));exact (Kd.R_mono (Kd.R_far (p:=⟨gb182,2,none⟩) (Kd.R_far (p:=⟨gb182,1,none⟩) (Kd.R_far (p:=⟨gb182,0,none⟩) (Kd.R_types HO202.out BK182.out (by decide)) (fun _ hk=>hk.2) (.int .i64 t199)) (fun _ hk=>hk.2) (.slice Ao58 t200.length co58)) (fun _ hk=>hk.2) (.slice Ao59 t203.length co59)) (fun _ h_=>h_.1))) (by decide)) hk (fun _ h=>h.2)) (fun _ h=>h.1));have n5_:=Aside0.mk (Kd.R_mono (Kd.R_keep (IsS71.apart (show IsS71 w0 _ g s0_0 t206 from by repeat (first|(with_reducible first|exact HI0.out|apply IsS71.alloc|apply IsS71.drewN|apply IsS71.drew|apply IsS71.set_1|refine IsS71.far ?_ NB0_176.out _|refine IsS71.far ?_ NB0_181.out _|refine IsS71.far ?_ NB0_182.out _)|exact HI0.out)) (by (with_reducible repeat (first|apply Kd.R_alloc|apply Kd.R_drewN|apply Kd.R_drew));exact (Kd.R_mono (Kd.R_far (p:=⟨gb182,2,none⟩) (Kd.R_far (p:=⟨gb182,1,none⟩) (Kd.R_far (p:=⟨gb182,0,none⟩) (Kd.R_mono HO205.out (fun k_ hk=>(⟨hk,hk.2⟩:_∧k_ ≠ gb182))) (fun _ hk=>hk.2) (.int .i64 t199)) (fun _ hk=>hk.2) (.slice Ao58 t200.length co58)) (fun _ hk=>hk.2) (.slice Ao59 t203.length co59)) (fun _ h_=>h_.1))) (by decide)) hk (fun _ h=>h.2)) (fun _ h=>h.1));have n6_:=Aside0.mk (KeepBut.trans (by repeat (first|(with_reducible first|exact HK.out|apply KeepBut.set_|apply keep_drewN|apply keep_drew|apply keep_alloc|refine eF ?_ GW176.out _|refine eF ?_ GW181.out _|refine eF ?_ GW182.out _)|exact HK.out)) hk (.inl rfl));have n7_:=Aside0.mk (hb);have n8_:=Aside0.mk (hi);clear HO_182000;clear BK176;clear BK181;clear BK182;clear HO202;clear HO205;clear HK;clear HB;clear HI0;have HO_182000:=n0_;have BK176:=n1_;have BK181:=n2_;have BK182:=n3_;have HO202:=n4_;have HO205:=n5_;have HK:=n6_;have HB:=n7_;have HI0:=n8_;clear n0_ n1_ n2_ n3_ n4_ n5_ n6_ n7_ n8_;(try clear hb);(try clear hb2);(try clear hk);(try clear hi);have hnb61:=NB181_176.out;have hnc61:=NB176_181.out;have hnb62:=NB181_0.out;have hnc62:=NB0_181.out;have hcz63_0:w60.cell? ⟨gb181,0,none⟩=some (u182000):=(kC BK181.out 0).trans rfl;have hfz63_0:=kF BK181.out 0)|((with_reducible refine gate_builtin (b:=.append) (xs:=#[.tmp 39,.tmp 41]) rfl ?_);at_builtin;refine Kd.R_append k34 w.heap.size rfl (.tmp 39) (.tmp 41) 25 34 (.agg #[(.bool false),(.int .i64 0),(.slice none 0 0),(.slice none 0 0)]) 64 rfl Try.underlying25 info34 rfl (by decide) (by omega) u182000 x182000_1 (⟨false,(⟨0,([]:List Int),([]:List (S32))⟩:S32)⟩:S34) [.bool false,.int .i64 0,.slice none 0 0,.slice none 0 0] (fun k_=>some k_ ≠ (.slice Ao58 t200.length co58:Value).ownBlock∧some k_ ≠ (.slice Ao59 t203.length co59:Value).ownBlock∧k_ ≠ gb182) (fun k_=>((fun k_=>some k_ ≠ (.slice Ao58 t200.length co58:Value).ownBlock∧some k_ ≠ (.slice Ao59 t203.length co59:Value).ownBlock∧k_ ≠ gb182)) k_∧some k_ ≠ (u182000:Value).ownBlock) rfl rfl ?aP (fun _ hk=>hk) ?aF ?aO (Below.refl _ _) ?aS ?aL ?_;(case aP=>exact k34_mkM _ _ _ (⟨false,(⟨0,([]:List Int),([]:List (S32))⟩:S32)⟩:S34) (Kd.R_nil _ _ _ _ _) (Kd.R_nil _ _ _ _ _));(case aF=>exact (fun k_ hk=>⟨Kd.fresh' (Kd.R_lt (by (with_reducible repeat (first|apply Kd.R_alloc|apply Kd.R_drewN|apply Kd.R_drew));exact HO202.out)) k_ hk,Kd.fresh' (Kd.R_lt (by (with_reducible repeat (first|apply Kd.R_alloc|apply Kd.R_drewN|apply Kd.R_drew));exact HO205.out)) k_ hk,Kd.freshB (g:=gb182) (o:=.cells #[.int .i64 t199,.slice Ao58 t200.length co58,.slice Ao59 t203.length co59] 32 (0,0)) (by (with_reducible repeat (first|refine kN ?_ _|refine kD ?_|refine kA ?_ _));exact BK182.out) k_ hk⟩));(case aO=>exact (by (with_reducible repeat (first|apply Kd.R_alloc|apply Kd.R_drewN|apply Kd.R_drew));exact Kd.R_mono HO_182000.out (fun _ hk=>⟨hk.1.2,⟨hk.2,hk.1.1.2⟩⟩)));(case aS=>exact (keep_size (w:=w) (g:=g) (row:=none) (by repeat (first|(with_reducible first|exact HK.out|apply KeepBut.set_|apply keep_drewN|apply keep_drew|apply keep_alloc|refine eF ?_ GW176.out _|refine eF ?_ GW181.out _|refine eF ?_ GW182.out _)|exact HK.out))));(case aL=>have:=LMc51.out;omega);intro v210 w64 ho hb hg hat;rw [← Ny209.out] at ho;have n0_:=Aside0.mk (blk_grown (g:=gb176) (o:=.cells #[.slice none 0 0] 27 (0,0)) (by (with_reducible repeat (first|refine kN ?_ _|refine kD ?_|refine kA ?_ _));exact BK176.out) hg (Kd.R_ne HO_182000.out BK176.out (by decide)));have n1_:=Aside0.mk (blk_grown (g:=gb181) (o:=.cells #[u182000] 27 (0,0)) (by (with_reducible repeat (first|refine kN ?_ _|refine kD ?_|refine kA ?_ _));exact BK181.out) hg (Kd.R_ne HO_182000.out BK181.out (by decide)));have n2_:=Aside0.mk (IsS71.grown (by repeat (first|(with_reducible first|exact HI0.out|apply IsS71.alloc|apply IsS71.drewN|apply IsS71.drew|apply IsS71.set_1|refine IsS71.far ?_ NB0_176.out _|refine IsS71.far ?_ NB0_181.out _|refine IsS71.far ?_ NB0_182.out _)|exact HI0.out)) hg (IsS71.own_ne HI0.out HO_182000.out (by decide)));have n3_:=Aside0.mk (blk_grown (g:=gb182) (o:=.cells #[.int .i64 t199,.slice Ao58 t200.length co58,.slice Ao59 t203.length co59] 32 (0,0)) (by (with_reducible repeat (first|refine kN ?_ _|refine kD ?_|refine kA ?_ _));exact BK182.out) hg (Kd.R_ne HO_182000.out BK182.out (by decide)));have n4_:=Aside0.mk (Kd.R_over' (by (with_reducible repeat (first|apply Kd.R_alloc|apply Kd.R_drewN|apply Kd.R_drew));exact HO202.out) (Kd.R_typed (by (with_reducible repeat (first|apply Kd.R_alloc|apply Kd.R_drewN|apply Kd.R_drew));exact HO_182000.out)) (by decide) hg);have n5_:=Aside0.mk (Kd.R_over' (by (with_reducible repeat (first|apply Kd.R_alloc|apply Kd.R_drewN|apply Kd.R_drew));exact HO205.out) (Kd.R_typed (by (with_reducible repeat (first|apply Kd.R_alloc|apply Kd.R_drewN|apply Kd.R_drew));exact HO_182000.out)) (by decide) hg);have n6_:=Aside0.mk (below_weaken (by repeat (first|(with_reducible first|exact HB.out|apply wA|apply wN|apply wD|refine wS ?_ (IsS71.ge HI0.out)|refine wS ?_ GE176.out|refine wS ?_ GE181.out|refine wS ?_ GE182.out)|exact HB.out)) HL.out hb);have n7_:=Aside0.mk (KeepBut.trans (by repeat (first|(with_reducible first|exact HK.out|apply KeepBut.set_|apply keep_drewN|apply keep_drew|apply keep_alloc|refine eF ?_ GW176.out _|refine eF ?_ GW181.out _|refine eF ?_ GW182.out _)|exact HK.out)) (KeepBut.of_grown hg g) (Kd.R_base2 HO_182000.out));have n8_:=Aside0.mk (ho);clear BK176;clear BK181;clear HI0;clear BK182;clear HO202;clear HO205;clear HB;clear HK;clear HO_182000;have BK176:=n0_;have BK181:=n1_;have HI0:=n2_;have BK182:=n3_;have HO202:=n4_;have HO205:=n5_;have HB:=n6_;have HK:=n7_;have HO211:=n8_;clear n0_ n1_ n2_ n3_ n4_ n5_ n6_ n7_ n8_;clear ho hb hg hat;obtain ⟨Ao65,co65,eo65⟩:=Kd.R_slice HO211.out;subst eo65;have hcz66_0:w64.cell? ⟨gb181,0,none⟩=some (u182000):=(kC BK181.out 0).trans rfl;have hfz66_0:=kF BK181.out 0))
        go_roundg k1
        case measure=>have:=HK1.out;omega
        case rel=>exact ⟨(wrap64 (x8_1+1)),(t208),(y209),(.slice Ao65 y209.length co65),(by first|rfl|(simp;done)|(simp [*];done)),H',⟨by have:=HK1.out;omega⟩,⟨by (with_reducible repeat (first|apply Kd.R_alloc|apply Kd.R_drewN|apply Kd.R_drew));exact Kd.R_mono (Kd.R_far (p:=⟨gb181,0,none⟩) (Kd.R_types HO211.out BK181.out (by decide)) (fun _ hk=>hk.2) (.slice Ao65 y209.length co65)) (fun _ hk=>trivial)⟩,⟨by (with_reducible repeat (first|refine kN ?_ _|refine kD ?_|refine kA ?_ _));refine blk_far ?_ NB176_181.out _;(with_reducible repeat (first|refine kN ?_ _|refine kD ?_|refine kA ?_ _));exact BK176.out⟩,⟨by (with_reducible repeat (first|refine kN ?_ _|refine kD ?_|refine kA ?_ _));refine blk_put (cs:=#[u182000]) ?_ 0 _ rfl;(with_reducible repeat (first|refine kN ?_ _|refine kD ?_|refine kA ?_ _));exact BK181.out⟩,⟨by repeat (first|(with_reducible first|exact HI0.out|apply IsS71.alloc|apply IsS71.drewN|apply IsS71.drew|apply IsS71.set_1|refine IsS71.far ?_ NB0_176.out _|refine IsS71.far ?_ NB0_181.out _|refine IsS71.far ?_ NB0_182.out _)|exact HI0.out)⟩,⟨by repeat (first|(with_reducible first|exact HK.out|apply KeepBut.set_|apply keep_drewN|apply keep_drew|apply keep_alloc|refine eF ?_ GW176.out _|refine eF ?_ GW181.out _|refine eF ?_ GW182.out _)|exact HK.out)⟩,⟨by repeat (first|(with_reducible first|exact HB.out|apply wA|apply wN|apply wD|refine wS ?_ (IsS71.ge HI0.out)|refine wS ?_ GE176.out|refine wS ?_ GE181.out|refine wS ?_ GE182.out)|exact HB.out)⟩⟩
       ·rw [if_neg c51] at H
        exact absurd H (by simp)
      ·rw [if_neg c50] at H
       have c50b0:(t207 == 11)=false:=beq_eq_false_iff_ne.mpr c50
       have c50b1:(t207 != 11)=true:=bne_iff_ne.mpr c50
       by_cases c67:x182000_1.length < 2199023255552
       ·rw [if_pos c67] at H
        have LMc67:=Aside0.mk c67
        clear c67
        obtain ⟨y212,hy212⟩:∃ y_:List (S34),y_=(x182000_1++[(⟨true,(⟨t199,t200,t203⟩:S32)⟩:S34)]):=⟨_,rfl⟩
        replace H:(trustquorummake_Config.l0 k1 t177 t179 (wrap64 (x8_1+1)) s0_0 t208 y212)=some (r1,r2):=by first|(rw [hy212];with_reducible exact H)|(have H2_:=(Option.bind_some _ _).symm.trans H;rw [hy212];with_reducible exact H2_)|(have H2_:=(Option.bind_some _ _).symm.trans H;with_reducible exact H2_)|with_reducible exact H|(rw [hy212];exact H)|exact H
        have Ny212:=Aside0.mk hy212
        clear hy212
        have H':=Aside0.mk H
        clear H
        go_wp2_with (first|((with_reducible refine gate_dst (N:=9) rfl ?_);refine box_event ?hg (N:=9) ?hd (cs:=#[.int .i64 0,.slice none 0 0,.slice none 0 0]) (t:=32) ?hr ?_;(case hd=>rfl);(case hg=>rfl);(case hr=>first|(go_simp;done)|(go_simp;rfl));intro gb182 hg w68 hbox hb;have n0_:=Aside0.mk (Kd.R_below (Kd.R_elderB (by (with_reducible repeat (first|apply Kd.R_alloc|apply Kd.R_drewN|apply Kd.R_drew));exact HO_182000.out) gb182 (Nat.le_of_eq hg.symm)) hb);have n1_:=Aside0.mk (blk_below (g:=gb176) (o:=.cells #[.slice none 0 0] 27 (0,0)) (by (with_reducible repeat (first|refine kN ?_ _|refine kD ?_|refine kA ?_ _));exact BK176.out) hb);have n2_:=Aside0.mk (blk_below (g:=gb181) (o:=.cells #[u182000] 27 (0,0)) (by (with_reducible repeat (first|refine kN ?_ _|refine kD ?_|refine kA ?_ _));exact BK181.out) hb);have n3_:=Aside0.mk (IsS71.below (by repeat (first|(with_reducible first|exact HI0.out|apply IsS71.alloc|apply IsS71.drewN|apply IsS71.drew|apply IsS71.set_1|refine IsS71.far ?_ NB0_176.out _|refine IsS71.far ?_ NB0_181.out _)|exact HI0.out)) hb);have n4_:=Aside0.mk (KeepBut.trans (by repeat (first|(with_reducible first|exact HK.out|apply KeepBut.set_|apply keep_drewN|apply keep_drew|apply keep_alloc|refine eF ?_ GW176.out _|refine eF ?_ GW181.out _)|exact HK.out)) (KeepBut.of_below hb g none) (.inl rfl));have n5_:=Aside0.mk (below_step (by repeat (first|(with_reducible first|exact HB.out|apply wA|apply wN|apply wD|refine wS ?_ (IsS71.ge HI0.out)|refine wS ?_ GE176.out|refine wS ?_ GE181.out)|exact HB.out)) hb);have n6_:=Aside0.mk (hbox);have n7_:=Aside0.mk ((by rw [hg];exact (keep_size (w:=w) (g:=g) (row:=none) (by repeat (first|(with_reducible first|exact HK.out|apply KeepBut.set_|apply keep_drewN|apply keep_drew|apply keep_alloc|refine eF ?_ GW176.out _|refine eF ?_ GW181.out _)|exact HK.out))):w.heap.size≤gb182));have n8_:=Aside0.mk ((Nat.le_trans HW0.out (by rw [hg];exact (keep_size (w:=w) (g:=g) (row:=none) (by repeat (first|(with_reducible first|exact HK.out|apply KeepBut.set_|apply keep_drewN|apply keep_drew|apply keep_alloc|refine eF ?_ GW176.out _|refine eF ?_ GW181.out _)|exact HK.out))):w.heap.size≤gb182):w0.heap.size≤gb182));have n9_:=Aside0.mk ((by rw [hg];exact Nat.ne_of_lt (blk_lt (g:=gb176) (o:=.cells #[.slice none 0 0] 27 (0,0)) (by (with_reducible repeat (first|refine kN ?_ _|refine kD ?_|refine kA ?_ _));exact BK176.out)):gb176 ≠ gb182));have n10_:=Aside0.mk ((by rw [hg];exact Nat.ne_of_gt (blk_lt (g:=gb176) (o:=.cells #[.slice none 0 0] 27 (0,0)) (by (with_reducible repeat (first|refine kN ?_ _|refine kD ?_|refine kA ?_ _));exact BK176.out)):gb182 ≠ gb176));have n11_:=Aside0.mk ((by rw [hg];exact Nat.ne_of_lt (blk_lt (g:=gb181) (o:=.cells #[u182000] 27 (0,0)) (by (with_reducible repeat (first|refine kN ?_ _|refine kD ?_|refine kA ?_ _));exact BK181.out)):gb181 ≠ gb182));have n12_:=Aside0.mk ((by rw [hg];exact Nat.ne_of_gt (blk_lt (g:=gb181) (o:=.cells #[u182000] 27 (0,0)) (by (with_reducible repeat (first|refine kN ?_ _|refine kD ?_|refine kA ?_ _));exact BK181.out)):gb182 ≠ gb181));have n13_:=Aside0.mk ((by rw [hg];exact Nat.ne_of_lt (IsS71.lt (show IsS71 w0 _ g s0_0 x1001_1 from by repeat (first|(with_reducible first|exact HI0.out|apply IsS71.alloc|apply IsS71.drewN|apply IsS71.drew|apply IsS71.set_1|refine IsS71.far ?_ NB0_176.out _|refine IsS71.far ?_ NB0_181.out _)|exact HI0.out))):g ≠ gb182));have n14_:=Aside0.mk ((by rw [hg];exact Nat.ne_of_gt (IsS71.lt (show IsS71 w0 _ g s0_0 x1001_1 from by repeat (first|(with_reducible first|exact HI0.out|apply IsS71.alloc|apply IsS71.drewN|apply IsS71.drew|apply IsS71.set_1|refine IsS71.far ?_ NB0_176.out _|refine IsS71.far ?_ NB0_181.out _)|exact HI0.out))):gb182 ≠ g));clear HO_182000;clear BK176;clear BK181;clear HI0;clear HK;clear HB;have HO_182000:=n0_;have BK176:=n1_;have BK181:=n2_;have HI0:=n3_;have HK:=n4_;have HB:=n5_;have BK182:=n6_;have GW182:=n7_;have GE182:=n8_;have NB176_182:=n9_;have NB182_176:=n10_;have NB181_182:=n11_;have NB182_181:=n12_;have NB0_182:=n13_;have NB182_0:=n14_;clear n0_ n1_ n2_ n3_ n4_ n5_ n6_ n7_ n8_ n9_ n10_ n11_ n12_ n13_ n14_;clear hb hbox hg)|((with_reducible refine gate_callee (f:=53) rfl ?_);refine goesL_ (some 34) rfl rfl Try.func53 (by kernel_rfl) rfl #[.pointer (some ⟨g,0,none⟩),.int .i64 t177] rfl (by (try simp only [List.map_toArray,List.map_cons,List.map_nil]);first|done|rfl|(simp only [List.length_drop,List.length_take];rfl)) ?_;(with_reducible refine (trustquorummake_most.calls k1 g s0_0 x1001_1 t177 t199 t200 t203 t206 w0 _ ?side1 ?side2 A48.out).mono ?_);(case side1=>repeat (first|(with_reducible first|exact HI0.out|apply IsS71.alloc|apply IsS71.drewN|apply IsS71.drew|apply IsS71.set_1|refine IsS71.far ?_ NB0_176.out _|refine IsS71.far ?_ NB0_181.out _|refine IsS71.far ?_ NB0_182.out _)|exact HI0.out));(case side2=>repeat (first|(with_reducible first|exact HB.out|apply wA|apply wN|apply wD|refine wS ?_ (IsS71.ge HI0.out)|refine wS ?_ GE176.out|refine wS ?_ GE181.out|refine wS ?_ GE182.out)|exact HB.out));rintro e w69 ⟨v201,v204,rfl,ho0,ho1,hi,hb,hk⟩;refine ⟨_,rfl,?_⟩;have n0_:=Aside0.mk (Kd.R_mono (Kd.R_told (Kd.R_told (Kd.R_oldK (IsS71.apart (show IsS71 w0 _ g s0_0 x1001_1 from by repeat (first|(with_reducible first|exact HI0.out|apply IsS71.alloc|apply IsS71.drewN|apply IsS71.drew|apply IsS71.set_1|refine IsS71.far ?_ NB0_176.out _|refine IsS71.far ?_ NB0_181.out _|refine IsS71.far ?_ NB0_182.out _)|exact HI0.out)) (by (with_reducible repeat (first|apply Kd.R_alloc|apply Kd.R_drewN|apply Kd.R_drew));exact HO_182000.out) (by decide)) hk) (Kd.R_base ho0)) (Kd.R_base ho1)) (fun _ h_=>h_.1));have n1_:=Aside0.mk (KeepBut.blk hk (g':=gb176) (o:=.cells #[.slice none 0 0] 27 (0,0)) (by (with_reducible repeat (first|refine kN ?_ _|refine kD ?_|refine kA ?_ _));exact BK176.out) NB176_0.out (by simp));have n2_:=Aside0.mk (KeepBut.blk hk (g':=gb181) (o:=.cells #[u182000] 27 (0,0)) (by (with_reducible repeat (first|refine kN ?_ _|refine kD ?_|refine kA ?_ _));exact BK181.out) NB181_0.out (by simp));have n3_:=Aside0.mk (KeepBut.blk hk (g':=gb182) (o:=.cells #[.int .i64 0,.slice none 0 0,.slice none 0 0] 32 (0,0)) (by (with_reducible repeat (first|refine kN ?_ _|refine kD ?_|refine kA ?_ _));exact BK182.out) NB182_0.out (by simp));have n4_:=Aside0.mk (Kd.R_lower ho0 (keep_size (w:=w) (g:=g) (row:=none) (by repeat (first|(with_reducible first|exact HK.out|apply KeepBut.set_|apply keep_drewN|apply keep_drew|apply keep_alloc|refine eF ?_ GW176.out _|refine eF ?_ GW181.out _|refine eF ?_ GW182.out _)|exact HK.out))));have n5_:=Aside0.mk (Kd.R_lower (Kd.R_newB ho1 (g:=gb182) (o:=.cells #[.int .i64 0,.slice none 0 0,.slice none 0 0] 32 (0,0)) (by (with_reducible repeat (first|refine kN ?_ _|refine kD ?_|refine kA ?_ _));exact BK182.out)) (keep_size (w:=w) (g:=g) (row:=none) (by repeat (first|(with_reducible first|exact HK.out|apply KeepBut.set_|apply keep_drewN|apply keep_drew|apply keep_alloc|refine eF ?_ GW176.out _|refine eF ?_ GW181.out _|refine eF ?_ GW182.out _)|exact HK.out))));have n6_:=Aside0.mk (KeepBut.trans (by repeat (first|(with_reducible first|exact HK.out|apply KeepBut.set_|apply keep_drewN|apply keep_drew|apply keep_alloc|refine eF ?_ GW176.out _|refine eF ?_ GW181.out _|refine eF ?_ GW182.out _)|exact HK.out)) hk (.inl rfl));have n7_:=Aside0.mk (hb);have n8_:=Aside0.mk (hi);clear HO_182000;clear BK176;clear BK181;clear BK182;clear HK;clear HB;clear HI0;have HO_182000:=n0_;have BK176:=n1_;have BK181:=n2_;have BK182:=n3_;have HO202:=n4_;have HO205:=n5_;have HK:=n6_;have HB:=n7_;have HI0:=n8_;clear n0_ n1_ n2_ n3_ n4_ n5_ n6_ n7_ n8_;(try clear hb);(try clear hb2);(try clear hk);(try clear hi);(try clear ho0);(try clear ho1);have hnb70:=NB182_176.out;have hnc70:=NB176_182.out;have hnb71:=NB182_181.out;have hnc71:=NB181_182.out;have hnb72:=NB182_0.out;have hnc72:=NB0_182.out;have hcz73_0:w69.cell? ⟨gb182,0,none⟩=some (.int .i64 0):=(kC BK182.out 0).trans rfl;have hcz73_1:w69.cell? ⟨gb182,1,none⟩=some (.slice none 0 0):=(kC BK182.out 1).trans rfl;have hcz73_2:w69.cell? ⟨gb182,2,none⟩=some (.slice none 0 0):=(kC BK182.out 2).trans rfl;have hfz73_0:=kF BK182.out 0;have hfz73_1:=kF BK182.out 1;have hfz73_2:=kF BK182.out 2;obtain ⟨Ao74,co74,eo74⟩:=Kd.R_slice HO202.out;subst eo74;obtain ⟨Ao75,co75,eo75⟩:=Kd.R_slice HO205.out;subst eo75)|((with_reducible refine gate_callee (f:=16) rfl ?_);refine goesL_ (some 36) rfl rfl Try.func16 (by kernel_rfl) rfl #[.pointer (some ⟨g,0,none⟩),.int .i64 12] rfl (by (try simp only [List.map_toArray,List.map_cons,List.map_nil]);first|done|rfl|(simp only [List.length_drop,List.length_take];rfl)) ?_;(with_reducible refine (trustquorummake_Tape_N.calls g s0_0 t206 12 t207 t208 w0 _ ?side1 ?side2 A49.out).mono ?_);(case side1=>repeat (first|(with_reducible first|exact HI0.out|apply IsS71.alloc|apply IsS71.drewN|apply IsS71.drew|apply IsS71.set_1|refine IsS71.far ?_ NB0_176.out _|refine IsS71.far ?_ NB0_181.out _|refine IsS71.far ?_ NB0_182.out _)|exact HI0.out));(case side2=>repeat (first|(with_reducible first|exact HB.out|apply wA|apply wN|apply wD|refine wS ?_ (IsS71.ge HI0.out)|refine wS ?_ GE176.out|refine wS ?_ GE181.out|refine wS ?_ GE182.out)|exact HB.out));rintro e w76 ⟨rfl,hi,hb,hk⟩;refine ⟨_,rfl,?_⟩;have n0_:=Aside0.mk (Kd.R_mono (Kd.R_keep (IsS71.apart (show IsS71 w0 _ g s0_0 t206 from by repeat (first|(with_reducible first|exact HI0.out|apply IsS71.alloc|apply IsS71.drewN|apply IsS71.drew|apply IsS71.set_1|refine IsS71.far ?_ NB0_176.out _|refine IsS71.far ?_ NB0_181.out _|refine IsS71.far ?_ NB0_182.out _)|exact HI0.out)) (by (with_reducible repeat (first|apply Kd.R_alloc|apply Kd.R_drewN|apply Kd.R_drew));exact (Kd.R_mono (Kd.R_far (p:=⟨gb182,2,none⟩) (Kd.R_far (p:=⟨gb182,1,none⟩) (Kd.R_far (p:=⟨gb182,0,none⟩) (Kd.R_mono HO_182000.out (fun k_ hk=>(⟨hk,hk.1.1.2⟩:_∧k_ ≠ gb182))) (fun _ hk=>hk.2) (.int .i64 t199)) (fun _ hk=>hk.2) (.slice Ao74 t200.length co74)) (fun _ hk=>hk.2) (.slice Ao75 t203.length co75)) (fun _ h_=>h_.1))) (by decide)) hk (fun _ h=>h.2)) (fun _ h=>h.1));have n1_:=Aside0.mk (KeepBut.blk hk (g':=gb176) (o:=.cells #[.slice none 0 0] 27 (0,0)) (by (with_reducible repeat (first|refine kN ?_ _|refine kD ?_|refine kA ?_ _));refine blk_far ?_ NB176_182.out _;(with_reducible repeat (first|refine kN ?_ _|refine kD ?_|refine kA ?_ _));refine blk_far ?_ NB176_182.out _;(with_reducible repeat (first|refine kN ?_ _|refine kD ?_|refine kA ?_ _));refine blk_far ?_ NB176_182.out _;(with_reducible repeat (first|refine kN ?_ _|refine kD ?_|refine kA ?_ _));exact BK176.out) NB176_0.out (by simp));have n2_:=Aside0.mk (KeepBut.blk hk (g':=gb181) (o:=.cells #[u182000] 27 (0,0)) (by (with_reducible repeat (first|refine kN ?_ _|refine kD ?_|refine kA ?_ _));refine blk_far ?_ NB181_182.out _;(with_reducible repeat (first|refine kN ?_ _|refine kD ?_|refine kA ?_ _));refine blk_far ?_ NB181_182.out _;(with_reducible repeat (first|refine kN ?_ _|refine kD ?_|refine kA ?_ _));refine blk_far ?_ NB181_182.out _;(with_reducible repeat (first|refine kN ?_ _|refine kD ?_|refine kA ?_ _));exact BK181.out) NB181_0.out (by simp));have n3_:=Aside0.mk (KeepBut.blk hk (g':=gb182) (o:=.cells #[.int .i64 t199,.slice Ao74 t200.length co74,.slice Ao75 t203.length co75] 32 (0,0)) (by (with_reducible repeat (first|refine kN ?_ _|refine kD ?_|refine kA ?_ _));refine blk_put (cs:=#[.int .i64 t199,.slice Ao74 t200.length co74,.slice none 0 0]) ?_ 2 _ rfl;(with_reducible repeat (first|refine kN ?_ _|refine kD ?_|refine kA ?_ _));refine blk_put (cs:=#[.int .i64 t199,.slice none 0 0,.slice none 0 0]) ?_ 1 _ rfl;(with_reducible repeat (first|refine kN ?_ _|refine kD ?_|refine kA ?_ _));refine blk_put (cs:=#[.int .i64 0,.slice none 0 0,.slice none 0 0]) ?_ 0 _ rfl;(with_reducible repeat (first|refine kN ?_ _|refine kD ?_|refine kA ?_ _));exact BK182.out) NB182_0.out (by simp));have n4_:=Aside0.mk (Kd.R_mono (Kd.R_keep (IsS71.apart (show IsS71 w0 _ g s0_0 t206 from by repeat (first|(with_reducible first|exact HI0.out|apply IsS71.alloc|apply IsS71.drewN|apply IsS71.drew|apply IsS71.set_1|refine IsS71.far ?_ NB0_176.out _|refine IsS71.far ?_ NB0_181.out _|refine IsS71.far ?_ NB0_182.out _)|exact HI0.out)) (by (with_reducible repeat (first|apply Kd.R_alloc|apply Kd.R_drewN|apply Kd.R_drew));exact (Kd.R_mono (Kd.R_far (p:=⟨gb182,2,none⟩) (Kd.R_far (p:=⟨gb182,1,none⟩) (Kd.R_far (p:=⟨gb182,0,none⟩) (Kd.R_types HO202.out BK182.out (by decide)) (fun _ hk=>hk.2) (.int .i64 t199)) (fun _ hk=>hk.2) (.slice Ao74 t200.length co74)) (fun _ hk=>hk.2) (.slice Ao75 t203.length co75)) (fun _ h_=>h_.1))) (by decide)) hk (fun _ h=>h.2)) (fun _ h=>h.1));have n5_:=Aside0.mk (Kd.R_mono (Kd.R_keep (IsS71.apart (show IsS71 w0 _ g s0_0 t206 from by repeat (first|(with_reducible first|exact HI0.out|apply IsS71.alloc|apply IsS71.drewN|apply IsS71.drew|apply IsS71.set_1|refine IsS71.far ?_ NB0_176.out _|refine IsS71.far ?_ NB0_181.out _|refine IsS71.far ?_ NB0_182.out _)|exact HI0.out)) (by (with_reducible repeat (first|apply Kd.R_alloc|apply Kd.R_drewN|apply Kd.R_drew));exact (Kd.R_mono (Kd.R_far (p:=⟨gb182,2,none⟩) (Kd.R_far (p:=⟨gb182,1,none⟩) (Kd.R_far (p:=⟨gb182,0,none⟩) (Kd.R_mono HO205.out (fun k_ hk=>(⟨hk,hk.2⟩:_∧k_ ≠ gb182))) (fun _ hk=>hk.2) (.int .i64 t199)) (fun _ hk=>hk.2) (.slice Ao74 t200.length co74)) (fun _ hk=>hk.2) (.slice Ao75 t203.length co75)) (fun _ h_=>h_.1))) (by decide)) hk (fun _ h=>h.2)) (fun _ h=>h.1));have n6_:=Aside0.mk (KeepBut.trans (by repeat (first|(with_reducible first|exact HK.out|apply KeepBut.set_|apply keep_drewN|apply keep_drew|apply keep_alloc|refine eF ?_ GW176.out _|refine eF ?_ GW181.out _|refine eF ?_ GW182.out _)|exact HK.out)) hk (.inl rfl));have n7_:=Aside0.mk (hb);have n8_:=Aside0.mk (hi);clear HO_182000;clear BK176;clear BK181;clear BK182;clear HO202;clear HO205;clear HK;clear HB;clear HI0;have HO_182000:=n0_;have BK176:=n1_;have BK181:=n2_;have BK182:=n3_;have HO202:=n4_;have HO205:=n5_;have HK:=n6_;have HB:=n7_;have HI0:=n8_;clear n0_ n1_ n2_ n3_ n4_ n5_ n6_ n7_ n8_;(try clear hb);(try clear hb2);(try clear hk);(try clear hi);have hnb77:=NB181_176.out;have hnc77:=NB176_181.out;have hnb78:=NB181_0.out;have hnc78:=NB0_181.out;have hcz79_0:w76.cell? ⟨gb181,0,none⟩=some (u182000):=(kC BK181.out 0).trans rfl;have hfz79_0:=kF BK181.out 0;have hcz80_0:w76.cell? ⟨gb182,0,none⟩=some (.int .i64 t199):=(kC BK182.out 0).trans rfl;have hcz80_1:w76.cell? ⟨gb182,1,none⟩=some (.slice Ao74 t200.length co74):=(kC BK182.out 1).trans rfl;have hcz80_2:w76.cell? ⟨gb182,2,none⟩=some (.slice Ao75 t203.length co75):=(kC BK182.out 2).trans rfl;have hfz80_0:=kF BK182.out 0;have hfz80_1:=kF BK182.out 1;have hfz80_2:=kF BK182.out 2)|((with_reducible refine gate_builtin (b:=.append) (xs:=#[.tmp 45,.tmp 48]) rfl ?_);at_builtin;refine Kd.R_append k34 w.heap.size rfl (.tmp 45) (.tmp 48) 25 34 (.agg #[(.bool false),(.int .i64 0),(.slice none 0 0),(.slice none 0 0)]) 64 rfl Try.underlying25 info34 rfl (by decide) (by omega) u182000 x182000_1 (⟨true,(⟨t199,t200,t203⟩:S32)⟩:S34) [.bool true,.int .i64 t199,.slice Ao74 t200.length co74,.slice Ao75 t203.length co75] (fun k_=>k_ ≠ gb182) (fun k_=>((fun k_=>k_ ≠ gb182)) k_∧some k_ ≠ (u182000:Value).ownBlock) rfl rfl ?aP (fun _ hk=>hk) ?aF ?aO (Below.refl _ _) ?aS ?aL ?_;(case aP=>exact k34_mkM _ _ _ (⟨true,(⟨t199,t200,t203⟩:S32)⟩:S34) (Kd.R_mono (Kd.R_types (Kd.R_apart' (HO202.out) (Kd.R_typed HO_182000.out) (by decide)) BK182.out (by decide)) (fun k_ hk=>⟨hk.2,hk.1.2⟩)) (Kd.R_mono (Kd.R_apart' (HO205.out) (Kd.R_typed HO_182000.out) (by decide)) (fun k_ hk=>⟨hk.1.2,hk.2⟩)));(case aF=>exact (fun k_ hk=>Kd.freshB (g:=gb182) (o:=.cells #[.int .i64 t199,.slice Ao74 t200.length co74,.slice Ao75 t203.length co75] 32 (0,0)) (by (with_reducible repeat (first|refine kN ?_ _|refine kD ?_|refine kA ?_ _));exact BK182.out) k_ hk));(case aO=>exact (by (with_reducible repeat (first|apply Kd.R_alloc|apply Kd.R_drewN|apply Kd.R_drew));exact Kd.R_mono HO_182000.out (fun _ hk=>hk.1.1.2)));(case aS=>exact (keep_size (w:=w) (g:=g) (row:=none) (by repeat (first|(with_reducible first|exact HK.out|apply KeepBut.set_|apply keep_drewN|apply keep_drew|apply keep_alloc|refine eF ?_ GW176.out _|refine eF ?_ GW181.out _|refine eF ?_ GW182.out _)|exact HK.out))));(case aL=>have:=LMc67.out;omega);intro v213 w81 ho hb hg hat;rw [← Ny212.out] at ho;have n0_:=Aside0.mk (blk_grown (g:=gb176) (o:=.cells #[.slice none 0 0] 27 (0,0)) (by (with_reducible repeat (first|refine kN ?_ _|refine kD ?_|refine kA ?_ _));exact BK176.out) hg (Kd.R_ne HO_182000.out BK176.out (by decide)));have n1_:=Aside0.mk (blk_grown (g:=gb181) (o:=.cells #[u182000] 27 (0,0)) (by (with_reducible repeat (first|refine kN ?_ _|refine kD ?_|refine kA ?_ _));exact BK181.out) hg (Kd.R_ne HO_182000.out BK181.out (by decide)));have n2_:=Aside0.mk (IsS71.grown (by repeat (first|(with_reducible first|exact HI0.out|apply IsS71.alloc|apply IsS71.drewN|apply IsS71.drew|apply IsS71.set_1|refine IsS71.far ?_ NB0_176.out _|refine IsS71.far ?_ NB0_181.out _|refine IsS71.far ?_ NB0_182.out _)|exact HI0.out)) hg (IsS71.own_ne HI0.out HO_182000.out (by decide)));have n3_:=Aside0.mk (blk_grown (g:=gb182) (o:=.cells #[.int .i64 t199,.slice Ao74 t200.length co74,.slice Ao75 t203.length co75] 32 (0,0)) (by (with_reducible repeat (first|refine kN ?_ _|refine kD ?_|refine kA ?_ _));exact BK182.out) hg (Kd.R_ne HO_182000.out BK182.out (by decide)));have n4_:=Aside0.mk (below_weaken (by repeat (first|(with_reducible first|exact HB.out|apply wA|apply wN|apply wD|refine wS ?_ (IsS71.ge HI0.out)|refine wS ?_ GE176.out|refine wS ?_ GE181.out|refine wS ?_ GE182.out)|exact HB.out)) HL.out hb);have n5_:=Aside0.mk (KeepBut.trans (by repeat (first|(with_reducible first|exact HK.out|apply KeepBut.set_|apply keep_drewN|apply keep_drew|apply keep_alloc|refine eF ?_ GW176.out _|refine eF ?_ GW181.out _|refine eF ?_ GW182.out _)|exact HK.out)) (KeepBut.of_grown hg g) (Kd.R_base2 HO_182000.out));have n6_:=Aside0.mk (ho);clear BK176;clear BK181;clear HI0;clear BK182;clear HB;clear HK;clear HO_182000;clear HO202;clear HO205;have BK176:=n0_;have BK181:=n1_;have HI0:=n2_;have BK182:=n3_;have HB:=n4_;have HK:=n5_;have HO214:=n6_;clear n0_ n1_ n2_ n3_ n4_ n5_ n6_;clear ho hb hg hat;obtain ⟨Ao82,co82,eo82⟩:=Kd.R_slice HO214.out;subst eo82;have hcz83_0:w81.cell? ⟨gb181,0,none⟩=some (u182000):=(kC BK181.out 0).trans rfl;have hfz83_0:=kF BK181.out 0))
        go_roundg k1
        case measure=>have:=HK1.out;omega
        case rel=>exact ⟨(wrap64 (x8_1+1)),(t208),(y212),(.slice Ao82 y212.length co82),(by first|rfl|(simp;done)|(simp [*];done)),H',⟨by have:=HK1.out;omega⟩,⟨by (with_reducible repeat (first|apply Kd.R_alloc|apply Kd.R_drewN|apply Kd.R_drew));exact Kd.R_mono (Kd.R_far (p:=⟨gb181,0,none⟩) (Kd.R_types HO214.out BK181.out (by decide)) (fun _ hk=>hk.2) (.slice Ao82 y212.length co82)) (fun _ hk=>trivial)⟩,⟨by (with_reducible repeat (first|refine kN ?_ _|refine kD ?_|refine kA ?_ _));refine blk_far ?_ NB176_181.out _;(with_reducible repeat (first|refine kN ?_ _|refine kD ?_|refine kA ?_ _));exact BK176.out⟩,⟨by (with_reducible repeat (first|refine kN ?_ _|refine kD ?_|refine kA ?_ _));refine blk_put (cs:=#[u182000]) ?_ 0 _ rfl;(with_reducible repeat (first|refine kN ?_ _|refine kD ?_|refine kA ?_ _));exact BK181.out⟩,⟨by repeat (first|(with_reducible first|exact HI0.out|apply IsS71.alloc|apply IsS71.drewN|apply IsS71.drew|apply IsS71.set_1|refine IsS71.far ?_ NB0_176.out _|refine IsS71.far ?_ NB0_181.out _|refine IsS71.far ?_ NB0_182.out _)|exact HI0.out)⟩,⟨by repeat (first|(with_reducible first|exact HK.out|apply KeepBut.set_|apply keep_drewN|apply keep_drew|apply keep_alloc|refine eF ?_ GW176.out _|refine eF ?_ GW181.out _|refine eF ?_ GW182.out _)|exact HK.out)⟩,⟨by repeat (first|(with_reducible first|exact HB.out|apply wA|apply wN|apply wD|refine wS ?_ (IsS71.ge HI0.out)|refine wS ?_ GE176.out|refine wS ?_ GE181.out|refine wS ?_ GE182.out)|exact HB.out)⟩⟩
       ·rw [if_neg c67] at H
        exact absurd H (by simp)
     ·rw [if_neg c47] at H
      have c47b0:(t179 == 1)=false:=beq_eq_false_iff_ne.mpr c47
      have c47b1:(t179 != 1)=true:=bne_iff_ne.mpr c47
      replace H:=Option.bind_eq_some_iff.mp H
      obtain ⟨⟨t215,t216,t219,t222⟩,A840,H⟩:=H
      replace H:((trustquorummake_Tape_N.f s0_0 t222 12).bind fun bt223=>(if bt223.1=11 then (if x182000_1.length < 2199023255552 then (trustquorummake_Config.l0 k1 t177 t179 (wrap64 (x8_1+1)) s0_0 bt223.2 (x182000_1++[(⟨false,(⟨0,([]:List Int),([]:List (S32))⟩:S32)⟩:S34)])) else (none)) else (if x182000_1.length < 2199023255552 then (trustquorummake_Config.l0 k1 t177 t179 (wrap64 (x8_1+1)) s0_0 bt223.2 (x182000_1++[(⟨true,(⟨t215,t216,t219⟩:S32)⟩:S34)])) else (none))))=some (r1,r2):=H
      have A84:=Aside0.mk A840
      clear A840
      replace H:=Option.bind_eq_some_iff.mp H
      obtain ⟨⟨t223,t224⟩,A850,H⟩:=H
      replace H:(if t223=11 then (if x182000_1.length < 2199023255552 then (trustquorummake_Config.l0 k1 t177 t179 (wrap64 (x8_1+1)) s0_0 t224 (x182000_1++[(⟨false,(⟨0,([]:List Int),([]:List (S32))⟩:S32)⟩:S34)])) else (none)) else (if x182000_1.length < 2199023255552 then (trustquorummake_Config.l0 k1 t177 t179 (wrap64 (x8_1+1)) s0_0 t224 (x182000_1++[(⟨true,(⟨t215,t216,t219⟩:S32)⟩:S34)])) else (none)))=some (r1,r2):=H
      have A85:=Aside0.mk A850
      clear A850
      by_cases c86:t223=11
      ·rw [if_pos c86] at H
       have c86b0:(t223 == 11)=true:=beq_iff_eq.mpr c86
       have c86b1:(t223 != 11)=false:=bne_eq_false_iff_eq.mpr c86
       clear c86
       by_cases c87:x182000_1.length < 2199023255552
       ·rw [if_pos c87] at H
        have LMc87:=Aside0.mk c87
        clear c87
        obtain ⟨y225,hy225⟩:∃ y_:List (S34),y_=(x182000_1++[(⟨false,(⟨0,([]:List Int),([]:List (S32))⟩:S32)⟩:S34)]):=⟨_,rfl⟩
        replace H:(trustquorummake_Config.l0 k1 t177 t179 (wrap64 (x8_1+1)) s0_0 t224 y225)=some (r1,r2):=by first|(rw [hy225];with_reducible exact H)|(have H2_:=(Option.bind_some _ _).symm.trans H;rw [hy225];with_reducible exact H2_)|(have H2_:=(Option.bind_some _ _).symm.trans H;with_reducible exact H2_)|with_reducible exact H|(rw [hy225];exact H)|exact H
        have Ny225:=Aside0.mk hy225
        clear hy225
        have H':=Aside0.mk H
        clear H
        go_wp2_with (first|((with_reducible refine gate_dst (N:=9) rfl ?_);refine box_event ?hg (N:=9) ?hd (cs:=#[.int .i64 0,.slice none 0 0,.slice none 0 0]) (t:=32) ?hr ?_;(case hd=>rfl);(case hg=>rfl);(case hr=>first|(go_simp;done)|(go_simp;rfl));intro gb182 hg w88 hbox hb;have n0_:=Aside0.mk (Kd.R_below (Kd.R_elderB (by (with_reducible repeat (first|apply Kd.R_alloc|apply Kd.R_drewN|apply Kd.R_drew));exact HO_182000.out) gb182 (Nat.le_of_eq hg.symm)) hb);have n1_:=Aside0.mk (blk_below (g:=gb176) (o:=.cells #[.slice none 0 0] 27 (0,0)) (by (with_reducible repeat (first|refine kN ?_ _|refine kD ?_|refine kA ?_ _));exact BK176.out) hb);have n2_:=Aside0.mk (blk_below (g:=gb181) (o:=.cells #[u182000] 27 (0,0)) (by (with_reducible repeat (first|refine kN ?_ _|refine kD ?_|refine kA ?_ _));exact BK181.out) hb);have n3_:=Aside0.mk (IsS71.below (by repeat (first|(with_reducible first|exact HI0.out|apply IsS71.alloc|apply IsS71.drewN|apply IsS71.drew|apply IsS71.set_1|refine IsS71.far ?_ NB0_176.out _|refine IsS71.far ?_ NB0_181.out _)|exact HI0.out)) hb);have n4_:=Aside0.mk (KeepBut.trans (by repeat (first|(with_reducible first|exact HK.out|apply KeepBut.set_|apply keep_drewN|apply keep_drew|apply keep_alloc|refine eF ?_ GW176.out _|refine eF ?_ GW181.out _)|exact HK.out)) (KeepBut.of_below hb g none) (.inl rfl));have n5_:=Aside0.mk (below_step (by repeat (first|(with_reducible first|exact HB.out|apply wA|apply wN|apply wD|refine wS ?_ (IsS71.ge HI0.out)|refine wS ?_ GE176.out|refine wS ?_ GE181.out)|exact HB.out)) hb);have n6_:=Aside0.mk (hbox);have n7_:=Aside0.mk ((by rw [hg];exact (keep_size (w:=w) (g:=g) (row:=none) (by repeat (first|(with_reducible first|exact HK.out|apply KeepBut.set_|apply keep_drewN|apply keep_drew|apply keep_alloc|refine eF ?_ GW176.out _|refine eF ?_ GW181.out _)|exact HK.out))):w.heap.size≤gb182));have n8_:=Aside0.mk ((Nat.le_trans HW0.out (by rw [hg];exact (keep_size (w:=w) (g:=g) (row:=none) (by repeat (first|(with_reducible first|exact HK.out|apply KeepBut.set_|apply keep_drewN|apply keep_drew|apply keep_alloc|refine eF ?_ GW176.out _|refine eF ?_ GW181.out _)|exact HK.out))):w.heap.size≤gb182):w0.heap.size≤gb182));have n9_:=Aside0.mk ((by rw [hg];exact Nat.ne_of_lt (blk_lt (g:=gb176) (o:=.cells #[.slice none 0 0] 27 (0,0)) (by (with_reducible repeat (first|refine kN ?_ _|refine kD ?_|refine kA ?_ _));exact BK176.out)):gb176 ≠ gb182));have n10_:=Aside0.mk ((by rw [hg];exact Nat.ne_of_gt (blk_lt (g:=gb176) (o:=.cells #[.slice none 0 0] 27 (0,0)) (by (with_reducible repeat (first|refine kN ?_ _|refine kD ?_|refine kA ?_ _));exact BK176.out)):gb182 ≠ gb176));have n11_:=Aside0.mk ((by rw [hg];exact Nat.ne_of_lt (blk_lt (g:=gb181) (o:=.cells #[u182000] 27 (0,0)) (by (with_reducible repeat (first|refine kN ?_ _|refine kD ?_|refine kA ?_ _));exact BK181.out)):gb181 ≠ gb182));have n12_:=Aside0.mk ((by rw [hg];exact Nat.ne_of_gt (blk_lt (g:=gb181) (o:=.cells #[u182000] 27 (0,0)) (by (with_reducible repeat (first|refine kN ?_ _|refine kD ?_|refine kA ?_ _));exact BK181.out)):gb182 ≠ gb181));have n13_:=Aside0.mk ((by rw [hg];exact Nat.ne_of_lt (IsS71.lt (show IsS71 w0 _ g s0_0 x1001_1 from by repeat (first|(with_reducible first|exact HI0.out|apply IsS71.alloc|apply IsS71.drewN|apply IsS71.drew|apply IsS71.set_1|refine IsS71.far ?_ NB0_176.out _|refine IsS71.far ?_ NB0_181.out _)|exact HI0.out))):g ≠ gb182));have n14_:=Aside0.mk ((by rw [hg];exact Nat.ne_of_gt (IsS71.lt (show IsS71 w0 _ g s0_0 x1001_1 from by repeat (first|(with_reducible first|exact HI0.out|apply IsS71.alloc|apply IsS71.drewN|apply IsS71.drew|apply IsS71.set_1|refine IsS71.far ?_ NB0_176.out _|refine IsS71.far ?_ NB0_181.out _)|exact HI0.out))):gb182 ≠ g));clear HO_182000;clear BK176;clear BK181;clear HI0;clear HK;clear HB;have HO_182000:=n0_;have BK176:=n1_;have BK181:=n2_;have HI0:=n3_;have HK:=n4_;have HB:=n5_;have BK182:=n6_;have GW182:=n7_;have GE182:=n8_;have NB176_182:=n9_;have NB182_176:=n10_;have NB181_182:=n11_;have NB182_181:=n12_;have NB0_182:=n13_;have NB182_0:=n14_;clear n0_ n1_ n2_ n3_ n4_ n5_ n6_ n7_ n8_ n9_ n10_ n11_ n12_ n13_ n14_;clear hb hbox hg)|((with_reducible refine gate_callee (f:=54) rfl ?_);refine goesL_ (some 24) rfl rfl Try.func54 (by kernel_rfl) rfl #[.pointer (some ⟨g,0,none⟩),.int .i64 t177,.int .i64 x8_1] rfl (by (try simp only [List.map_toArray,List.map_cons,List.map_nil]);first|done|rfl|(simp only [List.length_drop,List.length_take];rfl)) ?_;(with_reducible refine (trustquorummake_group.calls k1 g s0_0 x1001_1 t177 x8_1 t215 t216 t219 t222 w0 _ ?side1 ?side2 A84.out).mono ?_);(case side1=>repeat (first|(with_reducible first|exact HI0.out|apply IsS71.alloc|apply IsS71.drewN|apply IsS71.drew|apply IsS71.set_1|refine IsS71.far ?_ NB0_176.out _|refine IsS71.far ?_ NB0_181.out _|refine IsS71.far ?_ NB0_182.out _)|exact HI0.out));(case side2=>repeat (first|(with_reducible first|exact HB.out|apply wA|apply wN|apply wD|refine wS ?_ (IsS71.ge HI0.out)|refine wS ?_ GE176.out|refine wS ?_ GE181.out|refine wS ?_ GE182.out)|exact HB.out));rintro e w89 ⟨v217,v220,rfl,ho0,ho1,hi,hb,hk⟩;refine ⟨_,rfl,?_⟩;have n0_:=Aside0.mk (Kd.R_mono (Kd.R_told (Kd.R_told (Kd.R_oldK (IsS71.apart (show IsS71 w0 _ g s0_0 x1001_1 from by repeat (first|(with_reducible first|exact HI0.out|apply IsS71.alloc|apply IsS71.drewN|apply IsS71.drew|apply IsS71.set_1|refine IsS71.far ?_ NB0_176.out _|refine IsS71.far ?_ NB0_181.out _|refine IsS71.far ?_ NB0_182.out _)|exact HI0.out)) (by (with_reducible repeat (first|apply Kd.R_alloc|apply Kd.R_drewN|apply Kd.R_drew));exact HO_182000.out) (by decide)) hk) (Kd.R_base ho0)) (Kd.R_base ho1)) (fun _ h_=>h_.1));have n1_:=Aside0.mk (KeepBut.blk hk (g':=gb176) (o:=.cells #[.slice none 0 0] 27 (0,0)) (by (with_reducible repeat (first|refine kN ?_ _|refine kD ?_|refine kA ?_ _));exact BK176.out) NB176_0.out (by simp));have n2_:=Aside0.mk (KeepBut.blk hk (g':=gb181) (o:=.cells #[u182000] 27 (0,0)) (by (with_reducible repeat (first|refine kN ?_ _|refine kD ?_|refine kA ?_ _));exact BK181.out) NB181_0.out (by simp));have n3_:=Aside0.mk (KeepBut.blk hk (g':=gb182) (o:=.cells #[.int .i64 0,.slice none 0 0,.slice none 0 0] 32 (0,0)) (by (with_reducible repeat (first|refine kN ?_ _|refine kD ?_|refine kA ?_ _));exact BK182.out) NB182_0.out (by simp));have n4_:=Aside0.mk (Kd.R_lower ho0 (keep_size (w:=w) (g:=g) (row:=none) (by repeat (first|(with_reducible first|exact HK.out|apply KeepBut.set_|apply keep_drewN|apply keep_drew|apply keep_alloc|refine eF ?_ GW176.out _|refine eF ?_ GW181.out _|refine eF ?_ GW182.out _)|exact HK.out))));have n5_:=Aside0.mk (Kd.R_lower (Kd.R_newB ho1 (g:=gb182) (o:=.cells #[.int .i64 0,.slice none 0 0,.slice none 0 0] 32 (0,0)) (by (with_reducible repeat (first|refine kN ?_ _|refine kD ?_|refine kA ?_ _));exact BK182.out)) (keep_size (w:=w) (g:=g) (row:=none) (by repeat (first|(with_reducible first|exact HK.out|apply KeepBut.set_|apply keep_drewN|apply keep_drew|apply keep_alloc|refine eF ?_ GW176.out _|refine eF ?_ GW181.out _|refine eF ?_ GW182.out _)|exact HK.out))));have n6_:=Aside0.mk (KeepBut.trans (by repeat (first|(with_reducible first|exact HK.out|apply KeepBut.set_|apply keep_drewN|apply keep_drew|apply keep_alloc|refine eF ?_ GW176.out _|refine eF ?_ GW181.out _|refine eF ?_ GW182.out _)|exact HK.out)) hk (.inl rfl));have n7_:=Aside0.mk (hb);have n8_:=Aside0.mk (hi);clear HO_182000;clear BK176;clear BK181;clear BK182;clear HK;clear HB;clear HI0;have HO_182000:=n0_;have BK176:=n1_;have BK181:=n2_;have BK182:=n3_;have HO218:=n4_;have HO221:=n5_;have HK:=n6_;have HB:=n7_;have HI0:=n8_;clear n0_ n1_ n2_ n3_ n4_ n5_ n6_ n7_ n8_;(try clear hb);(try clear hb2);(try clear hk);(try clear hi);(try clear ho0);(try clear ho1);have hnb90:=NB182_176.out;have hnc90:=NB176_182.out;have hnb91:=NB182_181.out;have hnc91:=NB181_182.out;have hnb92:=NB182_0.out;have hnc92:=NB0_182.out;have hcz93_0:w89.cell? ⟨gb182,0,none⟩=some (.int .i64 0):=(kC BK182.out 0).trans rfl;have hcz93_1:w89.cell? ⟨gb182,1,none⟩=some (.slice none 0 0):=(kC BK182.out 1).trans rfl;have hcz93_2:w89.cell? ⟨gb182,2,none⟩=some (.slice none 0 0):=(kC BK182.out 2).trans rfl;have hfz93_0:=kF BK182.out 0;have hfz93_1:=kF BK182.out 1;have hfz93_2:=kF BK182.out 2;obtain ⟨Ao94,co94,eo94⟩:=Kd.R_slice HO218.out;subst eo94;obtain ⟨Ao95,co95,eo95⟩:=Kd.R_slice HO221.out;subst eo95)|((with_reducible refine gate_callee (f:=16) rfl ?_);refine goesL_ (some 36) rfl rfl Try.func16 (by kernel_rfl) rfl #[.pointer (some ⟨g,0,none⟩),.int .i64 12] rfl (by (try simp only [List.map_toArray,List.map_cons,List.map_nil]);first|done|rfl|(simp only [List.length_drop,List.length_take];rfl)) ?_;(with_reducible refine (trustquorummake_Tape_N.calls g s0_0 t222 12 t223 t224 w0 _ ?side1 ?side2 A85.out).mono ?_);(case side1=>repeat (first|(with_reducible first|exact HI0.out|apply IsS71.alloc|apply IsS71.drewN|apply IsS71.drew|apply IsS71.set_1|refine IsS71.far ?_ NB0_176.out _|refine IsS71.far ?_ NB0_181.out _|refine IsS71.far ?_ NB0_182.out _)|exact HI0.out));(case side2=>repeat (first|(with_reducible first|exact HB.out|apply wA|apply wN|apply wD|refine wS ?_ (IsS71.ge HI0.out)|refine wS ?_ GE176.out|refine wS ?_ GE181.out|refine wS ?_ GE182.out)|exact HB.out));rintro e w96 ⟨rfl,hi,hb,hk⟩;refine ⟨_,rfl,?_⟩;have n0_:=Aside0.mk (Kd.R_mono (Kd.R_keep (IsS71.apart (show IsS71 w0 _ g s0_0 t222 from by repeat (first|(with_reducible first|exact HI0.out|apply IsS71.alloc|apply IsS71.drewN|apply IsS71.drew|apply IsS71.set_1|refine IsS71.far ?_ NB0_176.out _|refine IsS71.far ?_ NB0_181.out _|refine IsS71.far ?_ NB0_182.out _)|exact HI0.out)) (by (with_reducible repeat (first|apply Kd.R_alloc|apply Kd.R_drewN|apply Kd.R_drew));exact (Kd.R_mono (Kd.R_far (p:=⟨gb182,2,none⟩) (Kd.R_far (p:=⟨gb182,1,none⟩) (Kd.R_far (p:=⟨gb182,0,none⟩) (Kd.R_mono HO_182000.out (fun k_ hk=>(⟨hk,hk.1.1.2⟩:_∧k_ ≠ gb182))) (fun _ hk=>hk.2) (.int .i64 t215)) (fun _ hk=>hk.2) (.slice Ao94 t216.length co94)) (fun _ hk=>hk.2) (.slice Ao95 t219.length co95)) (fun _ h_=>h_.1))) (by decide)) hk (fun _ h=>h.2)) (fun _ h=>h.1));have n1_:=Aside0.mk (KeepBut.blk hk (g':=gb176) (o:=.cells #[.slice none 0 0] 27 (0,0)) (by (with_reducible repeat (first|refine kN ?_ _|refine kD ?_|refine kA ?_ _));refine blk_far ?_ NB176_182.out _;(with_reducible repeat (first|refine kN ?_ _|refine kD ?_|refine kA ?_ _));refine blk_far ?_ NB176_182.out _;(with_reducible repeat (first|refine kN ?_ _|refine kD ?_|refine kA ?_ _));refine blk_far ?_ NB176_182.out _;(with_reducible repeat (first|refine kN ?_ _|refine kD ?_|refine kA ?_ _));exact BK176.out) NB176_0.out (by simp));have n2_:=Aside0.mk (KeepBut.blk hk (g':=gb181) (o:=.cells #[u182000] 27 (0,0)) (by (with_reducible repeat (first|refine kN ?_ _|refine kD ?_|refine kA ?_ _));refine blk_far ?_ NB181_182.out _;(with_reducible repeat (first|refine kN ?_ _|refine kD ?_|refine kA ?_ _));refine blk_far ?_ NB181_182.out _;(with_reducible repeat (first|refine kN ?_ _|refine kD ?_|refine kA ?_ _));refine blk_far ?_ NB181_182.out _;(with_reducible repeat (first|refine kN ?_ _|refine kD ?_|refine kA ?_ _));exact BK181.out) NB181_0.out (by simp));have n3_:=Aside0.mk (KeepBut.blk hk (g':=gb182) (o:=.cells #[.int .i64 t215,.slice Ao94 t216.length co94,.slice Ao95 t219.length co95] 32 (0,0)) (by (with_reducible repeat (first|refine kN ?_ _|refine kD ?_|refine kA ?_ _));refine blk_put (cs:=#[.int .i64 t215,.slice Ao94 t216.length co94,.slice none 0 0]) ?_ 2 _ rfl;(with_reducible repeat (first|refine kN ?_ _|refine kD ?_|refine kA ?_ _));refine blk_put (cs:=#[.int .i64 t215,.slice none 0 0,.slice none 0 0]) ?_ 1 _ rfl;(with_reducible repeat (first|refine kN ?_ _|refine kD ?_|refine kA ?_ _));refine blk_put (cs:=#[.int .i64 0,.slice none 0 0,.slice none 0 0]) ?_ 0 _ rfl;(with_reducible repeat (first|refine kN ?_ _|refine kD ?_|refine kA ?_ _));exact BK182.out) NB182_0.out (by simp));have n4_:=Aside0.mk (Kd.R_mono (Kd.R_keep (IsS71.apart (show IsS71 w0 _ g s0_0 t222 from by repeat (first|(with_reducible first|exact HI0.out|apply IsS71.alloc|apply IsS71.drewN|apply IsS71.drew|apply IsS71.set_1|refine IsS71.far ?_ NB0_176.out _|refine IsS71.far ?_ NB0_181.out _|refine IsS71.far ?_ NB0_182.out _)|exact HI0.out)) (by (with_reducible repeat (first|apply Kd.R_alloc|apply Kd.R_drewN|apply Kd.R_drew));exact (Kd.R_mono (Kd.R_far (p:=⟨gb182,2,none⟩) (Kd.R_far (p:=⟨gb182,1,none⟩) (Kd.R_far (p:=⟨gb182,0,none⟩) (Kd.R_types HO218.out BK182.out (by decide)) (fun _ hk=>hk.2) (.int .i64 t215)) (fun _ hk=>hk.2) (.slice Ao94 t216.length co94)) (fun _ hk=>hk.2) (.slice Ao95 t219.length co95)) (fun _ h_=>h_.1))) (by decide)) hk (fun _ h=>h.2)) (fun _ h=>h.1));have n5_:=Aside0.mk (Kd.R_mono (Kd.R_keep (IsS71.apart (show IsS71 w0 _ g s0_0 t222 from by repeat (first|(with_reducible first|exact HI0.out|apply IsS71.alloc|apply IsS71.drewN|apply IsS71.drew|apply IsS71.set_1|refine IsS71.far ?_ NB0_176.out _|refine IsS71.far ?_ NB0_181.out _|refine IsS71.far ?_ NB0_182.out _)|exact HI0.out)) (by (with_reducible repeat (first|apply Kd.R_alloc|apply Kd.R_drewN|apply Kd.R_drew));exact (Kd.R_mono (Kd.R_far (p:=⟨gb182,2,none⟩) (Kd.R_far (p:=⟨gb182,1,none⟩) (Kd.R_far (p:=⟨gb182,0,none⟩) (Kd.R_mono HO221.out (fun k_ hk=>(⟨hk,hk.2⟩:_∧k_ ≠ gb182))) (fun _ hk=>hk.2) (.int .i64 t215)) (fun _ hk=>hk.2) (.slice Ao94 t216.length co94)) (fun _ hk=>hk.2) (.slice Ao95 t219.length co95)) (fun _ h_=>h_.1))) (by decide)) hk (fun _ h=>h.2)) (fun _ h=>h.1));have n6_:=Aside0.mk (KeepBut.trans (by repeat (first|(with_reducible first|exact HK.out|apply KeepBut.set_|apply keep_drewN|apply keep_drew|apply keep_alloc|refine eF ?_ GW176.out _|refine eF ?_ GW181.out _|refine eF ?_ GW182.out _)|exact HK.out)) hk (.inl rfl));have n7_:=Aside0.mk (hb);have n8_:=Aside0.mk (hi);clear HO_182000;clear BK176;clear BK181;clear BK182;clear HO218;clear HO221;clear HK;clear HB;clear HI0;have HO_182000:=n0_;have BK176:=n1_;have BK181:=n2_;have BK182:=n3_;have HO218:=n4_;have HO221:=n5_;have HK:=n6_;have HB:=n7_;have HI0:=n8_;clear n0_ n1_ n2_ n3_ n4_ n5_ n6_ n7_ n8_;(try clear hb);(try clear hb2);(try clear hk);(try clear hi);have hnb97:=NB181_176.out;have hnc97:=NB176_181.out;have hnb98:=NB181_0.out;have hnc98:=NB0_181.out;have hcz99_0:w96.cell? ⟨gb181,0,none⟩=some (u182000):=(kC BK181.out 0).trans rfl;have hfz99_0:=kF BK181.out 0)|((with_reducible refine gate_builtin (b:=.append) (xs:=#[.tmp 39,.tmp 41]) rfl ?_);at_builtin;refine Kd.R_append k34 w.heap.size rfl (.tmp 39) (.tmp 41) 25 34 (.agg #[(.bool false),(.int .i64 0),(.slice none 0 0),(.slice none 0 0)]) 64 rfl Try.underlying25 info34 rfl (by decide) (by omega) u182000 x182000_1 (⟨false,(⟨0,([]:List Int),([]:List (S32))⟩:S32)⟩:S34) [.bool false,.int .i64 0,.slice none 0 0,.slice none 0 0] (fun k_=>some k_ ≠ (.slice Ao94 t216.length co94:Value).ownBlock∧some k_ ≠ (.slice Ao95 t219.length co95:Value).ownBlock∧k_ ≠ gb182) (fun k_=>((fun k_=>some k_ ≠ (.slice Ao94 t216.length co94:Value).ownBlock∧some k_ ≠ (.slice Ao95 t219.length co95:Value).ownBlock∧k_ ≠ gb182)) k_∧some k_ ≠ (u182000:Value).ownBlock) rfl rfl ?aP (fun _ hk=>hk) ?aF ?aO (Below.refl _ _) ?aS ?aL ?_;(case aP=>exact k34_mkM _ _ _ (⟨false,(⟨0,([]:List Int),([]:List (S32))⟩:S32)⟩:S34) (Kd.R_nil _ _ _ _ _) (Kd.R_nil _ _ _ _ _));(case aF=>exact (fun k_ hk=>⟨Kd.fresh' (Kd.R_lt (by (with_reducible repeat (first|apply Kd.R_alloc|apply Kd.R_drewN|apply Kd.R_drew));exact HO218.out)) k_ hk,Kd.fresh' (Kd.R_lt (by (with_reducible repeat (first|apply Kd.R_alloc|apply Kd.R_drewN|apply Kd.R_drew));exact HO221.out)) k_ hk,Kd.freshB (g:=gb182) (o:=.cells #[.int .i64 t215,.slice Ao94 t216.length co94,.slice Ao95 t219.length co95] 32 (0,0)) (by (with_reducible repeat (first|refine kN ?_ _|refine kD ?_|refine kA ?_ _));exact BK182.out) k_ hk⟩));(case aO=>exact (by (with_reducible repeat (first|apply Kd.R_alloc|apply Kd.R_drewN|apply Kd.R_drew));exact Kd.R_mono HO_182000.out (fun _ hk=>⟨hk.1.2,⟨hk.2,hk.1.1.2⟩⟩)));(case aS=>exact (keep_size (w:=w) (g:=g) (row:=none) (by repeat (first|(with_reducible first|exact HK.out|apply KeepBut.set_|apply keep_drewN|apply keep_drew|apply keep_alloc|refine eF ?_ GW176.out _|refine eF ?_ GW181.out _|refine eF ?_ GW182.out _)|exact HK.out))));(case aL=>have:=LMc87.out;omega);intro v226 w100 ho hb hg hat;rw [← Ny225.out] at ho;have n0_:=Aside0.mk (blk_grown (g:=gb176) (o:=.cells #[.slice none 0 0] 27 (0,0)) (by (with_reducible repeat (first|refine kN ?_ _|refine kD ?_|refine kA ?_ _));exact BK176.out) hg (Kd.R_ne HO_182000.out BK176.out (by decide)));have n1_:=Aside0.mk (blk_grown (g:=gb181) (o:=.cells #[u182000] 27 (0,0)) (by (with_reducible repeat (first|refine kN ?_ _|refine kD ?_|refine kA ?_ _));exact BK181.out) hg (Kd.R_ne HO_182000.out BK181.out (by decide)));have n2_:=Aside0.mk (IsS71.grown (by repeat (first|(with_reducible first|exact HI0.out|apply IsS71.alloc|apply IsS71.drewN|apply IsS71.drew|apply IsS71.set_1|refine IsS71.far ?_ NB0_176.out _|refine IsS71.far ?_ NB0_181.out _|refine IsS71.far ?_ NB0_182.out _)|exact HI0.out)) hg (IsS71.own_ne HI0.out HO_182000.out (by decide)));have n3_:=Aside0.mk (blk_grown (g:=gb182) (o:=.cells #[.int .i64 t215,.slice Ao94 t216.length co94,.slice Ao95 t219.length co95] 32 (0,0)) (by (with_reducible repeat (first|refine kN ?_ _|refine kD ?_|refine kA ?_ _));exact BK182.out) hg (Kd.R_ne HO_182000.out BK182.out (by decide)));have n4_:=Aside0.mk (Kd.R_over' (by (with_reducible repeat (first|apply Kd.R_alloc|apply Kd.R_drewN|apply Kd.R_drew));exact HO218.out) (Kd.R_typed (by (with_reducible repeat (first|apply Kd.R_alloc|apply Kd.R_drewN|apply Kd.R_drew));exact HO_182000.out)) (by decide) hg);have n5_:=Aside0.mk (Kd.R_over' (by (with_reducible repeat (first|apply Kd.R_alloc|apply Kd.R_drewN|apply Kd.R_drew));exact HO221.out) (Kd.R_typed (by (with_reducible repeat (first|apply Kd.R_alloc|apply Kd.R_drewN|apply Kd.R_drew));exact HO_182000.out)) (by decide) hg);have n6_:=Aside0.mk (below_weaken (by repeat (first|(with_reducible first|exact HB.out|apply wA|apply wN|apply wD|refine wS ?_ (IsS71.ge HI0.out)|refine wS ?_ GE176.out|refine wS ?_ GE181.out|refine wS ?_ GE182.out)|exact HB.out)) HL.out hb);have n7_:=Aside0.mk (KeepBut.trans (by repeat (first|(with_reducible first|exact HK.out|apply KeepBut.set_|apply keep_drewN|apply keep_drew|apply keep_alloc|refine eF ?_ GW176.out _|refine eF ?_ GW181.out _|refine eF ?_ GW182.out _)|exact HK.out)) (KeepBut.of_grown hg g) (Kd.R_base2 HO_182000.out));have n8_:=Aside0.mk (ho);clear BK176;clear BK181;clear HI0;clear BK182;clear HO218;clear HO221;clear HB;clear HK;clear HO_182000;have BK176:=n0_;have BK181:=n1_;have HI0:=n2_;have BK182:=n3_;have HO218:=n4_;have HO221:=n5_;have HB:=n6_;have HK:=n7_;have HO227:=n8_;clear n0_ n1_ n2_ n3_ n4_ n5_ n6_ n7_ n8_;clear ho hb hg hat;obtain ⟨Ao101,co101,eo101⟩:=Kd.R_slice HO227.out;subst eo101;have hcz102_0:w100.cell? ⟨gb181,0,none⟩=some (u182000):=(kC BK181.out 0).trans rfl;have hfz102_0:=kF BK181.out 0))
        go_roundg k1
        case measure=>have:=HK1.out;omega
        case rel=>exact ⟨(wrap64 (x8_1+1)),(t224),(y225),(.slice Ao101 y225.length co101),(by first|rfl|(simp;done)|(simp [*];done)),H',⟨by have:=HK1.out;omega⟩,⟨by (with_reducible repeat (first|apply Kd.R_alloc|apply Kd.R_drewN|apply Kd.R_drew));exact Kd.R_mono (Kd.R_far (p:=⟨gb181,0,none⟩) (Kd.R_types HO227.out BK181.out (by decide)) (fun _ hk=>hk.2) (.slice Ao101 y225.length co101)) (fun _ hk=>trivial)⟩,⟨by (with_reducible repeat (first|refine kN ?_ _|refine kD ?_|refine kA ?_ _));refine blk_far ?_ NB176_181.out _;(with_reducible repeat (first|refine kN ?_ _|refine kD ?_|refine kA ?_ _));exact BK176.out⟩,⟨by (with_reducible repeat (first|refine kN ?_ _|refine kD ?_|refine kA ?_ _));refine blk_put (cs:=#[u182000]) ?_ 0 _ rfl;(with_reducible repeat (first|refine kN ?_ _|refine kD ?_|refine kA ?_ _));exact BK181.out⟩,⟨by repeat (first|(with_reducible first|exact HI0.out|apply IsS71.alloc|apply IsS71.drewN|apply IsS71.drew|apply IsS71.set_1|refine IsS71.far ?_ NB0_176.out _|refine IsS71.far ?_ NB0_181.out _|refine IsS71.far ?_ NB0_182.out _)|exact HI0.out)⟩,⟨by repeat (first|(with_reducible first|exact HK.out|apply KeepBut.set_|apply keep_drewN|apply keep_drew|apply keep_alloc|refine eF ?_ GW176.out _|refine eF ?_ GW181.out _|refine eF ?_ GW182.out _)|exact HK.out)⟩,⟨by repeat (first|(with_reducible first|exact HB.out|apply wA|apply wN|apply wD|refine wS ?_ (IsS71.ge HI0.out)|refine wS ?_ GE176.out|refine wS ?_ GE181.out|refine wS ?_ GE182.out)|exact HB.out)⟩⟩
       ·rw [if_neg c87] at H
        exact absurd H (by simp)
      ·rw [if_neg c86] at H
       have c86b0:(t223 == 11)=false:=beq_eq_false_iff_ne.mpr c86
       have c86b1:(t223 != 11)=true:=bne_iff_ne.mpr c86
       by_cases c103:x182000_1.length < 2199023255552
       ·rw [if_pos c103] at H
        have LMc103:=Aside0.mk c103
        clear c103
        obtain ⟨y228,hy228⟩:∃ y_:List (S34),y_=(x182000_1++[(⟨true,(⟨t215,t216,t219⟩:S32)⟩:S34)]):=⟨_,rfl⟩
        replace H:(trustquorummake_Config.l0 k1 t177 t179 (wrap64 (x8_1+1)) s0_0 t224 y228)=some (r1,r2):=by first|(rw [hy228];with_reducible exact H)|(have H2_:=(Option.bind_some _ _).symm.trans H;rw [hy228];with_reducible exact H2_)|(have H2_:=(Option.bind_some _ _).symm.trans H;with_reducible exact H2_)|with_reducible exact H|(rw [hy228];exact H)|exact H
        have Ny228:=Aside0.mk hy228
        clear hy228
        have H':=Aside0.mk H
        clear H
        go_wp2_with (first|((with_reducible refine gate_dst (N:=9) rfl ?_);refine box_event ?hg (N:=9) ?hd (cs:=#[.int .i64 0,.slice none 0 0,.slice none 0 0]) (t:=32) ?hr ?_;(case hd=>rfl);(case hg=>rfl);(case hr=>first|(go_simp;done)|(go_simp;rfl));intro gb182 hg w104 hbox hb;have n0_:=Aside0.mk (Kd.R_below (Kd.R_elderB (by (with_reducible repeat (first|apply Kd.R_alloc|apply Kd.R_drewN|apply Kd.R_drew));exact HO_182000.out) gb182 (Nat.le_of_eq hg.symm)) hb);have n1_:=Aside0.mk (blk_below (g:=gb176) (o:=.cells #[.slice none 0 0] 27 (0,0)) (by (with_reducible repeat (first|refine kN ?_ _|refine kD ?_|refine kA ?_ _));exact BK176.out) hb);have n2_:=Aside0.mk (blk_below (g:=gb181) (o:=.cells #[u182000] 27 (0,0)) (by (with_reducible repeat (first|refine kN ?_ _|refine kD ?_|refine kA ?_ _));exact BK181.out) hb);have n3_:=Aside0.mk (IsS71.below (by repeat (first|(with_reducible first|exact HI0.out|apply IsS71.alloc|apply IsS71.drewN|apply IsS71.drew|apply IsS71.set_1|refine IsS71.far ?_ NB0_176.out _|refine IsS71.far ?_ NB0_181.out _)|exact HI0.out)) hb);have n4_:=Aside0.mk (KeepBut.trans (by repeat (first|(with_reducible first|exact HK.out|apply KeepBut.set_|apply keep_drewN|apply keep_drew|apply keep_alloc|refine eF ?_ GW176.out _|refine eF ?_ GW181.out _)|exact HK.out)) (KeepBut.of_below hb g none) (.inl rfl));have n5_:=Aside0.mk (below_step (by repeat (first|(with_reducible first|exact HB.out|apply wA|apply wN|apply wD|refine wS ?_ (IsS71.ge HI0.out)|refine wS ?_ GE176.out|refine wS ?_ GE181.out)|exact HB.out)) hb);have n6_:=Aside0.mk (hbox);have n7_:=Aside0.mk ((by rw [hg];exact (keep_size (w:=w) (g:=g) (row:=none) (by repeat (first|(with_reducible first|exact HK.out|apply KeepBut.set_|apply keep_drewN|apply keep_drew|apply keep_alloc|refine eF ?_ GW176.out _|refine eF ?_ GW181.out _)|exact HK.out))):w.heap.size≤gb182));have n8_:=Aside0.mk ((Nat.le_trans HW0.out (by rw [hg];exact (keep_size (w:=w) (g:=g) (row:=none) (by repeat (first|(with_reducible first|exact HK.out|apply KeepBut.set_|apply keep_drewN|apply keep_drew|apply keep_alloc|refine eF ?_ GW176.out _|refine eF ?_ GW181.out _)|exact HK.out))):w.heap.size≤gb182):w0.heap.size≤gb182));have n9_:=Aside0.mk ((by rw [hg];exact Nat.ne_of_lt (blk_lt (g:=gb176) (o:=.cells #[.slice none 0 0] 27 (0,0)) (by (with_reducible repeat (first|refine kN ?_ _|refine kD ?_|refine kA ?_ _));exact BK176.out)):gb176 ≠ gb182));have n10_:=Aside0.mk ((by rw [hg];exact Nat.ne_of_gt (blk_lt (g:=gb176) (o:=.cells #[.slice none 0 0] 27 (0,0)) (by (with_reducible repeat (first|refine kN ?_ _|refine kD ?_|refine kA ?_ _));exact BK176.out)):gb182 ≠ gb176));have n11_:=Aside0.mk ((by rw [hg];exact Nat.ne_of_lt (blk_lt (g:=gb181) (o:=.cells #[u182000] 27 (0,0)) (by (with_reducible repeat (first|refine kN ?_ _|refine kD ?_|refine kA ?_ _));exact BK181.out)):gb181 ≠ gb182));have n12_:=Aside0.mk ((by rw [hg];exact Nat.ne_of_gt (blk_lt (g:=gb181) (o:=.cells #[u182000] 27 (0,0)) (by (with_reducible repeat (first|refine kN ?_ _|refine kD ?_|refine kA ?_ _));exact BK181.out)):gb182 ≠ gb181));have n13_:=Aside0.mk ((by rw [hg];exact Nat.ne_of_lt (IsS71.lt (show IsS71 w0 _ g s0_0 x1001_1 from by repeat (first|(with_reducible first|exact HI0.out|apply IsS71.alloc|apply IsS71.drewN|apply IsS71.drew|apply IsS71.set_1|refine IsS71.far ?_ NB0_176.out _|refine IsS71.far ?_ NB0_181.out _)|exact HI0.out))):g ≠ gb182));have n14_:=Aside0.mk ((by rw [hg];exact Nat.ne_of_gt (IsS71.lt (show IsS71 w0 _ g s0_0 x1001_1 from by repeat (first|(with_reducible first|exact HI0.out|apply IsS71.alloc|apply IsS71.drewN|apply IsS71.drew|apply IsS71.set_1|refine IsS71.far ?_ NB0_176.out _|refine IsS71.far ?_ NB0_181.out _)|exact HI0.out))):gb182 ≠ g));clear HO_182000;clear BK176;clear BK181;clear HI0;clear HK;clear HB;have HO_182000:=n0_;have BK176:=n1_;have BK181:=n2_;have HI0:=n3_;have HK:=n4_;have HB:=n5_;have BK182:=n6_;have GW182:=n7_;have GE182:=n8_;have NB176_182:=n9_;have NB182_176:=n10_;have NB181_182:=n11_;have NB182_181:=n12_;have NB0_182:=n13_;have NB182_0:=n14_;clear n0_ n1_ n2_ n3_ n4_ n5_ n6_ n7_ n8_ n9_ n10_ n11_ n12_ n13_ n14_;clear hb hbox hg)|((with_reducible refine gate_callee (f:=54) rfl ?_);refine goesL_ (some 24) rfl rfl Try.func54 (by kernel_rfl) rfl #[.pointer (some ⟨g,0,none⟩),.int .i64 t177,.int .i64 x8_1] rfl (by (try simp only [List.map_toArray,List.map_cons,List.map_nil]);first|done|rfl|(simp only [List.length_drop,List.length_take];rfl)) ?_;(with_reducible refine (trustquorummake_group.calls k1 g s0_0 x1001_1 t177 x8_1 t215 t216 t219 t222 w0 _ ?side1 ?side2 A84.out).mono ?_);(case side1=>repeat (first|(with_reducible first|exact HI0.out|apply IsS71.alloc|apply IsS71.drewN|apply IsS71.drew|apply IsS71.set_1|refine IsS71.far ?_ NB0_176.out _|refine IsS71.far ?_ NB0_181.out _|refine IsS71.far ?_ NB0_182.out _)|exact HI0.out));(case side2=>repeat (first|(with_reducible first|exact HB.out|apply wA|apply wN|apply wD|refine wS ?_ (IsS71.ge HI0.out)|refine wS ?_ GE176.out|refine wS ?_ GE181.out|refine wS ?_ GE182.out)|exact HB.out));rintro e w105 ⟨v217,v220,rfl,ho0,ho1,hi,hb,hk⟩;refine ⟨_,rfl,?_⟩;have n0_:=Aside0.mk (Kd.R_mono (Kd.R_told (Kd.R_told (Kd.R_oldK (IsS71.apart (show IsS71 w0 _ g s0_0 x1001_1 from by repeat (first|(with_reducible first|exact HI0.out|apply IsS71.alloc|apply IsS71.drewN|apply IsS71.drew|apply IsS71.set_1|refine IsS71.far ?_ NB0_176.out _|refine IsS71.far ?_ NB0_181.out _|refine IsS71.far ?_ NB0_182.out _)|exact HI0.out)) (by (with_reducible repeat (first|apply Kd.R_alloc|apply Kd.R_drewN|apply Kd.R_drew));exact HO_182000.out) (by decide)) hk) (Kd.R_base ho0)) (Kd.R_base ho1)) (fun _ h_=>h_.1));have n1_:=Aside0.mk (KeepBut.blk hk (g':=gb176) (o:=.cells #[.slice none 0 0] 27 (0,0)) (by (with_reducible repeat (first|refine kN ?_ _|refine kD ?_|refine kA ?_ _));exact BK176.out) NB176_0.out (by simp));have n2_:=Aside0.mk (KeepBut.blk hk (g':=gb181) (o:=.cells #[u182000] 27 (0,0)) (by (with_reducible repeat (first|refine kN ?_ _|refine kD ?_|refine kA ?_ _));exact BK181.out) NB181_0.out (by simp));have n3_:=Aside0.mk (KeepBut.blk hk (g':=gb182) (o:=.cells #[.int .i64 0,.slice none 0 0,.slice none 0 0] 32 (0,0)) (by (with_reducible repeat (first|refine kN ?_ _|refine kD ?_|refine kA ?_ _));exact BK182.out) NB182_0.out (by simp));have n4_:=Aside0.mk (Kd.R_lower ho0 (keep_size (w:=w) (g:=g) (row:=none) (by repeat (first|(with_reducible first|exact HK.out|apply KeepBut.set_|apply keep_drewN|apply keep_drew|apply keep_alloc|refine eF ?_ GW176.out _|refine eF ?_ GW181.out _|refine eF ?_ GW182.out _)|exact HK.out))));have n5_:=Aside0.mk (Kd.R_lower (Kd.R_newB ho1 (g:=gb182) (o:=.cells #[.int .i64 0,.slice none 0 0,.slice none 0 0] 32 (0,0)) (by (with_reducible repeat (first|refine kN ?_ _|refine kD ?_|refine kA ?_ _));exact BK182.out)) (keep_size (w:=w) (g:=g) (row:=none) (by repeat (first|(with_reducible first|exact HK.out|apply KeepBut.set_|apply keep_drewN|apply keep_drew|apply keep_alloc|refine eF ?_ GW176.out _|refine eF ?_ GW181.out _|refine eF ?_ GW182.out _)|exact HK.out))));have n6_:=Aside0.mk (KeepBut.trans (by repeat (first|(with_reducible first|exact HK.out|apply KeepBut.set_|apply keep_drewN|apply keep_drew|apply keep_alloc|refine eF ?_ GW176.out _|refine eF ?_ GW181.out _|refine eF ?_ GW182.out _)|exact HK.out)) hk (.inl rfl));have n7_:=Aside0.mk (hb);have n8_:=Aside0.mk (hi);clear HO_182000;clear BK176;clear BK181;clear BK182;clear HK;clear HB;clear HI0;have HO_182000:=n0_;have BK176:=n1_;have BK181:=n2_;have BK182:=n3_;have HO218:=n4_;have HO221:=n5_;have HK:=n6_;have HB:=n7_;have HI0:=n8_;clear n0_ n1_ n2_ n3_ n4_ n5_ n6_ n7_ n8_;(try clear hb);(try clear hb2);(try clear hk);(try clear hi);(try clear ho0);(try clear ho1);have hnb106:=NB182_176.out;have hnc106:=NB176_182.out;have hnb107:=NB182_181.out;have hnc107:=NB181_182.out;have hnb108:=NB182_0.out;have hnc108:=NB0_182.out;have hcz109_0:w105.cell? ⟨gb182,0,none⟩=some (.int .i64 0):=(kC BK182.out 0).trans rfl;have hcz109_1:w105.cell? ⟨gb182,1,none⟩=some (.slice none 0 0):=(kC BK182.out 1).trans rfl;have hcz109_2:w105.cell? ⟨gb182,2,none⟩=some (.slice none 0 0):=(kC BK182.out 2).trans rfl;have hfz109_0:=kF BK182.out 0;have hfz109_1:=kF BK182.out 1;have hfz109_2:=kF BK182.out 2;obtain ⟨Ao110,co110,eo110⟩:=Kd.R_slice HO218.out;subst eo110;obtain ⟨Ao111,co111,eo111⟩:=Kd.R_slice HO221.out;subst eo111)|((with_reducible refine gate_callee (f:=16) rfl ?_);refine goesL_ (some 36) rfl rfl Try.func16 (by kernel_rfl) rfl #[.pointer (some ⟨g,0,none⟩),.int .i64 12] rfl (by (try simp only [List.map_toArray,List.map_cons,List.map_nil]);first|done|rfl|(simp only [List.length_drop,List.length_take];rfl)) ?_;(with_reducible refine (trustquorummake_Tape_N.calls g s0_0 t222 12 t223 t224 w0 _ ?side1 ?side2 A85.out).mono ?_);(case side1=>repeat (first|(with_reducible first|exact HI0.out|apply IsS71.alloc|apply IsS71.drewN|apply IsS71.drew|apply IsS71.set_1|refine IsS71.far ?_ NB0_176.out _|refine IsS71.far ?_ NB0_181.out _|refine IsS71.far ?_ NB0_182.out _)|exact HI0.out));(case side2=>repeat (first|(with_reducible first|exact HB.out|apply wA|apply wN|apply wD|refine wS ?_ (IsS71.ge HI0.out)|refine wS ?_ GE176.out|refine wS ?_ GE181.out|refine wS ?_ GE182.out)|exact HB.out));rintro e w112 ⟨rfl,hi,hb,hk⟩;refine ⟨_,rfl,?_⟩;have n0_:=Aside0.mk (Kd.R_mono (Kd.R_keep (IsS71.apart (show IsS71 w0 _ g s0_0 t222 from by repeat (first|(with_reducible first|exact HI0.out|apply IsS71.alloc|apply IsS71.drewN|apply IsS71.drew|apply IsS71.set_1|refine IsS71.far ?_ NB0_176.out _|refine IsS71.far ?_ NB0_181.out _|refine IsS71.far ?_ NB0_182.out _)|exact HI0.out)) (by (with_reducible repeat (first|apply Kd.R_alloc|apply Kd.R_drewN|apply Kd.R_drew));exact (Kd.R_mono (Kd.R_far (p:=⟨gb182,2,none⟩) (Kd.R_far (p:=⟨gb182,1,none⟩) (Kd.R_far (p:=⟨gb182,0,none⟩) (Kd.R_mono HO_182000.out (fun k_ hk=>(⟨hk,hk.1.1.2⟩:_∧k_ ≠ gb182))) (fun _ hk=>hk.2) (.int .i64 t215)) (fun _ hk=>hk.2) (.slice Ao110 t216.length co110)) (fun _ hk=>hk.2) (.slice Ao111 t219.length co111)) (fun _ h_=>h_.1))) (by decide)) hk (fun _ h=>h.2)) (fun _ h=>h.1));have n1_:=Aside0.mk (KeepBut.blk hk (g':=gb176) (o:=.cells #[.slice none 0 0] 27 (0,0)) (by (with_reducible repeat (first|refine kN ?_ _|refine kD ?_|refine kA ?_ _));refine blk_far ?_ NB176_182.out _;(with_reducible repeat (first|refine kN ?_ _|refine kD ?_|refine kA ?_ _));refine blk_far ?_ NB176_182.out _;(with_reducible repeat (first|refine kN ?_ _|refine kD ?_|refine kA ?_ _));refine blk_far ?_ NB176_182.out _;(with_reducible repeat (first|refine kN ?_ _|refine kD ?_|refine kA ?_ _));exact BK176.out) NB176_0.out (by simp));have n2_:=Aside0.mk (KeepBut.blk hk (g':=gb181) (o:=.cells #[u182000] 27 (0,0)) (by (with_reducible repeat (first|refine kN ?_ _|refine kD ?_|refine kA ?_ _));refine blk_far ?_ NB181_182.out _;(with_reducible repeat (first|refine kN ?_ _|refine kD ?_|refine kA ?_ _));refine blk_far ?_ NB181_182.out _;(with_reducible repeat (first|refine kN ?_ _|refine kD ?_|refine kA ?_ _));refine blk_far ?_ NB181_182.out _;(with_reducible repeat (first|refine kN ?_ _|refine kD ?_|refine kA ?_ _));exact BK181.out) NB181_0.out (by simp));have n3_:=Aside0.mk (KeepBut.blk hk (g':=gb182) (o:=.cells #[.int .i64 t215,.slice Ao110 t216.length co110,.slice Ao111 t219.length co111] 32 (0,0)) (by (with_reducible repeat (first|refine kN ?_ _|refine kD ?_|refine kA ?_ _));refine blk_put (cs:=#[.int .i64 t215,.slice Ao110 t216.length co110,.slice none 0 0]) ?_ 2 _ rfl;(with_reducible repeat (first|refine kN ?_ _|refine kD ?_|refine kA ?_ _));refine blk_put (cs:=#[.int .i64 t215,.slice none 0 0,.slice none 0 0]) ?_ 1 _ rfl;(with_reducible repeat (first|refine kN ?_ _|refine kD ?_|refine kA ?_ _));refine blk_put (cs:=#[.int .i64 0,.slice none 0 0,.slice none 0 0]) ?_ 0 _ rfl;(with_reducible repeat (first|refine kN ?_ _|refine kD ?_|refine kA ?_ _));exact BK182.out) NB182_0.out (by simp));have n4_:=Aside0.mk (Kd.R_mono (Kd.R_keep (IsS71.apart (show IsS71 w0 _ g s0_0 t222 from by repeat (first|(with_reducible first|exact HI0.out|apply IsS71.alloc|apply IsS71.drewN|apply IsS71.drew|apply IsS71.set_1|refine IsS71.far ?_ NB0_176.out _|refine IsS71.far ?_ NB0_181.out _|refine IsS71.far ?_ NB0_182.out _)|exact HI0.out)) (by (with_reducible repeat (first|apply Kd.R_alloc|apply Kd.R_drewN|apply Kd.R_drew));exact (Kd.R_mono (Kd.R_far (p:=⟨gb182,2,none⟩) (Kd.R_far (p:=⟨gb182,1,none⟩) (Kd.R_far (p:=⟨gb182,0,none⟩) (Kd.R_types HO218.out BK182.out (by decide)) (fun _ hk=>hk.2) (.int .i64 t215)) (fun _ hk=>hk.2) (.slice Ao110 t216.length co110)) (fun _ hk=>hk.2) (.slice Ao111 t219.length co111)) (fun _ h_=>h_.1))) (by decide)) hk (fun _ h=>h.2)) (fun _ h=>h.1));have n5_:=Aside0.mk (Kd.R_mono (Kd.R_keep (IsS71.apart (show IsS71 w0 _ g s0_0 t222 from by repeat (first|(with_reducible first|exact HI0.out|apply IsS71.alloc|apply IsS71.drewN|apply IsS71.drew|apply IsS71.set_1|refine IsS71.far ?_ NB0_176.out _|refine IsS71.far ?_ NB0_181.out _|refine IsS71.far ?_ NB0_182.out _)|exact HI0.out)) (by (with_reducible repeat (first|apply Kd.R_alloc|apply Kd.R_drewN|apply Kd.R_drew));exact (Kd.R_mono (Kd.R_far (p:=⟨gb182,2,none⟩) (Kd.R_far (p:=⟨gb182,1,none⟩) (Kd.R_far (p:=⟨gb182,0,none⟩) (Kd.R_mono HO221.out (fun k_ hk=>(⟨hk,hk.2⟩:_∧k_ ≠ gb182))) (fun _ hk=>hk.2) (.int .i64 t215)) (fun _ hk=>hk.2) (.slice Ao110 t216.length co110)) (fun _ hk=>hk.2) (.slice Ao111 t219.length co111)) (fun _ h_=>h_.1))) (by decide)) hk (fun _ h=>h.2)) (fun _ h=>h.1));have n6_:=Aside0.mk (KeepBut.trans (by repeat (first|(with_reducible first|exact HK.out|apply KeepBut.set_|apply keep_drewN|apply keep_drew|apply keep_alloc|refine eF ?_ GW176.out _|refine eF ?_ GW181.out _|refine eF ?_ GW182.out _)|exact HK.out)) hk (.inl rfl));have n7_:=Aside0.mk (hb);have n8_:=Aside0.mk (hi);clear HO_182000;clear BK176;clear BK181;clear BK182;clear HO218;clear HO221;clear HK;clear HB;clear HI0;have HO_182000:=n0_;have BK176:=n1_;have BK181:=n2_;have BK182:=n3_;have HO218:=n4_;have HO221:=n5_;have HK:=n6_;have HB:=n7_;have HI0:=n8_;clear n0_ n1_ n2_ n3_ n4_ n5_ n6_ n7_ n8_;(try clear hb);(try clear hb2);(try clear hk);(try clear hi);have hnb113:=NB181_176.out;have hnc113:=NB176_181.out;have hnb114:=NB181_0.out;have hnc114:=NB0_181.out;have hcz115_0:w112.cell? ⟨gb181,0,none⟩=some (u182000):=(kC BK181.out 0).trans rfl;have hfz115_0:=kF BK181.out 0;have hcz116_0:w112.cell? ⟨gb182,0,none⟩=some (.int .i64 t215):=(kC BK182.out 0).trans rfl;have hcz116_1:w112.cell? ⟨gb182,1,none⟩=some (.slice Ao110 t216.length co110):=(kC BK182.out 1).trans rfl;have hcz116_2:w112.cell? ⟨gb182,2,none⟩=some (.slice Ao111 t219.length co111):=(kC BK182.out 2).trans rfl;have hfz116_0:=kF BK182.out 0;have hfz116_1:=kF BK182.out 1;have hfz116_2:=kF BK182.out 2)|((with_reducible refine gate_builtin (b:=.append) (xs:=#[.tmp 45,.tmp 48]) rfl ?_);at_builtin;refine Kd.R_append k34 w.heap.size rfl (.tmp 45) (.tmp 48) 25 34 (.agg #[(.bool false),(.int .i64 0),(.slice none 0 0),(.slice none 0 0)]) 64 rfl Try.underlying25 info34 rfl (by decide) (by omega) u182000 x182000_1 (⟨true,(⟨t215,t216,t219⟩:S32)⟩:S34) [.bool true,.int .i64 t215,.slice Ao110 t216.length co110,.slice Ao111 t219.length co111] (fun k_=>k_ ≠ gb182) (fun k_=>((fun k_=>k_ ≠ gb182)) k_∧some k_ ≠ (u182000:Value).ownBlock) rfl rfl ?aP (fun _ hk=>hk) ?aF ?aO (Below.refl _ _) ?aS ?aL ?_;(case aP=>exact k34_mkM _ _ _ (⟨true,(⟨t215,t216,t219⟩:S32)⟩:S34) (Kd.R_mono (Kd.R_types (Kd.R_apart' (HO218.out) (Kd.R_typed HO_182000.out) (by decide)) BK182.out (by decide)) (fun k_ hk=>⟨hk.2,hk.1.2⟩)) (Kd.R_mono (Kd.R_apart' (HO221.out) (Kd.R_typed HO_182000.out) (by decide)) (fun k_ hk=>⟨hk.1.2,hk.2⟩)));(case aF=>exact (fun k_ hk=>Kd.freshB (g:=gb182) (o:=.cells #[.int .i64 t215,.slice Ao110 t216.length co110,.slice Ao111 t219.length co111] 32 (0,0)) (by (with_reducible repeat (first|refine kN ?_ _|refine kD ?_|refine kA ?_ _));exact BK182.out) k_ hk));(case aO=>exact (by (with_reducible repeat (first|apply Kd.R_alloc|apply Kd.R_drewN|apply Kd.R_drew));exact Kd.R_mono HO_182000.out (fun _ hk=>hk.1.1.2)));(case aS=>exact (keep_size (w:=w) (g:=g) (row:=none) (by repeat (first|(with_reducible first|exact HK.out|apply KeepBut.set_|apply keep_drewN|apply keep_drew|apply keep_alloc|refine eF ?_ GW176.out _|refine eF ?_ GW181.out _|refine eF ?_ GW182.out _)|exact HK.out))));(case aL=>have:=LMc103.out;omega);intro v229 w117 ho hb hg hat;rw [← Ny228.out] at ho;have n0_:=Aside0.mk (blk_grown (g:=gb176) (o:=.cells #[.slice none 0 0] 27 (0,0)) (by (with_reducible repeat (first|refine kN ?_ _|refine kD ?_|refine kA ?_ _));exact BK176.out) hg (Kd.R_ne HO_182000.out BK176.out (by decide)));have n1_:=Aside0.mk (blk_grown (g:=gb181) (o:=.cells #[u182000] 27 (0,0)) (by (with_reducible repeat (first|refine kN ?_ _|refine kD ?_|refine kA ?_ _));exact BK181.out) hg (Kd.R_ne HO_182000.out BK181.out (by decide)));have n2_:=Aside0.mk (IsS71.grown (by repeat (first|(with_reducible first|exact HI0.out|apply IsS71.alloc|apply IsS71.drewN|apply IsS71.drew|apply IsS71.set_1|refine IsS71.far ?_ NB0_176.out _|refine IsS71.far ?_ NB0_181.out _|refine IsS71.far ?_ NB0_182.out _)|exact HI0.out)) hg (IsS71.own_ne HI0.out HO_182000.out (by decide)));have n3_:=Aside0.mk (blk_grown (g:=gb182) (o:=.cells #[.int .i64 t215,.slice Ao110 t216.length co110,.slice Ao111 t219.length co111] 32 (0,0)) (by (with_reducible repeat (first|refine kN ?_ _|refine kD ?_|refine kA ?_ _));exact BK182.out) hg (Kd.R_ne HO_182000.out BK182.out (by decide)));have n4_:=Aside0.mk (below_weaken (by repeat (first|(with_reducible first|exact HB.out|apply wA|apply wN|apply wD|refine wS ?_ (IsS71.ge HI0.out)|refine wS ?_ GE176.out|refine wS ?_ GE181.out|refine wS ?_ GE182.out)|exact HB.out)) HL.out hb);have n5_:=Aside0.mk (KeepBut.trans (by repeat (first|(with_reducible first|exact HK.out|apply KeepBut.set_|apply keep_drewN|apply keep_drew|apply keep_alloc|refine eF ?_ GW176.out _|refine eF ?_ GW181.out _|refine eF ?_ GW182.out _)|exact HK.out)) (KeepBut.of_grown hg g) (Kd.R_base2 HO_182000.out));have n6_:=Aside0.mk (ho);clear BK176;clear BK181;clear HI0;clear BK182;clear HB;clear HK;clear HO_182000;clear HO218;clear HO221;have BK176:=n0_;have BK181:=n1_;have HI0:=n2_;have BK182:=n3_;have HB:=n4_;have HK:=n5_;have HO230:=n6_;clear n0_ n1_ n2_ n3_ n4_ n5_ n6_;clear ho hb hg hat;obtain ⟨Ao118,co118,eo118⟩:=Kd.R_slice HO230.out;subst eo118;have hcz119_0:w117.cell? ⟨gb181,0,none⟩=some (u182000):=(kC BK181.out 0).trans rfl;have hfz119_0:=kF BK181.out 0))
        go_roundg k1
        case measure=>have:=HK1.out;omega
        case rel=>exact ⟨(wrap64 (x8_1+1)),(t224),(y228),(.slice Ao118 y228.length co118),(by first|rfl|(simp;done)|(simp [*];done)),H',⟨by have:=HK1.out;omega⟩,⟨by (with_reducible repeat (first|apply Kd.R_alloc|apply Kd.R_drewN|apply Kd.R_drew));exact Kd.R_mono (Kd.R_far (p:=⟨gb181,0,none⟩) (Kd.R_types HO230.out BK181.out (by decide)) (fun _ hk=>hk.2) (.slice Ao118 y228.length co118)) (fun _ hk=>trivial)⟩,⟨by (with_reducible repeat (first|refine kN ?_ _|refine kD ?_|refine kA ?_ _));refine blk_far ?_ NB176_181.out _;(with_reducible repeat (first|refine kN ?_ _|refine kD ?_|refine kA ?_ _));exact BK176.out⟩,⟨by (with_reducible repeat (first|refine kN ?_ _|refine kD ?_|refine kA ?_ _));refine blk_put (cs:=#[u182000]) ?_ 0 _ rfl;(with_reducible repeat (first|refine kN ?_ _|refine kD ?_|refine kA ?_ _));exact BK181.out⟩,⟨by repeat (first|(with_reducible first|exact HI0.out|apply IsS71.alloc|apply IsS71.drewN|apply IsS71.drew|apply IsS71.set_1|refine IsS71.far ?_ NB0_176.out _|refine IsS71.far ?_ NB0_181.out _|refine IsS71.far ?_ NB0_182.out _)|exact HI0.out)⟩,⟨by repeat (first|(with_reducible first|exact HK.out|apply KeepBut.set_|apply keep_drewN|apply keep_drew|apply keep_alloc|refine eF ?_ GW176.out _|refine eF ?_ GW181.out _|refine eF ?_ GW182.out _)|exact HK.out)⟩,⟨by repeat (first|(with_reducible first|exact HB.out|apply wA|apply wN|apply wD|refine wS ?_ (IsS71.ge HI0.out)|refine wS ?_ GE176.out|refine wS ?_ GE181.out|refine wS ?_ GE182.out)|exact HB.out)⟩⟩
       ·rw [if_neg c103] at H
        exact absurd H (by simp)
   ·rw [if_neg c9] at H
    have c9b0:decide (x8_1 < t177)=false:=decide_eq_false c9
    clear c9
    simp only [Option.some.injEq,Prod.mk.injEq] at H
    obtain ⟨rfl,rfl⟩:=H
    have hnb120:=NB181_176.out
    have hnc120:=NB176_181.out
    have hnb121:=NB181_0.out
    have hnc121:=NB0_181.out
    have hcz122_0:wr.cell? ⟨gb181,0,none⟩=some (u182000):=(kC BK181.out 0).trans rfl
    have hfz122_0:=kF BK181.out 0
    obtain ⟨Ao123,co123,eo123⟩:=Kd.R_slice HO_182000.out
    subst eo123
    have hnb124:=NB176_0.out
    have hnc124:=NB0_176.out
    have hcz125_0:wr.cell? ⟨gb176,0,none⟩=some (.slice none 0 0):=(kC BK176.out 0).trans rfl
    have hfz125_0:=kF BK176.out 0
    go_wp2
    refine bodyPost_ret (results_cell_row rfl _ _ gb176 27 #[.slice Ao123 x182000_1.length co123] (0,0) _ rfl (by (with_reducible repeat (first|refine kN ?_ _|refine kD ?_|refine kA ?_ _));refine blk_put (cs:=#[.slice none 0 0]) ?_ 0 _ rfl;(with_reducible repeat (first|refine kN ?_ _|refine kD ?_|refine kA ?_ _));exact BK176.out) Try.underlying27 rfl (by kernel_rfl)) rfl ?_
    exact ⟨_,by first|rfl|(simp [errW_none,errW_some] <;> rfl)|(simp [*,errW_none,errW_some] <;> rfl),by (with_reducible repeat (first|apply Kd.R_alloc|apply Kd.R_drewN|apply Kd.R_drew));exact Kd.R_mono (Kd.R_far (p:=⟨gb176,0,none⟩) (Kd.R_types HO_182000.out BK176.out (by decide)) (fun _ hk=>hk.2) (.slice Ao123 x182000_1.length co123)) (fun _ hk=>trivial),by repeat (first|(with_reducible first|exact HI0.out|apply IsS71.alloc|apply IsS71.drewN|apply IsS71.drew|apply IsS71.set_1|refine IsS71.far ?_ NB0_176.out _|refine IsS71.far ?_ NB0_181.out _)|exact HI0.out),by repeat (first|(with_reducible first|exact HB.out|apply wA|apply wN|apply wD|refine wS ?_ (IsS71.ge HI0.out)|refine wS ?_ GE176.out|refine wS ?_ GE181.out)|exact HB.out),by repeat (first|(with_reducible first|exact HK.out|apply KeepBut.set_|apply keep_drewN|apply keep_drew|apply keep_alloc|refine eF ?_ GW176.out _|refine eF ?_ GW181.out _)|exact HK.out)⟩
end Go.Proofs.Ytkjlcbfjllpcnaa.X
namespace Go.Proofs.Ytkjlcbfjllpcnaa.X
open Go.RowKit Go.Proofs.YtkjlcbfjllpcnaaW.PrintWords Go.Proofs.YtkjlcbfjllpcnaaW.PrintLast Go.Proofs.YtkjlcbfjllpcnaaW.PrintMore
set_option linter.unusedVariables false
def noNode (k:Int):Bool:=!(decide (0≤k) && decide (k < 10))
theorem node_eq (k:Int):threshold_node.f k=some (!noNode k):=by
 unfold threshold_node.f noNode
 by_cases h:k ≥ 0
 ·rw [if_pos h];simp [h]
 ·rw [if_neg h];simp [h]
def containsFunc_level.f (a0:List Int):Option Bool:=some (a0.any noNode)
theorem level1_calls (k:Int) (W:World):Calls Try.prog 146 #[.int .i64 k] W fun e w'=>e=.returned (.bool (noNode k))∧∃ q,w'=W.drewN q:=by
 go_enter Try.func146,Try.ntmps146
 go_wp2_with (go_at_call 95;(with_reducible refine (threshold_node.calls k (!noNode k) _ (node_eq k)).mono ?_);rintro e w' ⟨rfl,⟨nd,rfl⟩⟩)
 go_ret
 exact ⟨by simp,_,rfl⟩
theorem containsFunc_level.calls (A0:Option Addr) (c0:Nat) (l0:List Int) (r:Bool) (w:World) (hr0:Kd.C (Kd.int .i64) w A0 l0.length l0) (hc0:l0.length≤c0) (h:containsFunc_level.f l0=some r):Calls Try.prog 99 #[.slice A0 l0.length c0,.func (.func 146) #[] #[]] w fun e w'=>e=.returned (.bool r)∧Drawn0 w w':=by
 obtain rfl:=Option.some.inj h
 rcases Nat.eq_zero_or_pos l0.length with h0|h0
 ·obtain rfl:=List.eq_nil_of_length_eq_zero h0
  refine (Try.slices_ContainsFunc_empty (α:=Int) A0 c0 _ w).mono ?_
  rintro e w' ⟨rfl,rfl⟩
  exact ⟨rfl,Drawn0.refl _⟩
 ·obtain ⟨b,off,rfl,_,hc⟩:=C_ints hr0 h0
  refine (Try.slices_ContainsFunc (Value.int .i64) noNode 146 #[] (enters_of Try.func146 (by kernel_rfl) rfl) b off l0.length c0 l0 w (fun W x _=>level1_calls x W) (Nat.le_refl _) (C_max hr0) hc).mono ?_
  rintro e w' ⟨rfl,hq⟩
  rw [List.take_length]
  exact ⟨rfl,⟨hq⟩⟩
end Go.Proofs.Ytkjlcbfjllpcnaa.X
namespace Go.Proofs.Ytkjlcbfjllpcnaa.X
open Go.RowKit Go.Proofs.YtkjlcbfjllpcnaaW.PrintWords Go.Proofs.YtkjlcbfjllpcnaaW.PrintLast Go.Proofs.YtkjlcbfjllpcnaaW.PrintMore
attribute [local go_sem] max2_int min2_int max_two min_two max_three min_three max_four min_four
set_option linter.unusedVariables false
set_option linter.unusedSimpArgs false
mutual
def threshold_level.j0:Nat→Bool→Int→List Int→List (S32)→Option (Int)
 | 0,_,_,_,_=>none
 | k+1,x22,x267000,x267001,x267002=>if x22=true then (some 4) else ((containsFunc_level.f x267001).bind fun t267=>(if t267=true then (some 5) else ((nodeset_Of.f k x267001).bind fun bt268=>(if bt268.2=0 then (threshold_level.l0 k x267002 (x267002.length:Int) 0) else (some bt268.2)))))
def threshold_level.l0:Nat→List (S32)→Int→Int→Option (Int)
 | 0,_,_,_=>none
 | k+1,x36,x37,x38=>if x38 < x37 then (if 0≤x38 then (if x38 < (x36.length:Int) then ((threshold_level.f k ((rd_T32 x36 x38).f0) ((rd_T32 x36 x38).f1) ((rd_T32 x36 x38).f2)).bind fun t272=>(if t272=0 then (threshold_level.l0 k x36 x37 (wrap64 (x38+1))) else (some t272))) else (none)) else (none)) else (some 0)
def threshold_level.f:Nat→Int→List Int→List (S32)→Option (Int)
 | 0,_,_,_=>none
 | k+1,a0_0,l0_1,l0_2=>if a0_0 < 1 then (threshold_level.j0 k true a0_0 l0_1 l0_2) else (threshold_level.j0 k (decide (a0_0 > (wrap64 ((l0_1.length:Int)+(l0_2.length:Int))))) a0_0 l0_1 l0_2)
end
set_option maxHeartbeats 8000000 in
set_option maxRecDepth 100000 in
theorem threshold_level.calls (k:Nat):∀ (a0_0:Int) (A0_1:Option Addr) (c0_1:Nat) (l0_1:List Int) (A0_2:Option Addr) (c0_2:Nat) (l0_2:List (S32)) (r:Int) (w:World) (hr0_1:Kd.C (Kd.int .i64) w A0_1 l0_1.length l0_1) (hc0_1:l0_1.length≤c0_1) (hr0_2:Kd.C k32 w A0_2 l0_2.length l0_2) (hc0_2:l0_2.length≤c0_2) (h:threshold_level.f k a0_0 l0_1 l0_2=some r),
  Calls Try.prog 128 #[.agg #[.int .i64 a0_0,.slice A0_1 l0_1.length c0_1,.slice A0_2 l0_2.length c0_2]] w fun e w'=>e=.returned (.int .i64 r)∧Below w.heap.size w w':=by
 induction k using Nat.strongRecOn with
 | _ k ih =>
 intro a0_0 A0_1 c0_1 l0_1 A0_2 c0_2 l0_2 r w hr0_1 hc0_1 hr0_2 hc0_2 h
 cases k with
 | zero=>exact absurd h (by simp [threshold_level.f])
 | succ k =>
 simp only [threshold_level.f] at h
 have hu32:=Try.underlying32
 have HR0_1:=Aside0.mk hr0_1
 have HC0_1:=Aside0.mk hc0_1
 clear hr0_1 hc0_1
 have HR0_2:=Aside0.mk hr0_2
 have HC0_2:=Aside0.mk hc0_2
 clear hr0_2 hc0_2
 have HB:=Aside0.mk (Below.refl w.heap.size w)
 have H:(if a0_0 < 1 then (threshold_level.j0 k true a0_0 l0_1 l0_2) else (threshold_level.j0 k (decide (a0_0 > (wrap64 ((l0_1.length:Int)+(l0_2.length:Int))))) a0_0 l0_1 l0_2))=some r:=h
 clear h
 have HC2:=Aside0.mk H
 clear H
 go_enter Try.func128,Try.ntmps128
 go_upto_region 1 with (first|((with_reducible refine gate_dst (N:=1) rfl ?_);(try (refine gate_guard (by rfl) ?_;dsimp only));refine box_event ?hg (N:=1) ?hd (cs:=#[.int .i64 a0_0,.slice A0_1 l0_1.length c0_1,.slice A0_2 l0_2.length c0_2]) (t:=32) ?hr ?_;(case hd=>rfl);(case hg=>rfl);(case hr=>first|(go_simp;done)|(go_simp;rfl));intro gb266 hg w3 hbox hb;have n0_:=Aside0.mk (below_step (by repeat (first|(with_reducible first|exact HB.out|apply wA|apply wN|apply wD)|exact HB.out)) hb);have n1_:=Aside0.mk (hbox);have n2_:=Aside0.mk ((by rw [hg];exact (below_size (by repeat (first|(with_reducible first|exact HB.out|apply wA|apply wN|apply wD)|exact HB.out))):w.heap.size≤gb266));have n3_:=Aside0.mk ((by rw [hg];exact (below_size (by repeat (first|(with_reducible first|exact HB.out|apply wA|apply wN|apply wD)|exact HB.out))):w.heap.size≤gb266));clear HB;have HB:=n0_;have BK266:=n1_;have GW266:=n2_;have GE266:=n3_;clear n0_ n1_ n2_ n3_;clear hb hbox hg))
 (try simp only [Act.put,List.setIfInBounds_toArray,List.set_cons_zero,List.set_cons_succ])
 go_cut [22] (fun v22 wc=>∃ (kq:Nat) (x22_1:Bool),v22=.bool x22_1∧Aside0 (threshold_level.j0 kq x22_1 a0_0 l0_1 l0_2=some r)∧Aside0 (kq≤k)∧Aside0 (wc.heap[gb266]?=some (.cells #[.int .i64 a0_0,(.slice A0_1 l0_1.length c0_1),(.slice A0_2 l0_2.length c0_2)] 32 (0,0)))∧Aside0 (Below w.heap.size w wc))
 case first =>
  have H:=HC2.out
  clear HC2
  by_cases c4:a0_0 < 1
  ·rw [if_pos c4] at H
   have c4b0:decide (a0_0 < 1)=true:=decide_eq_true c4
   clear c4
   (first|rw [c4b0]|(simp only [i64_w,i32_w];rw [c4b0])|skip)
   have H':=Aside0.mk H
   clear H
   have hcz5_0:w3.cell? ⟨gb266,0,none⟩=some (.int .i64 a0_0):=(kC BK266.out 0).trans rfl
   have hcz5_1:w3.cell? ⟨gb266,1,none⟩=some (.slice A0_1 l0_1.length c0_1):=(kC BK266.out 1).trans rfl
   have hcz5_2:w3.cell? ⟨gb266,2,none⟩=some (.slice A0_2 l0_2.length c0_2):=(kC BK266.out 2).trans rfl
   have hfz5_0:=kF BK266.out 0
   have hfz5_1:=kF BK266.out 1
   have hfz5_2:=kF BK266.out 2
   go_wp2
   go_meet
   case rel=>exact ⟨_,(true),(by first|rfl|(simp;done)|(simp [*];done)),H',⟨by first|omega|exact Nat.le_refl _⟩,⟨by (with_reducible repeat (first|refine kN ?_ _|refine kD ?_|refine kA ?_ _));exact BK266.out⟩,⟨by repeat (first|(with_reducible first|exact HB.out|apply wA|apply wN|apply wD|refine wS ?_ GE266.out)|exact HB.out)⟩⟩
  ·rw [if_neg c4] at H
   have c4b0:decide (a0_0 < 1)=false:=decide_eq_false c4
   clear c4
   (first|rw [c4b0]|(simp only [i64_w,i32_w];rw [c4b0])|skip)
   have H':=Aside0.mk H
   clear H
   have hcz6_0:w3.cell? ⟨gb266,0,none⟩=some (.int .i64 a0_0):=(kC BK266.out 0).trans rfl
   have hcz6_1:w3.cell? ⟨gb266,1,none⟩=some (.slice A0_1 l0_1.length c0_1):=(kC BK266.out 1).trans rfl
   have hcz6_2:w3.cell? ⟨gb266,2,none⟩=some (.slice A0_2 l0_2.length c0_2):=(kC BK266.out 2).trans rfl
   have hfz6_0:=kF BK266.out 0
   have hfz6_1:=kF BK266.out 1
   have hfz6_2:=kF BK266.out 2
   go_wp2
   go_meet
   case rel=>exact ⟨_,(decide (a0_0 > (wrap64 ((l0_1.length:Int)+(l0_2.length:Int))))),(by first|rfl|(simp;done)|(simp [*];done)),H',⟨by first|omega|exact Nat.le_refl _⟩,⟨by (with_reducible repeat (first|refine kN ?_ _|refine kD ?_|refine kA ?_ _));exact BK266.out⟩,⟨by repeat (first|(with_reducible first|exact HB.out|apply wA|apply wN|apply wD|refine wS ?_ GE266.out)|exact HB.out)⟩⟩
 case rest =>
  clear HC2
  try clear c1
  try clear p2
  try clear c4
  try clear c4b0
  try clear p6
  try clear hcz5_0
  try clear hcz5_1
  try clear hcz5_2
  try clear hcz6_0
  try clear hcz6_1
  try clear hcz6_2
  try clear hfz5_0
  try clear hfz5_1
  try clear hfz5_2
  try clear hfz6_0
  try clear hfz6_1
  try clear hfz6_2
  obtain ⟨kq,x22_1,rfl,HA,HJ1,BK266,HB⟩:=hcut
  cases kq with
  | zero=>exact absurd HA.out (by simp [threshold_level.j0])
  | succ kj1 =>
   have H:=HA.out
   clear HA
   simp only [threshold_level.j0] at H
   by_cases c7:x22_1=true
   ·subst c7
    have H1:(some 4)=some r:=by rw [if_pos rfl] at H;exact H
    clear H
    have H:=H1
    clear H1
    obtain rfl:=Option.some.inj H
    go_wp2
    go_ret
    exact ⟨by first|rfl|(simp [errW_none,errW_some] <;> rfl)|(simp [*,errW_none,errW_some] <;> rfl),by repeat (first|(with_reducible first|exact HB.out|apply wA|apply wN|apply wD|refine wS ?_ GE266.out)|exact HB.out)⟩
   ·replace c7:=Bool.eq_false_iff.mpr c7
    subst c7
    have H1:((containsFunc_level.f l0_1).bind fun t267=>(if t267=true then (some 5) else ((nodeset_Of.f kj1 l0_1).bind fun bt268=>(if bt268.2=0 then (threshold_level.l0 kj1 l0_2 (l0_2.length:Int) 0) else (some bt268.2)))))=some r:=by rw [if_neg (show ¬ (false=true) by decide)] at H;exact H
    clear H
    have H:=H1
    clear H1
    replace H:=Option.bind_eq_some_iff.mp H
    obtain ⟨t267,A80,H⟩:=H
    replace H:(if t267=true then (some 5) else ((nodeset_Of.f kj1 l0_1).bind fun bt268=>(if bt268.2=0 then (threshold_level.l0 kj1 l0_2 (l0_2.length:Int) 0) else (some bt268.2))))=some r:=H
    have A8:=Aside0.mk A80
    clear A80
    by_cases c9:t267=true
    ·subst c9
     have H1:(some 5)=some r:=by rw [if_pos rfl] at H;exact H
     clear H
     have H:=H1
     clear H1
     obtain rfl:=Option.some.inj H
     have hcz10_0:wc.cell? ⟨gb266,0,none⟩=some (.int .i64 a0_0):=(kC BK266.out 0).trans rfl
     have hcz10_1:wc.cell? ⟨gb266,1,none⟩=some (.slice A0_1 l0_1.length c0_1):=(kC BK266.out 1).trans rfl
     have hcz10_2:wc.cell? ⟨gb266,2,none⟩=some (.slice A0_2 l0_2.length c0_2):=(kC BK266.out 2).trans rfl
     have hfz10_0:=kF BK266.out 0
     have hfz10_1:=kF BK266.out 1
     have hfz10_2:=kF BK266.out 2
     go_wp2_with (first|((with_reducible refine gate_callee (f:=99) rfl ?_);refine goesL_ (some 25) rfl rfl Try.func99 (by kernel_rfl) rfl #[.slice A0_1 l0_1.length c0_1,.func (.func 146) #[] #[]] rfl (by (try simp only [List.map_toArray,List.map_cons,List.map_nil]);first|done|rfl|(simp only [List.length_drop,List.length_take];rfl)) ?_;(with_reducible refine (containsFunc_level.calls _ _ l0_1 true _ ?side1 ?side2 A8.out).mono ?_);(case side1=>repeat (first|exact (Kd.C_below HR0_1.out HB.out)|(with_reducible refine Kd.C_alloc ?_ _)|(with_reducible refine Kd.C_drewN ?_ _)|(with_reducible refine Kd.C_drew ?_)));(case side2=>exact HC0_1.out);rintro e w' ⟨rfl,⟨nd,rfl⟩⟩;refine ⟨_,rfl,?_⟩))
     go_ret
     exact ⟨by first|rfl|(simp [errW_none,errW_some] <;> rfl)|(simp [*,errW_none,errW_some] <;> rfl),by repeat (first|(with_reducible first|exact HB.out|apply wA|apply wN|apply wD|refine wS ?_ GE266.out)|exact HB.out)⟩
    ·replace c9:=Bool.eq_false_iff.mpr c9
     subst c9
     have H1:((nodeset_Of.f kj1 l0_1).bind fun bt268=>(if bt268.2=0 then (threshold_level.l0 kj1 l0_2 (l0_2.length:Int) 0) else (some bt268.2)))=some r:=by rw [if_neg (show ¬ (false=true) by decide)] at H;exact H
     clear H
     have H:=H1
     clear H1
     replace H:=Option.bind_eq_some_iff.mp H
     obtain ⟨⟨t268,t269⟩,A110,H⟩:=H
     replace H:(if t269=0 then (threshold_level.l0 kj1 l0_2 (l0_2.length:Int) 0) else (some t269))=some r:=H
     have A11:=Aside0.mk A110
     clear A110
     by_cases c12:t269=0
     ·rw [if_pos c12] at H
      have c12b0:(t269 == 0)=true:=beq_iff_eq.mpr c12
      have c12b1:(t269 != 0)=false:=bne_eq_false_iff_eq.mpr c12
      clear c12
      have H':=Aside0.mk H
      clear H
      have hcz13_0:wc.cell? ⟨gb266,0,none⟩=some (.int .i64 a0_0):=(kC BK266.out 0).trans rfl
      have hcz13_1:wc.cell? ⟨gb266,1,none⟩=some (.slice A0_1 l0_1.length c0_1):=(kC BK266.out 1).trans rfl
      have hcz13_2:wc.cell? ⟨gb266,2,none⟩=some (.slice A0_2 l0_2.length c0_2):=(kC BK266.out 2).trans rfl
      have hfz13_0:=kF BK266.out 0
      have hfz13_1:=kF BK266.out 1
      have hfz13_2:=kF BK266.out 2
      go_wp2_with (first|((with_reducible refine gate_callee (f:=99) rfl ?_);refine goesL_ (some 25) rfl rfl Try.func99 (by kernel_rfl) rfl #[.slice A0_1 l0_1.length c0_1,.func (.func 146) #[] #[]] rfl (by (try simp only [List.map_toArray,List.map_cons,List.map_nil]);first|done|rfl|(simp only [List.length_drop,List.length_take];rfl)) ?_;(with_reducible refine (containsFunc_level.calls _ _ l0_1 false _ ?side1 ?side2 A8.out).mono ?_);(case side1=>repeat (first|exact (Kd.C_below HR0_1.out HB.out)|(with_reducible refine Kd.C_alloc ?_ _)|(with_reducible refine Kd.C_drewN ?_ _)|(with_reducible refine Kd.C_drew ?_)));(case side2=>exact HC0_1.out);rintro e w' ⟨rfl,⟨nd,rfl⟩⟩;refine ⟨_,rfl,?_⟩)|((with_reducible refine gate_callee (f:=147) rfl ?_);refine goesL_ (some 29) rfl rfl Try.func147 (by kernel_rfl) rfl #[.slice A0_1 l0_1.length c0_1] rfl (by (try simp only [List.map_toArray,List.map_cons,List.map_nil]);first|done|rfl|(simp only [List.length_drop,List.length_take];rfl)) ?_;(with_reducible refine (nodeset_Of.calls kj1 _ _ l0_1 t268 t269 _ ?side1 ?side2 A11.out).mono ?_);(case side1=>repeat (first|exact (Kd.C_below HR0_1.out (by repeat (first|(with_reducible first|exact HB.out|apply wA|apply wN|apply wD|refine wS ?_ GE266.out)|exact HB.out)))|(with_reducible refine Kd.C_alloc ?_ _)|(with_reducible refine Kd.C_drewN ?_ _)|(with_reducible refine Kd.C_drew ?_)));(case side2=>exact HC0_1.out);rintro e w' ⟨rfl,⟨nd,rfl⟩⟩;refine ⟨_,rfl,?_⟩))
      go_loopg [38] kj1 (fun kq v38 w'=>∃ (x38_2:Int),v38=.int .i64 x38_2∧Aside0 (threshold_level.l0 kq l0_2 (l0_2.length:Int) x38_2=some r)∧Aside0 (kq≤kj1)∧Aside0 (w'.heap[gb266]?=some (.cells #[.int .i64 a0_0,(.slice A0_1 l0_1.length c0_1),(.slice A0_2 l0_2.length c0_2)] 32 (0,0)))∧Aside0 (Below w.heap.size w w'))
      case atStart=>exact ⟨(0),(by first|rfl|(simp;done)|(simp [*];done)),H',⟨Nat.le_refl _⟩,⟨by (with_reducible repeat (first|refine kN ?_ _|refine kD ?_|refine kA ?_ _));exact BK266.out⟩,⟨by repeat (first|(with_reducible first|exact HB.out|apply wA|apply wN|apply wD|refine wS ?_ GE266.out)|exact HB.out)⟩⟩
      case round =>
       clear H'
       try clear c1
       try clear p2
       try clear c4
       try clear c4b0
       try clear p6
       try clear c7
       try clear c9
       try clear c12
       try clear c12b0
       try clear c12b1
       try clear hcz10_0
       try clear hcz10_1
       try clear hcz10_2
       try clear hcz13_0
       try clear hcz13_1
       try clear hcz13_2
       try clear hcz5_0
       try clear hcz5_1
       try clear hcz5_2
       try clear hcz6_0
       try clear hcz6_1
       try clear hcz6_2
       try clear hfz10_0
       try clear hfz10_1
       try clear hfz10_2
       try clear hfz13_0
       try clear hfz13_1
       try clear hfz13_2
       try clear hfz5_0
       try clear hfz5_1
       try clear hfz5_2
       try clear hfz6_0
       try clear hfz6_1
       try clear hfz6_2
       try clear p2
       try clear p6
       obtain ⟨x38_2,rfl,HA,HK2,BK266,HB⟩:=hrel
       cases gk with
       | zero=>exact absurd HA.out (by simp [threshold_level.l0])
       | succ k2 =>
        have H:=HA.out
        clear HA
        simp only [threshold_level.l0] at H
        by_cases c14:x38_2 < (l0_2.length:Int)
        ·rw [if_pos c14] at H
         have c14b0:decide (x38_2 < (l0_2.length:Int))=true:=decide_eq_true c14
         clear c14
         by_cases c15:0≤x38_2
         ·rw [if_pos c15] at H
          have c15b0:decide (0≤x38_2)=true:=decide_eq_true c15
          clear c15
          by_cases c16:x38_2 < (l0_2.length:Int)
          ·rw [if_pos c16] at H
           have c16b0:decide (x38_2 < (l0_2.length:Int))=true:=decide_eq_true c16
           clear c16
           replace H:=Option.bind_eq_some_iff.mp H
           obtain ⟨t272,A170,H⟩:=H
           replace H:(if t272=0 then (threshold_level.l0 k2 l0_2 (l0_2.length:Int) (wrap64 (x38_2+1))) else (some t272))=some r:=H
           have A17:=Aside0.mk A170
           clear A170
           by_cases c18:t272=0
           ·rw [if_pos c18] at H
            have c18b0:(t272 == 0)=true:=beq_iff_eq.mpr c18
            have c18b1:(t272 != 0)=false:=bne_eq_false_iff_eq.mpr c18
            clear c18
            have H':=Aside0.mk H
            clear H
            have p270:0≤(x38_2:Int):=of_decide_eq_true (by first|(with_reducible assumption)|assumption)
            have q270:x38_2 < (l0_2.length:Int):=of_decide_eq_true (by first|(with_reducible assumption)|assumption)
            obtain ⟨ad270,A270_1,c270_1,A270_2,c270_2,e270,hx270_0,hx270_1,hx270_2,hl270_1,hi270_1,hl270_2,hi270_2⟩:=at_T32 HR0_2.out x38_2 p270 q270
            cases e270
            replace hx270_0:=(HB.out.cell (World.block_lt_of_cell? w _ hx270_0)).trans hx270_0
            replace hx270_1:=(HB.out.cell (World.block_lt_of_cell? w _ hx270_1)).trans hx270_1
            replace hx270_2:=(HB.out.cell (World.block_lt_of_cell? w _ hx270_2)).trans hx270_2
            have HR270_1:=Aside0.mk hi270_1
            have HC270_1:=Aside0.mk hl270_1
            clear hi270_1 hl270_1
            have HR270_2:=Aside0.mk hi270_2
            have HC270_2:=Aside0.mk hl270_2
            clear hi270_2 hl270_2
            replace p270:=eq_true p270
            replace q270:=eq_true q270
            go_wp2_with (first|((with_reducible refine gate_dst (N:=6) rfl ?_);(try (refine gate_guard (by rfl) ?_;dsimp only));refine box_event ?hg (N:=6) ?hd (cs:=#[.int .i64 0,.slice none 0 0,.slice none 0 0]) (t:=32) ?hr ?_;(case hd=>rfl);(case hg=>rfl);(case hr=>first|(go_simp;done)|(go_simp;rfl));intro gb271 hg w19 hbox hb;have n0_:=Aside0.mk (blk_below (g:=gb266) (o:=.cells #[.int .i64 a0_0,.slice A0_1 l0_1.length c0_1,.slice (some ad270) l0_2.length c0_2] 32 (0,0)) (by (with_reducible repeat (first|refine kN ?_ _|refine kD ?_|refine kA ?_ _));exact BK266.out) hb);have n1_:=Aside0.mk (below_step (by repeat (first|(with_reducible first|exact HB.out|apply wA|apply wN|apply wD|refine wS ?_ GE266.out)|exact HB.out)) hb);have n2_:=Aside0.mk (hbox);have n3_:=Aside0.mk ((by rw [hg];exact (below_size (by repeat (first|(with_reducible first|exact HB.out|apply wA|apply wN|apply wD|refine wS ?_ GE266.out)|exact HB.out))):w.heap.size≤gb271));have n4_:=Aside0.mk ((by rw [hg];exact (below_size (by repeat (first|(with_reducible first|exact HB.out|apply wA|apply wN|apply wD|refine wS ?_ GE266.out)|exact HB.out))):w.heap.size≤gb271));have n5_:=Aside0.mk ((by rw [hg];exact Nat.ne_of_lt (blk_lt (g:=gb266) (o:=.cells #[.int .i64 a0_0,.slice A0_1 l0_1.length c0_1,.slice (some ad270) l0_2.length c0_2] 32 (0,0)) (by (with_reducible repeat (first|refine kN ?_ _|refine kD ?_|refine kA ?_ _));exact BK266.out)):gb266 ≠ gb271));have n6_:=Aside0.mk ((by rw [hg];exact Nat.ne_of_gt (blk_lt (g:=gb266) (o:=.cells #[.int .i64 a0_0,.slice A0_1 l0_1.length c0_1,.slice (some ad270) l0_2.length c0_2] 32 (0,0)) (by (with_reducible repeat (first|refine kN ?_ _|refine kD ?_|refine kA ?_ _));exact BK266.out)):gb271 ≠ gb266));clear BK266;clear HB;have BK266:=n0_;have HB:=n1_;have BK271:=n2_;have GW271:=n3_;have GE271:=n4_;have NB266_271:=n5_;have NB271_266:=n6_;clear n0_ n1_ n2_ n3_ n4_ n5_ n6_;clear hb hbox hg;have hnb20:=NB271_266.out;have hnc20:=NB266_271.out;have hcz21_0:w19.cell? ⟨gb271,0,none⟩=some (.int .i64 0):=(kC BK271.out 0).trans rfl;have hcz21_1:w19.cell? ⟨gb271,1,none⟩=some (.slice none 0 0):=(kC BK271.out 1).trans rfl;have hcz21_2:w19.cell? ⟨gb271,2,none⟩=some (.slice none 0 0):=(kC BK271.out 2).trans rfl;have hfz21_0:=kF BK271.out 0;have hfz21_1:=kF BK271.out 1;have hfz21_2:=kF BK271.out 2)|((with_reducible refine gate_callee (f:=128) rfl ?_);refine goesL_ (some 43) rfl rfl Try.func128 (by kernel_rfl) rfl #[.agg #[.int .i64 ((rd_T32 l0_2 x38_2).f0),.slice A270_1 ((rd_T32 l0_2 x38_2).f1).length c270_1,.slice A270_2 ((rd_T32 l0_2 x38_2).f2).length c270_2]] rfl (by (try simp only [List.map_toArray,List.map_cons,List.map_nil]);first|done|rfl|(simp only [List.length_drop,List.length_take];rfl)) ?_;(with_reducible refine (ih k2 (by have:=HJ1.out;have:=HK2.out;omega) ((rd_T32 l0_2 x38_2).f0) _ _ ((rd_T32 l0_2 x38_2).f1) _ _ ((rd_T32 l0_2 x38_2).f2) t272 _ ?side1 ?side2 ?side3 ?side4 A17.out).mono ?_);(case side1=>exact Kd.C_below HR270_1.out (by repeat (first|(with_reducible first|exact HB.out|apply wA|apply wN|apply wD|refine wS ?_ GE266.out|refine wS ?_ GE271.out)|exact HB.out)));(case side2=>exact HC270_1.out);(case side3=>exact Kd.C_below HR270_2.out (by repeat (first|(with_reducible first|exact HB.out|apply wA|apply wN|apply wD|refine wS ?_ GE266.out|refine wS ?_ GE271.out)|exact HB.out)));(case side4=>exact HC270_2.out);rintro e w22 ⟨rfl,hb⟩;refine ⟨_,rfl,?_⟩;have n0_:=Aside0.mk (blk_below (g:=gb266) (o:=.cells #[.int .i64 a0_0,.slice A0_1 l0_1.length c0_1,.slice (some ad270) l0_2.length c0_2] 32 (0,0)) (by (with_reducible repeat (first|refine kN ?_ _|refine kD ?_|refine kA ?_ _));refine blk_far ?_ NB266_271.out _;(with_reducible repeat (first|refine kN ?_ _|refine kD ?_|refine kA ?_ _));refine blk_far ?_ NB266_271.out _;(with_reducible repeat (first|refine kN ?_ _|refine kD ?_|refine kA ?_ _));refine blk_far ?_ NB266_271.out _;(with_reducible repeat (first|refine kN ?_ _|refine kD ?_|refine kA ?_ _));exact BK266.out) hb);have n1_:=Aside0.mk (blk_below (g:=gb271) (o:=.cells #[.int .i64 ((rd_T32 l0_2 x38_2).f0),.slice A270_1 ((rd_T32 l0_2 x38_2).f1).length c270_1,.slice A270_2 ((rd_T32 l0_2 x38_2).f2).length c270_2] 32 (0,0)) (by (with_reducible repeat (first|refine kN ?_ _|refine kD ?_|refine kA ?_ _));refine blk_put (cs:=#[.int .i64 ((rd_T32 l0_2 x38_2).f0),.slice A270_1 ((rd_T32 l0_2 x38_2).f1).length c270_1,.slice none 0 0]) ?_ 2 _ rfl;(with_reducible repeat (first|refine kN ?_ _|refine kD ?_|refine kA ?_ _));refine blk_put (cs:=#[.int .i64 ((rd_T32 l0_2 x38_2).f0),.slice none 0 0,.slice none 0 0]) ?_ 1 _ rfl;(with_reducible repeat (first|refine kN ?_ _|refine kD ?_|refine kA ?_ _));refine blk_put (cs:=#[.int .i64 0,.slice none 0 0,.slice none 0 0]) ?_ 0 _ rfl;(with_reducible repeat (first|refine kN ?_ _|refine kD ?_|refine kA ?_ _));exact BK271.out) hb);have n2_:=Aside0.mk (below_step (by repeat (first|(with_reducible first|exact HB.out|apply wA|apply wN|apply wD|refine wS ?_ GE266.out|refine wS ?_ GE271.out)|exact HB.out)) hb);clear BK266;clear BK271;clear HB;have BK266:=n0_;have BK271:=n1_;have HB:=n2_;clear n0_ n1_ n2_;(try clear hb);(try clear hb2);(try clear hk);(try clear hi)))
            go_roundg k2
            case measure=>have:=HJ1.out;have:=HK2.out;omega
            case rel=>exact ⟨(wrap64 (x38_2+1)),(by first|rfl|(simp;done)|(simp [*];done)),H',⟨by have:=HJ1.out;have:=HK2.out;omega⟩,⟨by (with_reducible repeat (first|refine kN ?_ _|refine kD ?_|refine kA ?_ _));exact BK266.out⟩,⟨by repeat (first|(with_reducible first|exact HB.out|apply wA|apply wN|apply wD|refine wS ?_ GE266.out|refine wS ?_ GE271.out)|exact HB.out)⟩⟩
           ·rw [if_neg c18] at H
            have c18b0:(t272 == 0)=false:=beq_eq_false_iff_ne.mpr c18
            have c18b1:(t272 != 0)=true:=bne_iff_ne.mpr c18
            obtain rfl:=Option.some.inj H
            have p270:0≤(x38_2:Int):=of_decide_eq_true (by first|(with_reducible assumption)|assumption)
            have q270:x38_2 < (l0_2.length:Int):=of_decide_eq_true (by first|(with_reducible assumption)|assumption)
            obtain ⟨ad270,A270_1,c270_1,A270_2,c270_2,e270,hx270_0,hx270_1,hx270_2,hl270_1,hi270_1,hl270_2,hi270_2⟩:=at_T32 HR0_2.out x38_2 p270 q270
            cases e270
            replace hx270_0:=(HB.out.cell (World.block_lt_of_cell? w _ hx270_0)).trans hx270_0
            replace hx270_1:=(HB.out.cell (World.block_lt_of_cell? w _ hx270_1)).trans hx270_1
            replace hx270_2:=(HB.out.cell (World.block_lt_of_cell? w _ hx270_2)).trans hx270_2
            have HR270_1:=Aside0.mk hi270_1
            have HC270_1:=Aside0.mk hl270_1
            clear hi270_1 hl270_1
            have HR270_2:=Aside0.mk hi270_2
            have HC270_2:=Aside0.mk hl270_2
            clear hi270_2 hl270_2
            replace p270:=eq_true p270
            replace q270:=eq_true q270
            go_wp2_with (first|((with_reducible refine gate_dst (N:=6) rfl ?_);(try (refine gate_guard (by rfl) ?_;dsimp only));refine box_event ?hg (N:=6) ?hd (cs:=#[.int .i64 0,.slice none 0 0,.slice none 0 0]) (t:=32) ?hr ?_;(case hd=>rfl);(case hg=>rfl);(case hr=>first|(go_simp;done)|(go_simp;rfl));intro gb271 hg w23 hbox hb;have n0_:=Aside0.mk (blk_below (g:=gb266) (o:=.cells #[.int .i64 a0_0,.slice A0_1 l0_1.length c0_1,.slice (some ad270) l0_2.length c0_2] 32 (0,0)) (by (with_reducible repeat (first|refine kN ?_ _|refine kD ?_|refine kA ?_ _));exact BK266.out) hb);have n1_:=Aside0.mk (below_step (by repeat (first|(with_reducible first|exact HB.out|apply wA|apply wN|apply wD|refine wS ?_ GE266.out)|exact HB.out)) hb);have n2_:=Aside0.mk (hbox);have n3_:=Aside0.mk ((by rw [hg];exact (below_size (by repeat (first|(with_reducible first|exact HB.out|apply wA|apply wN|apply wD|refine wS ?_ GE266.out)|exact HB.out))):w.heap.size≤gb271));have n4_:=Aside0.mk ((by rw [hg];exact (below_size (by repeat (first|(with_reducible first|exact HB.out|apply wA|apply wN|apply wD|refine wS ?_ GE266.out)|exact HB.out))):w.heap.size≤gb271));have n5_:=Aside0.mk ((by rw [hg];exact Nat.ne_of_lt (blk_lt (g:=gb266) (o:=.cells #[.int .i64 a0_0,.slice A0_1 l0_1.length c0_1,.slice (some ad270) l0_2.length c0_2] 32 (0,0)) (by (with_reducible repeat (first|refine kN ?_ _|refine kD ?_|refine kA ?_ _));exact BK266.out)):gb266 ≠ gb271));have n6_:=Aside0.mk ((by rw [hg];exact Nat.ne_of_gt (blk_lt (g:=gb266) (o:=.cells #[.int .i64 a0_0,.slice A0_1 l0_1.length c0_1,.slice (some ad270) l0_2.length c0_2] 32 (0,0)) (by (with_reducible repeat (first|refine kN ?_ _|refine kD ?_|refine kA ?_ _));exact BK266.out)):gb271 ≠ gb266));clear BK266;clear HB;have BK266:=n0_;have HB:=n1_;have BK271:=n2_;have GW271:=n3_;have GE271:=n4_;have NB266_271:=n5_;have NB271_266:=n6_;clear n0_ n1_ n2_ n3_ n4_ n5_ n6_;clear hb hbox hg;have hnb24:=NB271_266.out;have hnc24:=NB266_271.out;have hcz25_0:w23.cell? ⟨gb271,0,none⟩=some (.int .i64 0):=(kC BK271.out 0).trans rfl;have hcz25_1:w23.cell? ⟨gb271,1,none⟩=some (.slice none 0 0):=(kC BK271.out 1).trans rfl;have hcz25_2:w23.cell? ⟨gb271,2,none⟩=some (.slice none 0 0):=(kC BK271.out 2).trans rfl;have hfz25_0:=kF BK271.out 0;have hfz25_1:=kF BK271.out 1;have hfz25_2:=kF BK271.out 2)|((with_reducible refine gate_callee (f:=128) rfl ?_);refine goesL_ (some 43) rfl rfl Try.func128 (by kernel_rfl) rfl #[.agg #[.int .i64 ((rd_T32 l0_2 x38_2).f0),.slice A270_1 ((rd_T32 l0_2 x38_2).f1).length c270_1,.slice A270_2 ((rd_T32 l0_2 x38_2).f2).length c270_2]] rfl (by (try simp only [List.map_toArray,List.map_cons,List.map_nil]);first|done|rfl|(simp only [List.length_drop,List.length_take];rfl)) ?_;(with_reducible refine (ih k2 (by have:=HJ1.out;have:=HK2.out;omega) ((rd_T32 l0_2 x38_2).f0) _ _ ((rd_T32 l0_2 x38_2).f1) _ _ ((rd_T32 l0_2 x38_2).f2) t272 _ ?side1 ?side2 ?side3 ?side4 A17.out).mono ?_);(case side1=>exact Kd.C_below HR270_1.out (by repeat (first|(with_reducible first|exact HB.out|apply wA|apply wN|apply wD|refine wS ?_ GE266.out|refine wS ?_ GE271.out)|exact HB.out)));(case side2=>exact HC270_1.out);(case side3=>exact Kd.C_below HR270_2.out (by repeat (first|(with_reducible first|exact HB.out|apply wA|apply wN|apply wD|refine wS ?_ GE266.out|refine wS ?_ GE271.out)|exact HB.out)));(case side4=>exact HC270_2.out);rintro e w26 ⟨rfl,hb⟩;refine ⟨_,rfl,?_⟩;have n0_:=Aside0.mk (blk_below (g:=gb266) (o:=.cells #[.int .i64 a0_0,.slice A0_1 l0_1.length c0_1,.slice (some ad270) l0_2.length c0_2] 32 (0,0)) (by (with_reducible repeat (first|refine kN ?_ _|refine kD ?_|refine kA ?_ _));refine blk_far ?_ NB266_271.out _;(with_reducible repeat (first|refine kN ?_ _|refine kD ?_|refine kA ?_ _));refine blk_far ?_ NB266_271.out _;(with_reducible repeat (first|refine kN ?_ _|refine kD ?_|refine kA ?_ _));refine blk_far ?_ NB266_271.out _;(with_reducible repeat (first|refine kN ?_ _|refine kD ?_|refine kA ?_ _));exact BK266.out) hb);have n1_:=Aside0.mk (blk_below (g:=gb271) (o:=.cells #[.int .i64 ((rd_T32 l0_2 x38_2).f0),.slice A270_1 ((rd_T32 l0_2 x38_2).f1).length c270_1,.slice A270_2 ((rd_T32 l0_2 x38_2).f2).length c270_2] 32 (0,0)) (by (with_reducible repeat (first|refine kN ?_ _|refine kD ?_|refine kA ?_ _));refine blk_put (cs:=#[.int .i64 ((rd_T32 l0_2 x38_2).f0),.slice A270_1 ((rd_T32 l0_2 x38_2).f1).length c270_1,.slice none 0 0]) ?_ 2 _ rfl;(with_reducible repeat (first|refine kN ?_ _|refine kD ?_|refine kA ?_ _));refine blk_put (cs:=#[.int .i64 ((rd_T32 l0_2 x38_2).f0),.slice none 0 0,.slice none 0 0]) ?_ 1 _ rfl;(with_reducible repeat (first|refine kN ?_ _|refine kD ?_|refine kA ?_ _));refine blk_put (cs:=#[.int .i64 0,.slice none 0 0,.slice none 0 0]) ?_ 0 _ rfl;(with_reducible repeat (first|refine kN ?_ _|refine kD ?_|refine kA ?_ _));exact BK271.out) hb);have n2_:=Aside0.mk (below_step (by repeat (first|(with_reducible first|exact HB.out|apply wA|apply wN|apply wD|refine wS ?_ GE266.out|refine wS ?_ GE271.out)|exact HB.out)) hb);clear BK266;clear BK271;clear HB;have BK266:=n0_;have BK271:=n1_;have HB:=n2_;clear n0_ n1_ n2_;(try clear hb);(try clear hb2);(try clear hk);(try clear hi)))
            go_ret
            exact ⟨by first|rfl|(simp [errW_none,errW_some] <;> rfl)|(simp [*,errW_none,errW_some] <;> rfl),by repeat (first|(with_reducible first|exact HB.out|apply wA|apply wN|apply wD|refine wS ?_ GE266.out|refine wS ?_ GE271.out)|exact HB.out)⟩
          ·rw [if_neg c16] at H
           exact absurd H (by simp)
         ·rw [if_neg c15] at H
          exact absurd H (by simp)
        ·rw [if_neg c14] at H
         have c14b0:decide (x38_2 < (l0_2.length:Int))=false:=decide_eq_false c14
         clear c14
         obtain rfl:=Option.some.inj H
         go_wp2
         go_ret
         exact ⟨by first|rfl|(simp [errW_none,errW_some] <;> rfl)|(simp [*,errW_none,errW_some] <;> rfl),by repeat (first|(with_reducible first|exact HB.out|apply wA|apply wN|apply wD|refine wS ?_ GE266.out)|exact HB.out)⟩
     ·rw [if_neg c12] at H
      have c12b0:(t269 == 0)=false:=beq_eq_false_iff_ne.mpr c12
      have c12b1:(t269 != 0)=true:=bne_iff_ne.mpr c12
      obtain rfl:=Option.some.inj H
      have hcz27_0:wc.cell? ⟨gb266,0,none⟩=some (.int .i64 a0_0):=(kC BK266.out 0).trans rfl
      have hcz27_1:wc.cell? ⟨gb266,1,none⟩=some (.slice A0_1 l0_1.length c0_1):=(kC BK266.out 1).trans rfl
      have hcz27_2:wc.cell? ⟨gb266,2,none⟩=some (.slice A0_2 l0_2.length c0_2):=(kC BK266.out 2).trans rfl
      have hfz27_0:=kF BK266.out 0
      have hfz27_1:=kF BK266.out 1
      have hfz27_2:=kF BK266.out 2
      go_wp2_with (first|((with_reducible refine gate_callee (f:=99) rfl ?_);refine goesL_ (some 25) rfl rfl Try.func99 (by kernel_rfl) rfl #[.slice A0_1 l0_1.length c0_1,.func (.func 146) #[] #[]] rfl (by (try simp only [List.map_toArray,List.map_cons,List.map_nil]);first|done|rfl|(simp only [List.length_drop,List.length_take];rfl)) ?_;(with_reducible refine (containsFunc_level.calls _ _ l0_1 false _ ?side1 ?side2 A8.out).mono ?_);(case side1=>repeat (first|exact (Kd.C_below HR0_1.out HB.out)|(with_reducible refine Kd.C_alloc ?_ _)|(with_reducible refine Kd.C_drewN ?_ _)|(with_reducible refine Kd.C_drew ?_)));(case side2=>exact HC0_1.out);rintro e w' ⟨rfl,⟨nd,rfl⟩⟩;refine ⟨_,rfl,?_⟩)|((with_reducible refine gate_callee (f:=147) rfl ?_);refine goesL_ (some 29) rfl rfl Try.func147 (by kernel_rfl) rfl #[.slice A0_1 l0_1.length c0_1] rfl (by (try simp only [List.map_toArray,List.map_cons,List.map_nil]);first|done|rfl|(simp only [List.length_drop,List.length_take];rfl)) ?_;(with_reducible refine (nodeset_Of.calls kj1 _ _ l0_1 t268 t269 _ ?side1 ?side2 A11.out).mono ?_);(case side1=>repeat (first|exact (Kd.C_below HR0_1.out (by repeat (first|(with_reducible first|exact HB.out|apply wA|apply wN|apply wD|refine wS ?_ GE266.out)|exact HB.out)))|(with_reducible refine Kd.C_alloc ?_ _)|(with_reducible refine Kd.C_drewN ?_ _)|(with_reducible refine Kd.C_drew ?_)));(case side2=>exact HC0_1.out);rintro e w' ⟨rfl,⟨nd,rfl⟩⟩;refine ⟨_,rfl,?_⟩))
      go_ret
      exact ⟨by first|rfl|(simp [errW_none,errW_some] <;> rfl)|(simp [*,errW_none,errW_some] <;> rfl),by repeat (first|(with_reducible first|exact HB.out|apply wA|apply wN|apply wD|refine wS ?_ GE266.out)|exact HB.out)⟩
def threshold_Valid.f (k:Nat) (a0_0:Int) (l0_1:List Int) (l0_2:List (S32)):Option (Int):=(threshold_Depth.f k a0_0 l0_1 l0_2).bind fun t274=>(if t274 > 4 then (some 3) else ((threshold_Size.f k a0_0 l0_1 l0_2).bind fun t275=>(if t275 > 200 then (some 3) else ((threshold_level.f k a0_0 l0_1 l0_2).bind fun t276=>(some t276)))))
set_option maxHeartbeats 8000000 in
set_option maxRecDepth 100000 in
theorem threshold_Valid.calls (k:Nat) (a0_0:Int) (A0_1:Option Addr) (c0_1:Nat) (l0_1:List Int) (A0_2:Option Addr) (c0_2:Nat) (l0_2:List (S32)) (r:Int) (w:World) (hr0_1:Kd.C (Kd.int .i64) w A0_1 l0_1.length l0_1) (hc0_1:l0_1.length≤c0_1) (hr0_2:Kd.C k32 w A0_2 l0_2.length l0_2) (hc0_2:l0_2.length≤c0_2) (h:threshold_Valid.f k a0_0 l0_1 l0_2=some r) :
  Calls Try.prog 111 #[.agg #[.int .i64 a0_0,.slice A0_1 l0_1.length c0_1,.slice A0_2 l0_2.length c0_2]] w fun e w'=>e=.returned (.int .i64 r)∧Below w.heap.size w w':=by
 have hu32:=Try.underlying32
 have HR0_1:=Aside0.mk hr0_1
 have HC0_1:=Aside0.mk hc0_1
 clear hr0_1 hc0_1
 have HR0_2:=Aside0.mk hr0_2
 have HC0_2:=Aside0.mk hc0_2
 clear hr0_2 hc0_2
 have HB:=Aside0.mk (Below.refl w.heap.size w)
 have H:((threshold_Depth.f k a0_0 l0_1 l0_2).bind fun t274=>(if t274 > 4 then (some 3) else ((threshold_Size.f k a0_0 l0_1 l0_2).bind fun t275=>(if t275 > 200 then (some 3) else ((threshold_level.f k a0_0 l0_1 l0_2).bind fun t276=>(some t276))))))=some r:=h
 clear h
 replace H:=Option.bind_eq_some_iff.mp H
 obtain ⟨t274,A20,H⟩:=H
 replace H:(if t274 > 4 then (some 3) else ((threshold_Size.f k a0_0 l0_1 l0_2).bind fun t275=>(if t275 > 200 then (some 3) else ((threshold_level.f k a0_0 l0_1 l0_2).bind fun t276=>(some t276)))))=some r:=H
 have A2:=Aside0.mk A20
 clear A20
 by_cases c3:t274 > 4
 ·rw [if_pos c3] at H
  have c3b0:decide (4 < t274)=true:=decide_eq_true c3
  clear c3
  obtain rfl:=Option.some.inj H
  go_enter Try.func111,Try.ntmps111
  go_wp2_with (first|((with_reducible refine gate_dst (N:=1) rfl ?_);refine box_event ?hg (N:=1) ?hd (cs:=#[.int .i64 a0_0,.slice A0_1 l0_1.length c0_1,.slice A0_2 l0_2.length c0_2]) (t:=32) ?hr ?_;(case hd=>rfl);(case hg=>rfl);(case hr=>first|(go_simp;done)|(go_simp;rfl));intro gb273 hg w4 hbox hb;have n0_:=Aside0.mk (below_step (by repeat (first|(with_reducible first|exact HB.out|apply wA|apply wN|apply wD)|exact HB.out)) hb);have n1_:=Aside0.mk (hbox);have n2_:=Aside0.mk ((by rw [hg];exact (below_size (by repeat (first|(with_reducible first|exact HB.out|apply wA|apply wN|apply wD)|exact HB.out))):w.heap.size≤gb273));have n3_:=Aside0.mk ((by rw [hg];exact (below_size (by repeat (first|(with_reducible first|exact HB.out|apply wA|apply wN|apply wD)|exact HB.out))):w.heap.size≤gb273));clear HB;have HB:=n0_;have BK273:=n1_;have GW273:=n2_;have GE273:=n3_;clear n0_ n1_ n2_ n3_;clear hb hbox hg;have hcz5_0:w4.cell? ⟨gb273,0,none⟩=some (.int .i64 a0_0):=(kC BK273.out 0).trans rfl;have hcz5_1:w4.cell? ⟨gb273,1,none⟩=some (.slice A0_1 l0_1.length c0_1):=(kC BK273.out 1).trans rfl;have hcz5_2:w4.cell? ⟨gb273,2,none⟩=some (.slice A0_2 l0_2.length c0_2):=(kC BK273.out 2).trans rfl;have hfz5_0:=kF BK273.out 0;have hfz5_1:=kF BK273.out 1;have hfz5_2:=kF BK273.out 2)|((with_reducible refine gate_callee (f:=126) rfl ?_);refine goesL_ (some 4) rfl rfl Try.func126 (by kernel_rfl) rfl #[.agg #[.int .i64 a0_0,.slice A0_1 l0_1.length c0_1,.slice A0_2 l0_2.length c0_2]] rfl (by (try simp only [List.map_toArray,List.map_cons,List.map_nil]);first|done|rfl|(simp only [List.length_drop,List.length_take];rfl)) ?_;(with_reducible refine (threshold_Depth.calls k a0_0 _ _ l0_1 _ _ l0_2 t274 _ ?side1 ?side2 ?side3 ?side4 A2.out).mono ?_);(case side1=>repeat (first|exact (Kd.C_below HR0_1.out HB.out)|(with_reducible refine Kd.C_alloc ?_ _)|(with_reducible refine Kd.C_drewN ?_ _)|(with_reducible refine Kd.C_drew ?_)));(case side2=>exact HC0_1.out);(case side3=>repeat (first|exact (Kd.C_below HR0_2.out HB.out)|(with_reducible refine Kd.C_alloc ?_ _)|(with_reducible refine Kd.C_drewN ?_ _)|(with_reducible refine Kd.C_drew ?_)));(case side4=>exact HC0_2.out);rintro e w6 ⟨rfl,hb⟩;refine ⟨_,rfl,?_⟩;have n0_:=Aside0.mk (blk_below (g:=gb273) (o:=.cells #[.int .i64 a0_0,.slice A0_1 l0_1.length c0_1,.slice A0_2 l0_2.length c0_2] 32 (0,0)) (by (with_reducible repeat (first|refine kN ?_ _|refine kD ?_|refine kA ?_ _));exact BK273.out) hb);have n1_:=Aside0.mk (below_step (by repeat (first|(with_reducible first|exact HB.out|apply wA|apply wN|apply wD|refine wS ?_ GE273.out)|exact HB.out)) hb);clear BK273;clear HB;have BK273:=n0_;have HB:=n1_;clear n0_ n1_;(try clear hb);(try clear hb2);(try clear hk);(try clear hi)))
  go_ret
  exact ⟨by first|rfl|(simp [errW_none,errW_some] <;> rfl)|(simp [*,errW_none,errW_some] <;> rfl),by repeat (first|(with_reducible first|exact HB.out|apply wA|apply wN|apply wD|refine wS ?_ GE273.out)|exact HB.out)⟩
 ·rw [if_neg c3] at H
  have c3b0:decide (4 < t274)=false:=decide_eq_false c3
  clear c3
  replace H:=Option.bind_eq_some_iff.mp H
  obtain ⟨t275,A70,H⟩:=H
  replace H:(if t275 > 200 then (some 3) else ((threshold_level.f k a0_0 l0_1 l0_2).bind fun t276=>(some t276)))=some r:=H
  have A7:=Aside0.mk A70
  clear A70
  by_cases c8:t275 > 200
  ·rw [if_pos c8] at H
   have c8b0:decide (200 < t275)=true:=decide_eq_true c8
   clear c8
   obtain rfl:=Option.some.inj H
   go_enter Try.func111,Try.ntmps111
   go_wp2_with (first|((with_reducible refine gate_dst (N:=1) rfl ?_);refine box_event ?hg (N:=1) ?hd (cs:=#[.int .i64 a0_0,.slice A0_1 l0_1.length c0_1,.slice A0_2 l0_2.length c0_2]) (t:=32) ?hr ?_;(case hd=>rfl);(case hg=>rfl);(case hr=>first|(go_simp;done)|(go_simp;rfl));intro gb273 hg w9 hbox hb;have n0_:=Aside0.mk (below_step (by repeat (first|(with_reducible first|exact HB.out|apply wA|apply wN|apply wD)|exact HB.out)) hb);have n1_:=Aside0.mk (hbox);have n2_:=Aside0.mk ((by rw [hg];exact (below_size (by repeat (first|(with_reducible first|exact HB.out|apply wA|apply wN|apply wD)|exact HB.out))):w.heap.size≤gb273));have n3_:=Aside0.mk ((by rw [hg];exact (below_size (by repeat (first|(with_reducible first|exact HB.out|apply wA|apply wN|apply wD)|exact HB.out))):w.heap.size≤gb273));clear HB;have HB:=n0_;have BK273:=n1_;have GW273:=n2_;have GE273:=n3_;clear n0_ n1_ n2_ n3_;clear hb hbox hg;have hcz10_0:w9.cell? ⟨gb273,0,none⟩=some (.int .i64 a0_0):=(kC BK273.out 0).trans rfl;have hcz10_1:w9.cell? ⟨gb273,1,none⟩=some (.slice A0_1 l0_1.length c0_1):=(kC BK273.out 1).trans rfl;have hcz10_2:w9.cell? ⟨gb273,2,none⟩=some (.slice A0_2 l0_2.length c0_2):=(kC BK273.out 2).trans rfl;have hfz10_0:=kF BK273.out 0;have hfz10_1:=kF BK273.out 1;have hfz10_2:=kF BK273.out 2)|((with_reducible refine gate_callee (f:=126) rfl ?_);refine goesL_ (some 4) rfl rfl Try.func126 (by kernel_rfl) rfl #[.agg #[.int .i64 a0_0,.slice A0_1 l0_1.length c0_1,.slice A0_2 l0_2.length c0_2]] rfl (by (try simp only [List.map_toArray,List.map_cons,List.map_nil]);first|done|rfl|(simp only [List.length_drop,List.length_take];rfl)) ?_;(with_reducible refine (threshold_Depth.calls k a0_0 _ _ l0_1 _ _ l0_2 t274 _ ?side1 ?side2 ?side3 ?side4 A2.out).mono ?_);(case side1=>repeat (first|exact (Kd.C_below HR0_1.out HB.out)|(with_reducible refine Kd.C_alloc ?_ _)|(with_reducible refine Kd.C_drewN ?_ _)|(with_reducible refine Kd.C_drew ?_)));(case side2=>exact HC0_1.out);(case side3=>repeat (first|exact (Kd.C_below HR0_2.out HB.out)|(with_reducible refine Kd.C_alloc ?_ _)|(with_reducible refine Kd.C_drewN ?_ _)|(with_reducible refine Kd.C_drew ?_)));(case side4=>exact HC0_2.out);rintro e w11 ⟨rfl,hb⟩;refine ⟨_,rfl,?_⟩;have n0_:=Aside0.mk (blk_below (g:=gb273) (o:=.cells #[.int .i64 a0_0,.slice A0_1 l0_1.length c0_1,.slice A0_2 l0_2.length c0_2] 32 (0,0)) (by (with_reducible repeat (first|refine kN ?_ _|refine kD ?_|refine kA ?_ _));exact BK273.out) hb);have n1_:=Aside0.mk (below_step (by repeat (first|(with_reducible first|exact HB.out|apply wA|apply wN|apply wD|refine wS ?_ GE273.out)|exact HB.out)) hb);clear BK273;clear HB;have BK273:=n0_;have HB:=n1_;clear n0_ n1_;(try clear hb);(try clear hb2);(try clear hk);(try clear hi);have hcz12_0:w11.cell? ⟨gb273,0,none⟩=some (.int .i64 a0_0):=(kC BK273.out 0).trans rfl;have hcz12_1:w11.cell? ⟨gb273,1,none⟩=some (.slice A0_1 l0_1.length c0_1):=(kC BK273.out 1).trans rfl;have hcz12_2:w11.cell? ⟨gb273,2,none⟩=some (.slice A0_2 l0_2.length c0_2):=(kC BK273.out 2).trans rfl;have hfz12_0:=kF BK273.out 0;have hfz12_1:=kF BK273.out 1;have hfz12_2:=kF BK273.out 2)|(go_at_call 127;(with_reducible refine (threshold_Size.calls k a0_0 _ _ l0_1 _ _ l0_2 t275 _ ?side1 ?side2 ?side3 ?side4 A7.out).mono ?_);(case side1=>repeat (first|exact (Kd.C_below HR0_1.out HB.out)|(with_reducible refine Kd.C_alloc ?_ _)|(with_reducible refine Kd.C_drewN ?_ _)|(with_reducible refine Kd.C_drew ?_)));(case side2=>exact HC0_1.out);(case side3=>repeat (first|exact (Kd.C_below HR0_2.out HB.out)|(with_reducible refine Kd.C_alloc ?_ _)|(with_reducible refine Kd.C_drewN ?_ _)|(with_reducible refine Kd.C_drew ?_)));(case side4=>exact HC0_2.out);rintro e w13 ⟨rfl,hb⟩;have n0_:=Aside0.mk (blk_below (g:=gb273) (o:=.cells #[.int .i64 a0_0,.slice A0_1 l0_1.length c0_1,.slice A0_2 l0_2.length c0_2] 32 (0,0)) (by (with_reducible repeat (first|refine kN ?_ _|refine kD ?_|refine kA ?_ _));exact BK273.out) hb);have n1_:=Aside0.mk (below_step (by repeat (first|(with_reducible first|exact HB.out|apply wA|apply wN|apply wD|refine wS ?_ GE273.out)|exact HB.out)) hb);clear BK273;clear HB;have BK273:=n0_;have HB:=n1_;clear n0_ n1_;(try clear hb);(try clear hb2);(try clear hk);(try clear hi)))
   go_ret
   exact ⟨by first|rfl|(simp [errW_none,errW_some] <;> rfl)|(simp [*,errW_none,errW_some] <;> rfl),by repeat (first|(with_reducible first|exact HB.out|apply wA|apply wN|apply wD|refine wS ?_ GE273.out)|exact HB.out)⟩
  ·rw [if_neg c8] at H
   have c8b0:decide (200 < t275)=false:=decide_eq_false c8
   clear c8
   replace H:=Option.bind_eq_some_iff.mp H
   obtain ⟨t276,A140,H⟩:=H
   replace H:(some t276)=some r:=H
   have A14:=Aside0.mk A140
   clear A140
   obtain rfl:=Option.some.inj H
   go_enter Try.func111,Try.ntmps111
   go_wp2_with (first|((with_reducible refine gate_dst (N:=1) rfl ?_);refine box_event ?hg (N:=1) ?hd (cs:=#[.int .i64 a0_0,.slice A0_1 l0_1.length c0_1,.slice A0_2 l0_2.length c0_2]) (t:=32) ?hr ?_;(case hd=>rfl);(case hg=>rfl);(case hr=>first|(go_simp;done)|(go_simp;rfl));intro gb273 hg w15 hbox hb;have n0_:=Aside0.mk (below_step (by repeat (first|(with_reducible first|exact HB.out|apply wA|apply wN|apply wD)|exact HB.out)) hb);have n1_:=Aside0.mk (hbox);have n2_:=Aside0.mk ((by rw [hg];exact (below_size (by repeat (first|(with_reducible first|exact HB.out|apply wA|apply wN|apply wD)|exact HB.out))):w.heap.size≤gb273));have n3_:=Aside0.mk ((by rw [hg];exact (below_size (by repeat (first|(with_reducible first|exact HB.out|apply wA|apply wN|apply wD)|exact HB.out))):w.heap.size≤gb273));clear HB;have HB:=n0_;have BK273:=n1_;have GW273:=n2_;have GE273:=n3_;clear n0_ n1_ n2_ n3_;clear hb hbox hg;have hcz16_0:w15.cell? ⟨gb273,0,none⟩=some (.int .i64 a0_0):=(kC BK273.out 0).trans rfl;have hcz16_1:w15.cell? ⟨gb273,1,none⟩=some (.slice A0_1 l0_1.length c0_1):=(kC BK273.out 1).trans rfl;have hcz16_2:w15.cell? ⟨gb273,2,none⟩=some (.slice A0_2 l0_2.length c0_2):=(kC BK273.out 2).trans rfl;have hfz16_0:=kF BK273.out 0;have hfz16_1:=kF BK273.out 1;have hfz16_2:=kF BK273.out 2)|((with_reducible refine gate_callee (f:=126) rfl ?_);refine goesL_ (some 4) rfl rfl Try.func126 (by kernel_rfl) rfl #[.agg #[.int .i64 a0_0,.slice A0_1 l0_1.length c0_1,.slice A0_2 l0_2.length c0_2]] rfl (by (try simp only [List.map_toArray,List.map_cons,List.map_nil]);first|done|rfl|(simp only [List.length_drop,List.length_take];rfl)) ?_;(with_reducible refine (threshold_Depth.calls k a0_0 _ _ l0_1 _ _ l0_2 t274 _ ?side1 ?side2 ?side3 ?side4 A2.out).mono ?_);(case side1=>repeat (first|exact (Kd.C_below HR0_1.out HB.out)|(with_reducible refine Kd.C_alloc ?_ _)|(with_reducible refine Kd.C_drewN ?_ _)|(with_reducible refine Kd.C_drew ?_)));(case side2=>exact HC0_1.out);(case side3=>repeat (first|exact (Kd.C_below HR0_2.out HB.out)|(with_reducible refine Kd.C_alloc ?_ _)|(with_reducible refine Kd.C_drewN ?_ _)|(with_reducible refine Kd.C_drew ?_)));(case side4=>exact HC0_2.out);rintro e w17 ⟨rfl,hb⟩;refine ⟨_,rfl,?_⟩;have n0_:=Aside0.mk (blk_below (g:=gb273) (o:=.cells #[.int .i64 a0_0,.slice A0_1 l0_1.length c0_1,.slice A0_2 l0_2.length c0_2] 32 (0,0)) (by (with_reducible repeat (first|refine kN ?_ _|refine kD ?_|refine kA ?_ _));exact BK273.out) hb);have n1_:=Aside0.mk (below_step (by repeat (first|(with_reducible first|exact HB.out|apply wA|apply wN|apply wD|refine wS ?_ GE273.out)|exact HB.out)) hb);clear BK273;clear HB;have BK273:=n0_;have HB:=n1_;clear n0_ n1_;(try clear hb);(try clear hb2);(try clear hk);(try clear hi);have hcz18_0:w17.cell? ⟨gb273,0,none⟩=some (.int .i64 a0_0):=(kC BK273.out 0).trans rfl;have hcz18_1:w17.cell? ⟨gb273,1,none⟩=some (.slice A0_1 l0_1.length c0_1):=(kC BK273.out 1).trans rfl;have hcz18_2:w17.cell? ⟨gb273,2,none⟩=some (.slice A0_2 l0_2.length c0_2):=(kC BK273.out 2).trans rfl;have hfz18_0:=kF BK273.out 0;have hfz18_1:=kF BK273.out 1;have hfz18_2:=kF BK273.out 2)|(go_at_call 127;(with_reducible refine (threshold_Size.calls k a0_0 _ _ l0_1 _ _ l0_2 t275 _ ?side1 ?side2 ?side3 ?side4 A7.out).mono ?_);(case side1=>repeat (first|exact (Kd.C_below HR0_1.out HB.out)|(with_reducible refine Kd.C_alloc ?_ _)|(with_reducible refine Kd.C_drewN ?_ _)|(with_reducible refine Kd.C_drew ?_)));(case side2=>exact HC0_1.out);(case side3=>repeat (first|exact (Kd.C_below HR0_2.out HB.out)|(with_reducible refine Kd.C_alloc ?_ _)|(with_reducible refine Kd.C_drewN ?_ _)|(with_reducible refine Kd.C_drew ?_)));(case side4=>exact HC0_2.out);rintro e w19 ⟨rfl,hb⟩;have n0_:=Aside0.mk (blk_below (g:=gb273) (o:=.cells #[.int .i64 a0_0,.slice A0_1 l0_1.length c0_1,.slice A0_2 l0_2.length c0_2] 32 (0,0)) (by (with_reducible repeat (first|refine kN ?_ _|refine kD ?_|refine kA ?_ _));exact BK273.out) hb);have n1_:=Aside0.mk (below_step (by repeat (first|(with_reducible first|exact HB.out|apply wA|apply wN|apply wD|refine wS ?_ GE273.out)|exact HB.out)) hb);clear BK273;clear HB;have BK273:=n0_;have HB:=n1_;clear n0_ n1_;(try clear hb);(try clear hb2);(try clear hk);(try clear hi);have hcz20_0:w19.cell? ⟨gb273,0,none⟩=some (.int .i64 a0_0):=(kC BK273.out 0).trans rfl;have hcz20_1:w19.cell? ⟨gb273,1,none⟩=some (.slice A0_1 l0_1.length c0_1):=(kC BK273.out 1).trans rfl;have hcz20_2:w19.cell? ⟨gb273,2,none⟩=some (.slice A0_2 l0_2.length c0_2):=(kC BK273.out 2).trans rfl;have hfz20_0:=kF BK273.out 0;have hfz20_1:=kF BK273.out 1;have hfz20_2:=kF BK273.out 2)|((with_reducible refine gate_callee (f:=128) rfl ?_);refine goesL_ (some 12) rfl rfl Try.func128 (by kernel_rfl) rfl #[.agg #[.int .i64 a0_0,.slice A0_1 l0_1.length c0_1,.slice A0_2 l0_2.length c0_2]] rfl (by (try simp only [List.map_toArray,List.map_cons,List.map_nil]);first|done|rfl|(simp only [List.length_drop,List.length_take];rfl)) ?_;(with_reducible refine (threshold_level.calls k a0_0 _ _ l0_1 _ _ l0_2 t276 _ ?side1 ?side2 ?side3 ?side4 A14.out).mono ?_);(case side1=>repeat (first|exact (Kd.C_below HR0_1.out HB.out)|(with_reducible refine Kd.C_alloc ?_ _)|(with_reducible refine Kd.C_drewN ?_ _)|(with_reducible refine Kd.C_drew ?_)));(case side2=>exact HC0_1.out);(case side3=>repeat (first|exact (Kd.C_below HR0_2.out HB.out)|(with_reducible refine Kd.C_alloc ?_ _)|(with_reducible refine Kd.C_drewN ?_ _)|(with_reducible refine Kd.C_drew ?_)));(case side4=>exact HC0_2.out);rintro e w21 ⟨rfl,hb⟩;refine ⟨_,rfl,?_⟩;have n0_:=Aside0.mk (blk_below (g:=gb273) (o:=.cells #[.int .i64 a0_0,.slice A0_1 l0_1.length c0_1,.slice A0_2 l0_2.length c0_2] 32 (0,0)) (by (with_reducible repeat (first|refine kN ?_ _|refine kD ?_|refine kA ?_ _));exact BK273.out) hb);have n1_:=Aside0.mk (below_step (by repeat (first|(with_reducible first|exact HB.out|apply wA|apply wN|apply wD|refine wS ?_ GE273.out)|exact HB.out)) hb);clear BK273;clear HB;have BK273:=n0_;have HB:=n1_;clear n0_ n1_;(try clear hb);(try clear hb2);(try clear hk);(try clear hi)))
   go_ret
   exact ⟨by first|rfl|(simp [errW_none,errW_some] <;> rfl)|(simp [*,errW_none,errW_some] <;> rfl),by repeat (first|(with_reducible first|exact HB.out|apply wA|apply wN|apply wD|refine wS ?_ GE273.out)|exact HB.out)⟩
def configuration_member.f (k:Nat) (a0_0:Bool) (a0_1:Int) (l0_2:List Int) (l0_3:List (S32)) (a1:Int):Option (Int):=if a0_0=true then ((threshold_Valid.f k a0_1 l0_2 l0_3).bind fun t279=>(if t279=0 then ((threshold_Uses.f k a0_1 l0_2 l0_3).bind fun t280=>(if 0≤a1 then (if t280 ≥ (shl .i64 1 a1) then (some 5) else (some 0)) else (none))) else (some t279))) else ((configuration_blank.f a0_1 l0_2 l0_3).bind fun t278=>(if t278=true then (some 0) else (some 1)))
set_option maxHeartbeats 8000000 in
set_option maxRecDepth 100000 in
theorem configuration_member.calls (k:Nat) (a0_0:Bool) (a0_1:Int) (A0_2:Option Addr) (c0_2:Nat) (l0_2:List Int) (A0_3:Option Addr) (c0_3:Nat) (l0_3:List (S32)) (a1:Int) (r:Int) (w:World) (hr0_2:Kd.C (Kd.int .i64) w A0_2 l0_2.length l0_2) (hc0_2:l0_2.length≤c0_2) (hr0_3:Kd.C k32 w A0_3 l0_3.length l0_3) (hc0_3:l0_3.length≤c0_3) (h:configuration_member.f k a0_0 a0_1 l0_2 l0_3 a1=some r) :
  Calls Try.prog 92 #[.agg #[.bool a0_0,.int .i64 a0_1,.slice A0_2 l0_2.length c0_2,.slice A0_3 l0_3.length c0_3],.int .i64 a1] w fun e w'=>e=.returned (.int .i64 r)∧Below w.heap.size w w':=by
 have hu34:=Try.underlying34
 have hu32:=Try.underlying32
 have HR0_2:=Aside0.mk hr0_2
 have HC0_2:=Aside0.mk hc0_2
 clear hr0_2 hc0_2
 have HR0_3:=Aside0.mk hr0_3
 have HC0_3:=Aside0.mk hc0_3
 clear hr0_3 hc0_3
 have HB:=Aside0.mk (Below.refl w.heap.size w)
 have H:(if a0_0=true then ((threshold_Valid.f k a0_1 l0_2 l0_3).bind fun t279=>(if t279=0 then ((threshold_Uses.f k a0_1 l0_2 l0_3).bind fun t280=>(if 0≤a1 then (if t280 ≥ (shl .i64 1 a1) then (some 5) else (some 0)) else (none))) else (some t279))) else ((configuration_blank.f a0_1 l0_2 l0_3).bind fun t278=>(if t278=true then (some 0) else (some 1))))=some r:=h
 clear h
 by_cases c3:a0_0=true
 ·subst c3
  have H1:((threshold_Valid.f k a0_1 l0_2 l0_3).bind fun t279=>(if t279=0 then ((threshold_Uses.f k a0_1 l0_2 l0_3).bind fun t280=>(if 0≤a1 then (if t280 ≥ (shl .i64 1 a1) then (some 5) else (some 0)) else (none))) else (some t279)))=some r:=by rw [if_pos rfl] at H;exact H
  clear H
  have H:=H1
  clear H1
  replace H:=Option.bind_eq_some_iff.mp H
  obtain ⟨t279,A40,H⟩:=H
  replace H:(if t279=0 then ((threshold_Uses.f k a0_1 l0_2 l0_3).bind fun t280=>(if 0≤a1 then (if t280 ≥ (shl .i64 1 a1) then (some 5) else (some 0)) else (none))) else (some t279))=some r:=H
  have A4:=Aside0.mk A40
  clear A40
  by_cases c5:t279=0
  ·rw [if_pos c5] at H
   have c5b0:(t279 == 0)=true:=beq_iff_eq.mpr c5
   have c5b1:(t279 != 0)=false:=bne_eq_false_iff_eq.mpr c5
   clear c5
   replace H:=Option.bind_eq_some_iff.mp H
   obtain ⟨t280,A60,H⟩:=H
   replace H:(if 0≤a1 then (if t280 ≥ (shl .i64 1 a1) then (some 5) else (some 0)) else (none))=some r:=H
   have A6:=Aside0.mk A60
   clear A60
   by_cases c7:0≤a1
   ·rw [if_pos c7] at H
    have c7b0:=eq_true c7
    have c7b1:decide (0≤a1)=true:=decide_eq_true c7
    clear c7
    obtain ⟨ji8,hji8⟩:∃ j_:Int,(shl .i64 1 a1)=j_:=⟨_,rfl⟩
    replace H:(if t280 ≥ (ji8) then (some 5) else (some 0))=some r:=by first|(rw [hji8] at H;exact H)|(simp only [hji8] at H ⊢;exact H)
    (try rw [hji8] at A4)
    (try rw [hji8] at A6)
    have hji8_:(IntKind.i64.wrap (1 * 2 ^ min a1.toNat 64))=ji8:=hji8
    have hji8z:a1≤64→(IntKind.i64.wrap (1 * 2 ^ a1.toNat))=ji8:=shl_small hji8
    have hji8u:(IntKind.i64.wrap (2 ^ min a1.toNat 64))=ji8:=by have h_:=hji8_;rw [Int.one_mul] at h_;exact h_
    have hji8v:a1≤64→(IntKind.i64.wrap (2 ^ a1.toNat))=ji8:=fun hle_=>by have h_:=hji8z hle_;rw [Int.one_mul] at h_;exact h_
    have hji8y:(wrap64 (1 * 2 ^ min a1.toNat 64))=ji8:=(i64_w _).symm.trans hji8_
    have hji8x:a1≤64→(wrap64 (1 * 2 ^ a1.toNat))=ji8:=fun h_=>(i64_w _).symm.trans (hji8z h_)
    by_cases c9:t280 ≥ (ji8)
    ·rw [if_pos c9] at H
     have c9b0:decide ((ji8)≤t280)=true:=decide_eq_true c9
     clear c9
     obtain rfl:=Option.some.inj H
     go_enter Try.func92,Try.ntmps92
     try go_wp2_with (first|((with_reducible refine gate_dst (N:=2) rfl ?_);refine box_event ?hg (N:=2) ?hd (cs:=#[.bool true,.int .i64 a0_1,.slice A0_2 l0_2.length c0_2,.slice A0_3 l0_3.length c0_3]) (t:=34) ?hr ?_;(case hd=>rfl);(case hg=>rfl);(case hr=>first|(go_simp;done)|(go_simp;rfl));intro gb277 hg w10 hbox hb;have n0_:=Aside0.mk (below_step (by repeat (first|(with_reducible first|exact HB.out|apply wA|apply wN|apply wD)|exact HB.out)) hb);have n1_:=Aside0.mk (hbox);have n2_:=Aside0.mk ((by rw [hg];exact (below_size (by repeat (first|(with_reducible first|exact HB.out|apply wA|apply wN|apply wD)|exact HB.out))):w.heap.size≤gb277));have n3_:=Aside0.mk ((by rw [hg];exact (below_size (by repeat (first|(with_reducible first|exact HB.out|apply wA|apply wN|apply wD)|exact HB.out))):w.heap.size≤gb277));clear HB;have HB:=n0_;have BK277:=n1_;have GW277:=n2_;have GE277:=n3_;clear n0_ n1_ n2_ n3_;clear hb hbox hg;have hcz11_0:w10.cell? ⟨gb277,0,none⟩=some (.bool true):=(kC BK277.out 0).trans rfl;have hcz11_1:w10.cell? ⟨gb277,1,none⟩=some (.int .i64 a0_1):=(kC BK277.out 1).trans rfl;have hcz11_2:w10.cell? ⟨gb277,2,none⟩=some (.slice A0_2 l0_2.length c0_2):=(kC BK277.out 2).trans rfl;have hcz11_3:w10.cell? ⟨gb277,3,none⟩=some (.slice A0_3 l0_3.length c0_3):=(kC BK277.out 3).trans rfl;have hfz11_0:=kF BK277.out 0;have hfz11_1:=kF BK277.out 1;have hfz11_2:=kF BK277.out 2;have hfz11_3:=kF BK277.out 3)|((with_reducible refine gate_callee (f:=111) rfl ?_);refine goesL_ (some 15) rfl rfl Try.func111 (by kernel_rfl) rfl #[.agg #[.int .i64 a0_1,.slice A0_2 l0_2.length c0_2,.slice A0_3 l0_3.length c0_3]] rfl (by (try simp only [List.map_toArray,List.map_cons,List.map_nil]);first|done|rfl|(simp only [List.length_drop,List.length_take];rfl)) ?_;(with_reducible refine (threshold_Valid.calls k a0_1 _ _ l0_2 _ _ l0_3 t279 _ ?side1 ?side2 ?side3 ?side4 A4.out).mono ?_);(case side1=>repeat (first|exact (Kd.C_below HR0_2.out HB.out)|(with_reducible refine Kd.C_alloc ?_ _)|(with_reducible refine Kd.C_drewN ?_ _)|(with_reducible refine Kd.C_drew ?_)));(case side2=>exact HC0_2.out);(case side3=>repeat (first|exact (Kd.C_below HR0_3.out HB.out)|(with_reducible refine Kd.C_alloc ?_ _)|(with_reducible refine Kd.C_drewN ?_ _)|(with_reducible refine Kd.C_drew ?_)));(case side4=>exact HC0_3.out);rintro e w12 ⟨rfl,hb⟩;refine ⟨_,rfl,?_⟩;have n0_:=Aside0.mk (blk_below (g:=gb277) (o:=.cells #[.bool true,.int .i64 a0_1,.slice A0_2 l0_2.length c0_2,.slice A0_3 l0_3.length c0_3] 34 (0,0)) (by (with_reducible repeat (first|refine kN ?_ _|refine kD ?_|refine kA ?_ _));exact BK277.out) hb);have n1_:=Aside0.mk (below_step (by repeat (first|(with_reducible first|exact HB.out|apply wA|apply wN|apply wD|refine wS ?_ GE277.out)|exact HB.out)) hb);clear BK277;clear HB;have BK277:=n0_;have HB:=n1_;clear n0_ n1_;(try clear hb);(try clear hb2);(try clear hk);(try clear hi)))
     have n0_:=Aside0.mk (kD BK277.out)
     have n1_:=Aside0.mk (wD HB.out)
     clear BK277
     clear HB
     have BK277:=n0_
     have HB:=n1_
     clear n0_ n1_
     refine start_ (n:=6) (S:=fun w'=>w'.cell? ⟨gb277,0,none⟩=some (.bool true)∧w'.cell? ⟨gb277,1,none⟩=some (.int .i64 a0_1)∧w'.cell? ⟨gb277,2,none⟩=some (.slice A0_2 l0_2.length c0_2)∧w'.cell? ⟨gb277,3,none⟩=some (.slice A0_3 l0_3.length c0_3)) (ds:=[]) #[false,false,false,false,false,false] (by kernel_rfl) rfl rfl ⟨(kC BK277.out 0).trans rfl,(kC BK277.out 1).trans rfl,(kC BK277.out 2).trans rfl,(kC BK277.out 3).trans rfl⟩ (fun hHeld=>?_)
     generalize w12.drew=w13 at BK277 HB hHeld ⊢
     refine pure_ (i:=0) (N:=some 19) (v:=?_) (a':=?_) #[true,false,false,false,false,false] rfl rfl (by kernel_rfl) (fun _ _ _ h=>h) (Or.inl ⟨by rfl,?_⟩) ?_ ?_
     rotate_left
     ·intro w'
      go_simp
      with_reducible rfl
     rotate_left
     ·simp only [Act.put,List.setIfInBounds_toArray,List.set_cons_zero,List.set_cons_succ,i64_w,i32_w]
      rfl
     refine pure_ (i:=3) (N:=some 22) (v:=?_) (a':=?_) #[true,false,false,true,false,false] rfl rfl (by kernel_rfl) (fun _ _ _ h=>h) (Or.inl ⟨by rfl,?_⟩) ?_ ?_
     rotate_left
     ·intro w'
      go_simp
      with_reducible rfl
     rotate_left
     ·simp only [Act.put,List.setIfInBounds_toArray,List.set_cons_zero,List.set_cons_succ,i64_w,i32_w]
      rfl
     refine pure_ (i:=4) (N:=some 23) (v:=?_) (a':=?_) #[true,false,false,true,true,false] rfl rfl (by kernel_rfl) (fun _ _ _ h=>h) (Or.inl ⟨by rfl,?_⟩) ?_ ?_
     rotate_left
     ·intro w'
      go_simp
      with_reducible rfl
     rotate_left
     ·simp only [Act.put,List.setIfInBounds_toArray,List.set_cons_zero,List.set_cons_succ,i64_w,i32_w]
      rfl
     refine take_ (i:=1) (N:=some 20) (v:=?_) (a':=?_) #[true,true,false,true,true,false] rfl rfl (by kernel_rfl) (fun _ _ _ h=>h) (Or.inl ⟨by rfl,?_⟩) hHeld ?_ ?_
     rotate_left
     ·rintro w' ⟨s0,s1,s2,s3⟩
      go_simp
      with_reducible rfl
     rotate_left
     ·simp only [Act.put,List.setIfInBounds_toArray,List.set_cons_zero,List.set_cons_succ,i64_w,i32_w]
      rfl
     refine one_ (i:=2) (N:=some 21) #[true,true,true,true,true,false] rfl rfl (by kernel_rfl) (by decide) (fun K hK=>?_)
     refine goes_ Try.func65 (by kernel_rfl) rfl #[.agg #[.int .i64 a0_1,.slice A0_2 l0_2.length c0_2,.slice A0_3 l0_3.length c0_3]] (by rfl) rfl rfl (by (try simp only [List.map_toArray,List.map_cons,List.map_nil]);first|done|rfl|(simp only [List.length_drop,List.length_take];rfl)) ?_
     with_reducible refine (threshold_Uses.calls k a0_1 _ _ l0_2 _ _ l0_3 t280 _ ?side1 ?side2 ?side3 ?side4 A6.out).mono ?_
     (case side1=>repeat (first|exact (Kd.C_below HR0_2.out HB.out)|(with_reducible refine Kd.C_alloc ?_ _)|(with_reducible refine Kd.C_drewN ?_ _)|(with_reducible refine Kd.C_drew ?_)))
     (case side2=>exact HC0_2.out)
     (case side3=>repeat (first|exact (Kd.C_below HR0_3.out HB.out)|(with_reducible refine Kd.C_alloc ?_ _)|(with_reducible refine Kd.C_drewN ?_ _)|(with_reducible refine Kd.C_drew ?_)))
     (case side4=>exact HC0_3.out)
     rintro e w14 ⟨rfl,hb⟩
     refine ⟨_,rfl,?_⟩
     have n0_:=Aside0.mk (blk_below (g:=gb277) (o:=.cells #[.bool true,.int .i64 a0_1,.slice A0_2 l0_2.length c0_2,.slice A0_3 l0_3.length c0_3] 34 (0,0)) (by (with_reducible repeat (first|refine kN ?_ _|refine kD ?_|refine kA ?_ _));exact BK277.out) hb)
     have n1_:=Aside0.mk (below_step (by repeat (first|(with_reducible first|exact HB.out|apply wA|apply wN|apply wD|refine wS ?_ GE277.out)|exact HB.out)) hb)
     clear BK277
     clear HB
     have BK277:=n0_
     have HB:=n1_
     clear n0_ n1_
     (try clear hb)
     (try clear hb2)
     (try clear hk)
     (try clear hi)
     refine hK.out _ _ ⟨(kC BK277.out 0).trans rfl,(kC BK277.out 1).trans rfl,(kC BK277.out 2).trans rfl,(kC BK277.out 3).trans rfl⟩ (fun hHeld=>?_)
     clear hK K
     refine norm_ (a':=?_) ?_ ?_
     rotate_left
     ·show Act.put _ (some 21) _=_
      simp only [Act.put,List.setIfInBounds_toArray,List.set_cons_zero,List.set_cons_succ,i64_w,i32_w]
      rfl
     refine pure_ (i:=5) (N:=some 24) (v:=?_) (a':=?_) #[true,true,true,true,true,true] rfl rfl (by kernel_rfl) (fun _ _ _ h=>h) (Or.inl ⟨by rfl,?_⟩) ?_ ?_
     rotate_left
     ·intro w'
      go_simp
      with_reducible rfl
     rotate_left
     ·simp only [Act.put,List.setIfInBounds_toArray,List.set_cons_zero,List.set_cons_succ,i64_w,i32_w]
      rfl
     refine done_ (by kernel_rfl) ?_
     try go_wp2
     go_ret
     exact ⟨by first|rfl|(simp [errW_none,errW_some] <;> rfl)|(simp only [← hji8];first|rfl|(simp [errW_none,errW_some] <;> rfl))|(simp [*,errW_none,errW_some] <;> rfl),by repeat (first|(with_reducible first|exact HB.out|apply wA|apply wN|apply wD|refine wS ?_ GE277.out)|exact HB.out)⟩
    ·rw [if_neg c9] at H
     have c9b0:decide ((ji8)≤t280)=false:=decide_eq_false c9
     clear c9
     obtain rfl:=Option.some.inj H
     go_enter Try.func92,Try.ntmps92
     try go_wp2_with (first|((with_reducible refine gate_dst (N:=2) rfl ?_);refine box_event ?hg (N:=2) ?hd (cs:=#[.bool true,.int .i64 a0_1,.slice A0_2 l0_2.length c0_2,.slice A0_3 l0_3.length c0_3]) (t:=34) ?hr ?_;(case hd=>rfl);(case hg=>rfl);(case hr=>first|(go_simp;done)|(go_simp;rfl));intro gb277 hg w15 hbox hb;have n0_:=Aside0.mk (below_step (by repeat (first|(with_reducible first|exact HB.out|apply wA|apply wN|apply wD)|exact HB.out)) hb);have n1_:=Aside0.mk (hbox);have n2_:=Aside0.mk ((by rw [hg];exact (below_size (by repeat (first|(with_reducible first|exact HB.out|apply wA|apply wN|apply wD)|exact HB.out))):w.heap.size≤gb277));have n3_:=Aside0.mk ((by rw [hg];exact (below_size (by repeat (first|(with_reducible first|exact HB.out|apply wA|apply wN|apply wD)|exact HB.out))):w.heap.size≤gb277));clear HB;have HB:=n0_;have BK277:=n1_;have GW277:=n2_;have GE277:=n3_;clear n0_ n1_ n2_ n3_;clear hb hbox hg;have hcz16_0:w15.cell? ⟨gb277,0,none⟩=some (.bool true):=(kC BK277.out 0).trans rfl;have hcz16_1:w15.cell? ⟨gb277,1,none⟩=some (.int .i64 a0_1):=(kC BK277.out 1).trans rfl;have hcz16_2:w15.cell? ⟨gb277,2,none⟩=some (.slice A0_2 l0_2.length c0_2):=(kC BK277.out 2).trans rfl;have hcz16_3:w15.cell? ⟨gb277,3,none⟩=some (.slice A0_3 l0_3.length c0_3):=(kC BK277.out 3).trans rfl;have hfz16_0:=kF BK277.out 0;have hfz16_1:=kF BK277.out 1;have hfz16_2:=kF BK277.out 2;have hfz16_3:=kF BK277.out 3)|((with_reducible refine gate_callee (f:=111) rfl ?_);refine goesL_ (some 15) rfl rfl Try.func111 (by kernel_rfl) rfl #[.agg #[.int .i64 a0_1,.slice A0_2 l0_2.length c0_2,.slice A0_3 l0_3.length c0_3]] rfl (by (try simp only [List.map_toArray,List.map_cons,List.map_nil]);first|done|rfl|(simp only [List.length_drop,List.length_take];rfl)) ?_;(with_reducible refine (threshold_Valid.calls k a0_1 _ _ l0_2 _ _ l0_3 t279 _ ?side1 ?side2 ?side3 ?side4 A4.out).mono ?_);(case side1=>repeat (first|exact (Kd.C_below HR0_2.out HB.out)|(with_reducible refine Kd.C_alloc ?_ _)|(with_reducible refine Kd.C_drewN ?_ _)|(with_reducible refine Kd.C_drew ?_)));(case side2=>exact HC0_2.out);(case side3=>repeat (first|exact (Kd.C_below HR0_3.out HB.out)|(with_reducible refine Kd.C_alloc ?_ _)|(with_reducible refine Kd.C_drewN ?_ _)|(with_reducible refine Kd.C_drew ?_)));(case side4=>exact HC0_3.out);rintro e w17 ⟨rfl,hb⟩;refine ⟨_,rfl,?_⟩;have n0_:=Aside0.mk (blk_below (g:=gb277) (o:=.cells #[.bool true,.int .i64 a0_1,.slice A0_2 l0_2.length c0_2,.slice A0_3 l0_3.length c0_3] 34 (0,0)) (by (with_reducible repeat (first|refine kN ?_ _|refine kD ?_|refine kA ?_ _));exact BK277.out) hb);have n1_:=Aside0.mk (below_step (by repeat (first|(with_reducible first|exact HB.out|apply wA|apply wN|apply wD|refine wS ?_ GE277.out)|exact HB.out)) hb);clear BK277;clear HB;have BK277:=n0_;have HB:=n1_;clear n0_ n1_;(try clear hb);(try clear hb2);(try clear hk);(try clear hi)))
     have n0_:=Aside0.mk (kD BK277.out)
     have n1_:=Aside0.mk (wD HB.out)
     clear BK277
     clear HB
     have BK277:=n0_
     have HB:=n1_
     clear n0_ n1_
     refine start_ (n:=6) (S:=fun w'=>w'.cell? ⟨gb277,0,none⟩=some (.bool true)∧w'.cell? ⟨gb277,1,none⟩=some (.int .i64 a0_1)∧w'.cell? ⟨gb277,2,none⟩=some (.slice A0_2 l0_2.length c0_2)∧w'.cell? ⟨gb277,3,none⟩=some (.slice A0_3 l0_3.length c0_3)) (ds:=[]) #[false,false,false,false,false,false] (by kernel_rfl) rfl rfl ⟨(kC BK277.out 0).trans rfl,(kC BK277.out 1).trans rfl,(kC BK277.out 2).trans rfl,(kC BK277.out 3).trans rfl⟩ (fun hHeld=>?_)
     generalize w17.drew=w18 at BK277 HB hHeld ⊢
     refine pure_ (i:=0) (N:=some 19) (v:=?_) (a':=?_) #[true,false,false,false,false,false] rfl rfl (by kernel_rfl) (fun _ _ _ h=>h) (Or.inl ⟨by rfl,?_⟩) ?_ ?_
     rotate_left
     ·intro w'
      go_simp
      with_reducible rfl
     rotate_left
     ·simp only [Act.put,List.setIfInBounds_toArray,List.set_cons_zero,List.set_cons_succ,i64_w,i32_w]
      rfl
     refine pure_ (i:=3) (N:=some 22) (v:=?_) (a':=?_) #[true,false,false,true,false,false] rfl rfl (by kernel_rfl) (fun _ _ _ h=>h) (Or.inl ⟨by rfl,?_⟩) ?_ ?_
     rotate_left
     ·intro w'
      go_simp
      with_reducible rfl
     rotate_left
     ·simp only [Act.put,List.setIfInBounds_toArray,List.set_cons_zero,List.set_cons_succ,i64_w,i32_w]
      rfl
     refine pure_ (i:=4) (N:=some 23) (v:=?_) (a':=?_) #[true,false,false,true,true,false] rfl rfl (by kernel_rfl) (fun _ _ _ h=>h) (Or.inl ⟨by rfl,?_⟩) ?_ ?_
     rotate_left
     ·intro w'
      go_simp
      with_reducible rfl
     rotate_left
     ·simp only [Act.put,List.setIfInBounds_toArray,List.set_cons_zero,List.set_cons_succ,i64_w,i32_w]
      rfl
     refine take_ (i:=1) (N:=some 20) (v:=?_) (a':=?_) #[true,true,false,true,true,false] rfl rfl (by kernel_rfl) (fun _ _ _ h=>h) (Or.inl ⟨by rfl,?_⟩) hHeld ?_ ?_
     rotate_left
     ·rintro w' ⟨s0,s1,s2,s3⟩
      go_simp
      with_reducible rfl
     rotate_left
     ·simp only [Act.put,List.setIfInBounds_toArray,List.set_cons_zero,List.set_cons_succ,i64_w,i32_w]
      rfl
     refine one_ (i:=2) (N:=some 21) #[true,true,true,true,true,false] rfl rfl (by kernel_rfl) (by decide) (fun K hK=>?_)
     refine goes_ Try.func65 (by kernel_rfl) rfl #[.agg #[.int .i64 a0_1,.slice A0_2 l0_2.length c0_2,.slice A0_3 l0_3.length c0_3]] (by rfl) rfl rfl (by (try simp only [List.map_toArray,List.map_cons,List.map_nil]);first|done|rfl|(simp only [List.length_drop,List.length_take];rfl)) ?_
     with_reducible refine (threshold_Uses.calls k a0_1 _ _ l0_2 _ _ l0_3 t280 _ ?side1 ?side2 ?side3 ?side4 A6.out).mono ?_
     (case side1=>repeat (first|exact (Kd.C_below HR0_2.out HB.out)|(with_reducible refine Kd.C_alloc ?_ _)|(with_reducible refine Kd.C_drewN ?_ _)|(with_reducible refine Kd.C_drew ?_)))
     (case side2=>exact HC0_2.out)
     (case side3=>repeat (first|exact (Kd.C_below HR0_3.out HB.out)|(with_reducible refine Kd.C_alloc ?_ _)|(with_reducible refine Kd.C_drewN ?_ _)|(with_reducible refine Kd.C_drew ?_)))
     (case side4=>exact HC0_3.out)
     rintro e w19 ⟨rfl,hb⟩
     refine ⟨_,rfl,?_⟩
     have n0_:=Aside0.mk (blk_below (g:=gb277) (o:=.cells #[.bool true,.int .i64 a0_1,.slice A0_2 l0_2.length c0_2,.slice A0_3 l0_3.length c0_3] 34 (0,0)) (by (with_reducible repeat (first|refine kN ?_ _|refine kD ?_|refine kA ?_ _));exact BK277.out) hb)
     have n1_:=Aside0.mk (below_step (by repeat (first|(with_reducible first|exact HB.out|apply wA|apply wN|apply wD|refine wS ?_ GE277.out)|exact HB.out)) hb)
     clear BK277
     clear HB
     have BK277:=n0_
     have HB:=n1_
     clear n0_ n1_
     (try clear hb)
     (try clear hb2)
     (try clear hk)
     (try clear hi)
     refine hK.out _ _ ⟨(kC BK277.out 0).trans rfl,(kC BK277.out 1).trans rfl,(kC BK277.out 2).trans rfl,(kC BK277.out 3).trans rfl⟩ (fun hHeld=>?_)
     clear hK K
     refine norm_ (a':=?_) ?_ ?_
     rotate_left
     ·show Act.put _ (some 21) _=_
      simp only [Act.put,List.setIfInBounds_toArray,List.set_cons_zero,List.set_cons_succ,i64_w,i32_w]
      rfl
     refine pure_ (i:=5) (N:=some 24) (v:=?_) (a':=?_) #[true,true,true,true,true,true] rfl rfl (by kernel_rfl) (fun _ _ _ h=>h) (Or.inl ⟨by rfl,?_⟩) ?_ ?_
     rotate_left
     ·intro w'
      go_simp
      with_reducible rfl
     rotate_left
     ·simp only [Act.put,List.setIfInBounds_toArray,List.set_cons_zero,List.set_cons_succ,i64_w,i32_w]
      rfl
     refine done_ (by kernel_rfl) ?_
     try go_wp2
     go_ret
     exact ⟨by first|rfl|(simp [errW_none,errW_some] <;> rfl)|(simp only [← hji8];first|rfl|(simp [errW_none,errW_some] <;> rfl))|(simp [*,errW_none,errW_some] <;> rfl),by repeat (first|(with_reducible first|exact HB.out|apply wA|apply wN|apply wD|refine wS ?_ GE277.out)|exact HB.out)⟩
   ·rw [if_neg c7] at H
    exact absurd H (by simp)
  ·rw [if_neg c5] at H
   have c5b0:(t279 == 0)=false:=beq_eq_false_iff_ne.mpr c5
   have c5b1:(t279 != 0)=true:=bne_iff_ne.mpr c5
   obtain rfl:=Option.some.inj H
   go_enter Try.func92,Try.ntmps92
   go_wp2_with (first|((with_reducible refine gate_dst (N:=2) rfl ?_);refine box_event ?hg (N:=2) ?hd (cs:=#[.bool true,.int .i64 a0_1,.slice A0_2 l0_2.length c0_2,.slice A0_3 l0_3.length c0_3]) (t:=34) ?hr ?_;(case hd=>rfl);(case hg=>rfl);(case hr=>first|(go_simp;done)|(go_simp;rfl));intro gb277 hg w20 hbox hb;have n0_:=Aside0.mk (below_step (by repeat (first|(with_reducible first|exact HB.out|apply wA|apply wN|apply wD)|exact HB.out)) hb);have n1_:=Aside0.mk (hbox);have n2_:=Aside0.mk ((by rw [hg];exact (below_size (by repeat (first|(with_reducible first|exact HB.out|apply wA|apply wN|apply wD)|exact HB.out))):w.heap.size≤gb277));have n3_:=Aside0.mk ((by rw [hg];exact (below_size (by repeat (first|(with_reducible first|exact HB.out|apply wA|apply wN|apply wD)|exact HB.out))):w.heap.size≤gb277));clear HB;have HB:=n0_;have BK277:=n1_;have GW277:=n2_;have GE277:=n3_;clear n0_ n1_ n2_ n3_;clear hb hbox hg;have hcz21_0:w20.cell? ⟨gb277,0,none⟩=some (.bool true):=(kC BK277.out 0).trans rfl;have hcz21_1:w20.cell? ⟨gb277,1,none⟩=some (.int .i64 a0_1):=(kC BK277.out 1).trans rfl;have hcz21_2:w20.cell? ⟨gb277,2,none⟩=some (.slice A0_2 l0_2.length c0_2):=(kC BK277.out 2).trans rfl;have hcz21_3:w20.cell? ⟨gb277,3,none⟩=some (.slice A0_3 l0_3.length c0_3):=(kC BK277.out 3).trans rfl;have hfz21_0:=kF BK277.out 0;have hfz21_1:=kF BK277.out 1;have hfz21_2:=kF BK277.out 2;have hfz21_3:=kF BK277.out 3)|((with_reducible refine gate_callee (f:=111) rfl ?_);refine goesL_ (some 15) rfl rfl Try.func111 (by kernel_rfl) rfl #[.agg #[.int .i64 a0_1,.slice A0_2 l0_2.length c0_2,.slice A0_3 l0_3.length c0_3]] rfl (by (try simp only [List.map_toArray,List.map_cons,List.map_nil]);first|done|rfl|(simp only [List.length_drop,List.length_take];rfl)) ?_;(with_reducible refine (threshold_Valid.calls k a0_1 _ _ l0_2 _ _ l0_3 t279 _ ?side1 ?side2 ?side3 ?side4 A4.out).mono ?_);(case side1=>repeat (first|exact (Kd.C_below HR0_2.out HB.out)|(with_reducible refine Kd.C_alloc ?_ _)|(with_reducible refine Kd.C_drewN ?_ _)|(with_reducible refine Kd.C_drew ?_)));(case side2=>exact HC0_2.out);(case side3=>repeat (first|exact (Kd.C_below HR0_3.out HB.out)|(with_reducible refine Kd.C_alloc ?_ _)|(with_reducible refine Kd.C_drewN ?_ _)|(with_reducible refine Kd.C_drew ?_)));(case side4=>exact HC0_3.out);rintro e w22 ⟨rfl,hb⟩;refine ⟨_,rfl,?_⟩;have n0_:=Aside0.mk (blk_below (g:=gb277) (o:=.cells #[.bool true,.int .i64 a0_1,.slice A0_2 l0_2.length c0_2,.slice A0_3 l0_3.length c0_3] 34 (0,0)) (by (with_reducible repeat (first|refine kN ?_ _|refine kD ?_|refine kA ?_ _));exact BK277.out) hb);have n1_:=Aside0.mk (below_step (by repeat (first|(with_reducible first|exact HB.out|apply wA|apply wN|apply wD|refine wS ?_ GE277.out)|exact HB.out)) hb);clear BK277;clear HB;have BK277:=n0_;have HB:=n1_;clear n0_ n1_;(try clear hb);(try clear hb2);(try clear hk);(try clear hi)))
   go_ret
   exact ⟨by first|rfl|(simp [errW_none,errW_some] <;> rfl)|(simp [*,errW_none,errW_some] <;> rfl),by repeat (first|(with_reducible first|exact HB.out|apply wA|apply wN|apply wD|refine wS ?_ GE277.out)|exact HB.out)⟩
 ·replace c3:=Bool.eq_false_iff.mpr c3
  subst c3
  have H1:((configuration_blank.f a0_1 l0_2 l0_3).bind fun t278=>(if t278=true then (some 0) else (some 1)))=some r:=by rw [if_neg (show ¬ (false=true) by decide)] at H;exact H
  clear H
  have H:=H1
  clear H1
  replace H:=Option.bind_eq_some_iff.mp H
  obtain ⟨t278,A230,H⟩:=H
  replace H:(if t278=true then (some 0) else (some 1))=some r:=H
  have A23:=Aside0.mk A230
  clear A230
  by_cases c24:t278=true
  ·subst c24
   have H1:(some 0)=some r:=by rw [if_pos rfl] at H;exact H
   clear H
   have H:=H1
   clear H1
   obtain rfl:=Option.some.inj H
   go_enter Try.func92,Try.ntmps92
   go_wp2_with (first|((with_reducible refine gate_dst (N:=2) rfl ?_);refine box_event ?hg (N:=2) ?hd (cs:=#[.bool false,.int .i64 a0_1,.slice A0_2 l0_2.length c0_2,.slice A0_3 l0_3.length c0_3]) (t:=34) ?hr ?_;(case hd=>rfl);(case hg=>rfl);(case hr=>first|(go_simp;done)|(go_simp;rfl));intro gb277 hg w25 hbox hb;have n0_:=Aside0.mk (below_step (by repeat (first|(with_reducible first|exact HB.out|apply wA|apply wN|apply wD)|exact HB.out)) hb);have n1_:=Aside0.mk (hbox);have n2_:=Aside0.mk ((by rw [hg];exact (below_size (by repeat (first|(with_reducible first|exact HB.out|apply wA|apply wN|apply wD)|exact HB.out))):w.heap.size≤gb277));have n3_:=Aside0.mk ((by rw [hg];exact (below_size (by repeat (first|(with_reducible first|exact HB.out|apply wA|apply wN|apply wD)|exact HB.out))):w.heap.size≤gb277));clear HB;have HB:=n0_;have BK277:=n1_;have GW277:=n2_;have GE277:=n3_;clear n0_ n1_ n2_ n3_;clear hb hbox hg;have hcz26_0:w25.cell? ⟨gb277,0,none⟩=some (.bool false):=(kC BK277.out 0).trans rfl;have hcz26_1:w25.cell? ⟨gb277,1,none⟩=some (.int .i64 a0_1):=(kC BK277.out 1).trans rfl;have hcz26_2:w25.cell? ⟨gb277,2,none⟩=some (.slice A0_2 l0_2.length c0_2):=(kC BK277.out 2).trans rfl;have hcz26_3:w25.cell? ⟨gb277,3,none⟩=some (.slice A0_3 l0_3.length c0_3):=(kC BK277.out 3).trans rfl;have hfz26_0:=kF BK277.out 0;have hfz26_1:=kF BK277.out 1;have hfz26_2:=kF BK277.out 2;have hfz26_3:=kF BK277.out 3)|((with_reducible refine gate_callee (f:=110) rfl ?_);refine goesL_ (some 11) rfl rfl Try.func110 (by kernel_rfl) rfl #[.agg #[.int .i64 a0_1,.slice A0_2 l0_2.length c0_2,.slice A0_3 l0_3.length c0_3]] rfl (by (try simp only [List.map_toArray,List.map_cons,List.map_nil]);first|done|rfl|(simp only [List.length_drop,List.length_take];rfl)) ?_;(with_reducible refine (configuration_blank.calls a0_1 _ _ l0_2 _ _ l0_3 true _ ?side1 ?side2 ?side3 ?side4 A23.out).mono ?_);(case side1=>repeat (first|exact (Kd.C_below HR0_2.out HB.out)|(with_reducible refine Kd.C_alloc ?_ _)|(with_reducible refine Kd.C_drewN ?_ _)|(with_reducible refine Kd.C_drew ?_)));(case side2=>exact HC0_2.out);(case side3=>repeat (first|exact (Kd.C_below HR0_3.out HB.out)|(with_reducible refine Kd.C_alloc ?_ _)|(with_reducible refine Kd.C_drewN ?_ _)|(with_reducible refine Kd.C_drew ?_)));(case side4=>exact HC0_3.out);rintro e w27 ⟨rfl,hb⟩;refine ⟨_,rfl,?_⟩;have n0_:=Aside0.mk (blk_below (g:=gb277) (o:=.cells #[.bool false,.int .i64 a0_1,.slice A0_2 l0_2.length c0_2,.slice A0_3 l0_3.length c0_3] 34 (0,0)) (by (with_reducible repeat (first|refine kN ?_ _|refine kD ?_|refine kA ?_ _));exact BK277.out) hb);have n1_:=Aside0.mk (below_step (by repeat (first|(with_reducible first|exact HB.out|apply wA|apply wN|apply wD|refine wS ?_ GE277.out)|exact HB.out)) hb);clear BK277;clear HB;have BK277:=n0_;have HB:=n1_;clear n0_ n1_;(try clear hb);(try clear hb2);(try clear hk);(try clear hi)))
   go_ret
   exact ⟨by first|rfl|(simp [errW_none,errW_some] <;> rfl)|(simp [*,errW_none,errW_some] <;> rfl),by repeat (first|(with_reducible first|exact HB.out|apply wA|apply wN|apply wD|refine wS ?_ GE277.out)|exact HB.out)⟩
  ·replace c24:=Bool.eq_false_iff.mpr c24
   subst c24
   have H1:(some 1)=some r:=by rw [if_neg (show ¬ (false=true) by decide)] at H;exact H
   clear H
   have H:=H1
   clear H1
   obtain rfl:=Option.some.inj H
   go_enter Try.func92,Try.ntmps92
   go_wp2_with (first|((with_reducible refine gate_dst (N:=2) rfl ?_);refine box_event ?hg (N:=2) ?hd (cs:=#[.bool false,.int .i64 a0_1,.slice A0_2 l0_2.length c0_2,.slice A0_3 l0_3.length c0_3]) (t:=34) ?hr ?_;(case hd=>rfl);(case hg=>rfl);(case hr=>first|(go_simp;done)|(go_simp;rfl));intro gb277 hg w28 hbox hb;have n0_:=Aside0.mk (below_step (by repeat (first|(with_reducible first|exact HB.out|apply wA|apply wN|apply wD)|exact HB.out)) hb);have n1_:=Aside0.mk (hbox);have n2_:=Aside0.mk ((by rw [hg];exact (below_size (by repeat (first|(with_reducible first|exact HB.out|apply wA|apply wN|apply wD)|exact HB.out))):w.heap.size≤gb277));have n3_:=Aside0.mk ((by rw [hg];exact (below_size (by repeat (first|(with_reducible first|exact HB.out|apply wA|apply wN|apply wD)|exact HB.out))):w.heap.size≤gb277));clear HB;have HB:=n0_;have BK277:=n1_;have GW277:=n2_;have GE277:=n3_;clear n0_ n1_ n2_ n3_;clear hb hbox hg;have hcz29_0:w28.cell? ⟨gb277,0,none⟩=some (.bool false):=(kC BK277.out 0).trans rfl;have hcz29_1:w28.cell? ⟨gb277,1,none⟩=some (.int .i64 a0_1):=(kC BK277.out 1).trans rfl;have hcz29_2:w28.cell? ⟨gb277,2,none⟩=some (.slice A0_2 l0_2.length c0_2):=(kC BK277.out 2).trans rfl;have hcz29_3:w28.cell? ⟨gb277,3,none⟩=some (.slice A0_3 l0_3.length c0_3):=(kC BK277.out 3).trans rfl;have hfz29_0:=kF BK277.out 0;have hfz29_1:=kF BK277.out 1;have hfz29_2:=kF BK277.out 2;have hfz29_3:=kF BK277.out 3)|((with_reducible refine gate_callee (f:=110) rfl ?_);refine goesL_ (some 11) rfl rfl Try.func110 (by kernel_rfl) rfl #[.agg #[.int .i64 a0_1,.slice A0_2 l0_2.length c0_2,.slice A0_3 l0_3.length c0_3]] rfl (by (try simp only [List.map_toArray,List.map_cons,List.map_nil]);first|done|rfl|(simp only [List.length_drop,List.length_take];rfl)) ?_;(with_reducible refine (configuration_blank.calls a0_1 _ _ l0_2 _ _ l0_3 false _ ?side1 ?side2 ?side3 ?side4 A23.out).mono ?_);(case side1=>repeat (first|exact (Kd.C_below HR0_2.out HB.out)|(with_reducible refine Kd.C_alloc ?_ _)|(with_reducible refine Kd.C_drewN ?_ _)|(with_reducible refine Kd.C_drew ?_)));(case side2=>exact HC0_2.out);(case side3=>repeat (first|exact (Kd.C_below HR0_3.out HB.out)|(with_reducible refine Kd.C_alloc ?_ _)|(with_reducible refine Kd.C_drewN ?_ _)|(with_reducible refine Kd.C_drew ?_)));(case side4=>exact HC0_3.out);rintro e w30 ⟨rfl,hb⟩;refine ⟨_,rfl,?_⟩;have n0_:=Aside0.mk (blk_below (g:=gb277) (o:=.cells #[.bool false,.int .i64 a0_1,.slice A0_2 l0_2.length c0_2,.slice A0_3 l0_3.length c0_3] 34 (0,0)) (by (with_reducible repeat (first|refine kN ?_ _|refine kD ?_|refine kA ?_ _));exact BK277.out) hb);have n1_:=Aside0.mk (below_step (by repeat (first|(with_reducible first|exact HB.out|apply wA|apply wN|apply wD|refine wS ?_ GE277.out)|exact HB.out)) hb);clear BK277;clear HB;have BK277:=n0_;have HB:=n1_;clear n0_ n1_;(try clear hb);(try clear hb2);(try clear hk);(try clear hi)))
   go_ret
   exact ⟨by first|rfl|(simp [errW_none,errW_some] <;> rfl)|(simp [*,errW_none,errW_some] <;> rfl),by repeat (first|(with_reducible first|exact HB.out|apply wA|apply wN|apply wD|refine wS ?_ GE277.out)|exact HB.out)⟩
def configuration_Valid.l0:Nat→List (S34)→Int→Int→List (S34)→Option (Int)
 | 0,_,_,_,_=>none
 | k+1,x11,x12,x13,x282000=>if x13 < x12 then (if 0≤x13 then (if x13 < (x11.length:Int) then ((configuration_member.f k ((rd_T34 x11 x13).f0) ((rd_T34 x11 x13).f1.f0) ((rd_T34 x11 x13).f1.f1) ((rd_T34 x11 x13).f1.f2) (x282000.length:Int)).bind fun t284=>(if t284=0 then (configuration_Valid.l0 k x11 x12 (wrap64 (x13+1)) x282000) else (some t284))) else (none)) else (none)) else (some 0)
def configuration_Valid.f (k:Nat) (l0_0:List (S34)):Option (Int):=if (l0_0.length:Int) > 10 then (some 3) else (configuration_Valid.l0 k l0_0 (l0_0.length:Int) 0 l0_0)
set_option maxHeartbeats 8000000 in
set_option maxRecDepth 100000 in
theorem configuration_Valid.calls (k:Nat) (A0_0:Option Addr) (c0_0:Nat) (l0_0:List (S34)) (r:Int) (w:World) (hr0_0:Kd.C k34 w A0_0 l0_0.length l0_0) (hc0_0:l0_0.length≤c0_0) (h:configuration_Valid.f k l0_0=some r) :
  Calls Try.prog 63 #[.agg #[.slice A0_0 l0_0.length c0_0]] w fun e w'=>e=.returned (.int .i64 r)∧Below w.heap.size w w':=by
 have hu27:=Try.underlying27
 have hu34:=Try.underlying34
 have HR0_0:=Aside0.mk hr0_0
 have HC0_0:=Aside0.mk hc0_0
 clear hr0_0 hc0_0
 have HB:=Aside0.mk (Below.refl w.heap.size w)
 have H:(if (l0_0.length:Int) > 10 then (some 3) else (configuration_Valid.l0 k l0_0 (l0_0.length:Int) 0 l0_0))=some r:=h
 clear h
 by_cases c2:(l0_0.length:Int) > 10
 ·rw [if_pos c2] at H
  have c2b0:decide (10 < (l0_0.length:Int))=true:=decide_eq_true c2
  have c2b1:decide (10 < l0_0.length)=true:=decide_eq_true (by omega)
  clear c2
  obtain rfl:=Option.some.inj H
  go_enter Try.func63,Try.ntmps63
  go_wp2_with (first|((with_reducible refine gate_dst (N:=1) rfl ?_);refine box_event ?hg (N:=1) ?hd (cs:=#[.slice A0_0 l0_0.length c0_0]) (t:=27) ?hr ?_;(case hd=>rfl);(case hg=>rfl);(case hr=>first|(go_simp;done)|(go_simp;rfl));intro gb281 hg w3 hbox hb;have n0_:=Aside0.mk (below_step (by repeat (first|(with_reducible first|exact HB.out|apply wA|apply wN|apply wD)|exact HB.out)) hb);have n1_:=Aside0.mk (hbox);have n2_:=Aside0.mk ((by rw [hg];exact (below_size (by repeat (first|(with_reducible first|exact HB.out|apply wA|apply wN|apply wD)|exact HB.out))):w.heap.size≤gb281));have n3_:=Aside0.mk ((by rw [hg];exact (below_size (by repeat (first|(with_reducible first|exact HB.out|apply wA|apply wN|apply wD)|exact HB.out))):w.heap.size≤gb281));clear HB;have HB:=n0_;have BK281:=n1_;have GW281:=n2_;have GE281:=n3_;clear n0_ n1_ n2_ n3_;clear hb hbox hg;have hcz4_0:w3.cell? ⟨gb281,0,none⟩=some (.slice A0_0 l0_0.length c0_0):=(kC BK281.out 0).trans rfl;have hfz4_0:=kF BK281.out 0))
  go_ret
  exact ⟨by first|rfl|(simp [errW_none,errW_some] <;> rfl)|(simp [*,errW_none,errW_some] <;> rfl),by repeat (first|(with_reducible first|exact HB.out|apply wA|apply wN|apply wD|refine wS ?_ GE281.out)|exact HB.out)⟩
 ·rw [if_neg c2] at H
  have c2b0:decide (10 < (l0_0.length:Int))=false:=decide_eq_false c2
  have c2b1:decide (10 < l0_0.length)=false:=decide_eq_false (by omega)
  clear c2
  have H':=Aside0.mk H
  clear H
  go_enter Try.func63,Try.ntmps63
  go_wp2_with (first|((with_reducible refine gate_dst (N:=1) rfl ?_);refine box_event ?hg (N:=1) ?hd (cs:=#[.slice A0_0 l0_0.length c0_0]) (t:=27) ?hr ?_;(case hd=>rfl);(case hg=>rfl);(case hr=>first|(go_simp;done)|(go_simp;rfl));intro gb281 hg w5 hbox hb;have n0_:=Aside0.mk (below_step (by repeat (first|(with_reducible first|exact HB.out|apply wA|apply wN|apply wD)|exact HB.out)) hb);have n1_:=Aside0.mk (hbox);have n2_:=Aside0.mk ((by rw [hg];exact (below_size (by repeat (first|(with_reducible first|exact HB.out|apply wA|apply wN|apply wD)|exact HB.out))):w.heap.size≤gb281));have n3_:=Aside0.mk ((by rw [hg];exact (below_size (by repeat (first|(with_reducible first|exact HB.out|apply wA|apply wN|apply wD)|exact HB.out))):w.heap.size≤gb281));clear HB;have HB:=n0_;have BK281:=n1_;have GW281:=n2_;have GE281:=n3_;clear n0_ n1_ n2_ n3_;clear hb hbox hg;have hcz6_0:w5.cell? ⟨gb281,0,none⟩=some (.slice A0_0 l0_0.length c0_0):=(kC BK281.out 0).trans rfl;have hfz6_0:=kF BK281.out 0))
  go_loopg [13] k (fun kq v13 w'=>∃ (x13_1:Int),v13=.int .i64 x13_1∧Aside0 (configuration_Valid.l0 kq l0_0 (l0_0.length:Int) x13_1 l0_0=some r)∧Aside0 (kq≤k)∧Aside0 (w'.heap[gb281]?=some (.cells #[(.slice A0_0 l0_0.length c0_0)] 27 (0,0)))∧Aside0 (Below w.heap.size w w'))
  case atStart=>exact ⟨(0),(by first|rfl|(simp;done)|(simp [*];done)),H',⟨Nat.le_refl _⟩,⟨by (with_reducible repeat (first|refine kN ?_ _|refine kD ?_|refine kA ?_ _));exact BK281.out⟩,⟨by repeat (first|(with_reducible first|exact HB.out|apply wA|apply wN|apply wD|refine wS ?_ GE281.out)|exact HB.out)⟩⟩
  case round =>
   clear H'
   try clear c2
   try clear c2b0
   try clear c2b1
   try clear p2
   try clear c6
   try clear hcz4_0
   try clear hcz6_0
   try clear hfz4_0
   try clear hfz6_0
   obtain ⟨x13_1,rfl,HA,HK1,BK281,HB⟩:=hrel
   cases gk with
   | zero=>exact absurd HA.out (by simp [configuration_Valid.l0])
   | succ k1 =>
    have H:=HA.out
    clear HA
    simp only [configuration_Valid.l0] at H
    by_cases c7:x13_1 < (l0_0.length:Int)
    ·rw [if_pos c7] at H
     have c7b0:decide (x13_1 < (l0_0.length:Int))=true:=decide_eq_true c7
     clear c7
     by_cases c8:0≤x13_1
     ·rw [if_pos c8] at H
      have c8b0:decide (0≤x13_1)=true:=decide_eq_true c8
      clear c8
      by_cases c9:x13_1 < (l0_0.length:Int)
      ·rw [if_pos c9] at H
       have c9b0:decide (x13_1 < (l0_0.length:Int))=true:=decide_eq_true c9
       clear c9
       replace H:=Option.bind_eq_some_iff.mp H
       obtain ⟨t284,A100,H⟩:=H
       replace H:(if t284=0 then (configuration_Valid.l0 k1 l0_0 (l0_0.length:Int) (wrap64 (x13_1+1)) l0_0) else (some t284))=some r:=H
       have A10:=Aside0.mk A100
       clear A100
       by_cases c11:t284=0
       ·rw [if_pos c11] at H
        have c11b0:(t284 == 0)=true:=beq_iff_eq.mpr c11
        have c11b1:(t284 != 0)=false:=bne_eq_false_iff_eq.mpr c11
        clear c11
        have H':=Aside0.mk H
        clear H
        have p282:0≤(x13_1:Int):=of_decide_eq_true (by first|(with_reducible assumption)|assumption)
        have q282:x13_1 < (l0_0.length:Int):=of_decide_eq_true (by first|(with_reducible assumption)|assumption)
        obtain ⟨ad282,A282_2,c282_2,A282_3,c282_3,e282,hx282_0,hx282_1,hx282_2,hx282_3,hl282_2,hi282_2,hl282_3,hi282_3⟩:=at_T34 HR0_0.out x13_1 p282 q282
        cases e282
        replace hx282_0:=(HB.out.cell (World.block_lt_of_cell? w _ hx282_0)).trans hx282_0
        replace hx282_1:=(HB.out.cell (World.block_lt_of_cell? w _ hx282_1)).trans hx282_1
        replace hx282_2:=(HB.out.cell (World.block_lt_of_cell? w _ hx282_2)).trans hx282_2
        replace hx282_3:=(HB.out.cell (World.block_lt_of_cell? w _ hx282_3)).trans hx282_3
        have HR282_2:=Aside0.mk hi282_2
        have HC282_2:=Aside0.mk hl282_2
        clear hi282_2 hl282_2
        have HR282_3:=Aside0.mk hi282_3
        have HC282_3:=Aside0.mk hl282_3
        clear hi282_3 hl282_3
        replace p282:=eq_true p282
        replace q282:=eq_true q282
        go_wp2_with (first|((with_reducible refine gate_dst (N:=4) rfl ?_);refine box_event ?hg (N:=4) ?hd (cs:=#[.bool false,.int .i64 0,.slice none 0 0,.slice none 0 0]) (t:=34) ?hr ?_;(case hd=>rfl);(case hg=>rfl);(case hr=>first|(go_simp;done)|(go_simp;rfl));intro gb283 hg w12 hbox hb;have n0_:=Aside0.mk (blk_below (g:=gb281) (o:=.cells #[.slice (some ad282) l0_0.length c0_0] 27 (0,0)) (by (with_reducible repeat (first|refine kN ?_ _|refine kD ?_|refine kA ?_ _));exact BK281.out) hb);have n1_:=Aside0.mk (below_step (by repeat (first|(with_reducible first|exact HB.out|apply wA|apply wN|apply wD|refine wS ?_ GE281.out)|exact HB.out)) hb);have n2_:=Aside0.mk (hbox);have n3_:=Aside0.mk ((by rw [hg];exact (below_size (by repeat (first|(with_reducible first|exact HB.out|apply wA|apply wN|apply wD|refine wS ?_ GE281.out)|exact HB.out))):w.heap.size≤gb283));have n4_:=Aside0.mk ((by rw [hg];exact (below_size (by repeat (first|(with_reducible first|exact HB.out|apply wA|apply wN|apply wD|refine wS ?_ GE281.out)|exact HB.out))):w.heap.size≤gb283));have n5_:=Aside0.mk ((by rw [hg];exact Nat.ne_of_lt (blk_lt (g:=gb281) (o:=.cells #[.slice (some ad282) l0_0.length c0_0] 27 (0,0)) (by (with_reducible repeat (first|refine kN ?_ _|refine kD ?_|refine kA ?_ _));exact BK281.out)):gb281 ≠ gb283));have n6_:=Aside0.mk ((by rw [hg];exact Nat.ne_of_gt (blk_lt (g:=gb281) (o:=.cells #[.slice (some ad282) l0_0.length c0_0] 27 (0,0)) (by (with_reducible repeat (first|refine kN ?_ _|refine kD ?_|refine kA ?_ _));exact BK281.out)):gb283 ≠ gb281));clear BK281;clear HB;have BK281:=n0_;have HB:=n1_;have BK283:=n2_;have GW283:=n3_;have GE283:=n4_;have NB281_283:=n5_;have NB283_281:=n6_;clear n0_ n1_ n2_ n3_ n4_ n5_ n6_;clear hb hbox hg;have hnb13:=NB283_281.out;have hnc13:=NB281_283.out;have hcz14_0:w12.cell? ⟨gb283,0,none⟩=some (.bool false):=(kC BK283.out 0).trans rfl;have hcz14_1:w12.cell? ⟨gb283,1,none⟩=some (.int .i64 0):=(kC BK283.out 1).trans rfl;have hcz14_2:w12.cell? ⟨gb283,2,none⟩=some (.slice none 0 0):=(kC BK283.out 2).trans rfl;have hcz14_3:w12.cell? ⟨gb283,3,none⟩=some (.slice none 0 0):=(kC BK283.out 3).trans rfl;have hfz14_0:=kF BK283.out 0;have hfz14_1:=kF BK283.out 1;have hfz14_2:=kF BK283.out 2;have hfz14_3:=kF BK283.out 3;have hcz15_0:w12.cell? ⟨gb281,0,none⟩=some (.slice (some ad282) l0_0.length c0_0):=(kC BK281.out 0).trans rfl;have hfz15_0:=kF BK281.out 0)|((with_reducible refine gate_callee (f:=92) rfl ?_);refine goesL_ (some 21) rfl rfl Try.func92 (by kernel_rfl) rfl #[.agg #[.bool ((rd_T34 l0_0 x13_1).f0),.int .i64 ((rd_T34 l0_0 x13_1).f1.f0),.slice A282_2 ((rd_T34 l0_0 x13_1).f1.f1).length c282_2,.slice A282_3 ((rd_T34 l0_0 x13_1).f1.f2).length c282_3],.int .i64 (l0_0.length:Int)] rfl (by (try simp only [List.map_toArray,List.map_cons,List.map_nil]);first|done|rfl|(simp only [List.length_drop,List.length_take];rfl)) ?_;(with_reducible refine (configuration_member.calls k1 ((rd_T34 l0_0 x13_1).f0) ((rd_T34 l0_0 x13_1).f1.f0) _ _ ((rd_T34 l0_0 x13_1).f1.f1) _ _ ((rd_T34 l0_0 x13_1).f1.f2) (l0_0.length:Int) t284 _ ?side1 ?side2 ?side3 ?side4 A10.out).mono ?_);(case side1=>exact Kd.C_below HR282_2.out (by repeat (first|(with_reducible first|exact HB.out|apply wA|apply wN|apply wD|refine wS ?_ GE281.out|refine wS ?_ GE283.out)|exact HB.out)));(case side2=>exact HC282_2.out);(case side3=>exact Kd.C_below HR282_3.out (by repeat (first|(with_reducible first|exact HB.out|apply wA|apply wN|apply wD|refine wS ?_ GE281.out|refine wS ?_ GE283.out)|exact HB.out)));(case side4=>exact HC282_3.out);rintro e w16 ⟨rfl,hb⟩;refine ⟨_,rfl,?_⟩;have n0_:=Aside0.mk (blk_below (g:=gb281) (o:=.cells #[.slice (some ad282) l0_0.length c0_0] 27 (0,0)) (by (with_reducible repeat (first|refine kN ?_ _|refine kD ?_|refine kA ?_ _));refine blk_far ?_ NB281_283.out _;(with_reducible repeat (first|refine kN ?_ _|refine kD ?_|refine kA ?_ _));refine blk_far ?_ NB281_283.out _;(with_reducible repeat (first|refine kN ?_ _|refine kD ?_|refine kA ?_ _));refine blk_far ?_ NB281_283.out _;(with_reducible repeat (first|refine kN ?_ _|refine kD ?_|refine kA ?_ _));refine blk_far ?_ NB281_283.out _;(with_reducible repeat (first|refine kN ?_ _|refine kD ?_|refine kA ?_ _));exact BK281.out) hb);have n1_:=Aside0.mk (blk_below (g:=gb283) (o:=.cells #[.bool ((rd_T34 l0_0 x13_1).f0),.int .i64 ((rd_T34 l0_0 x13_1).f1.f0),.slice A282_2 ((rd_T34 l0_0 x13_1).f1.f1).length c282_2,.slice A282_3 ((rd_T34 l0_0 x13_1).f1.f2).length c282_3] 34 (0,0)) (by (with_reducible repeat (first|refine kN ?_ _|refine kD ?_|refine kA ?_ _));refine blk_put (cs:=#[.bool ((rd_T34 l0_0 x13_1).f0),.int .i64 ((rd_T34 l0_0 x13_1).f1.f0),.slice A282_2 ((rd_T34 l0_0 x13_1).f1.f1).length c282_2,.slice none 0 0]) ?_ 3 _ rfl;(with_reducible repeat (first|refine kN ?_ _|refine kD ?_|refine kA ?_ _));refine blk_put (cs:=#[.bool ((rd_T34 l0_0 x13_1).f0),.int .i64 ((rd_T34 l0_0 x13_1).f1.f0),.slice none 0 0,.slice none 0 0]) ?_ 2 _ rfl;(with_reducible repeat (first|refine kN ?_ _|refine kD ?_|refine kA ?_ _));refine blk_put (cs:=#[.bool ((rd_T34 l0_0 x13_1).f0),.int .i64 0,.slice none 0 0,.slice none 0 0]) ?_ 1 _ rfl;(with_reducible repeat (first|refine kN ?_ _|refine kD ?_|refine kA ?_ _));refine blk_put (cs:=#[.bool false,.int .i64 0,.slice none 0 0,.slice none 0 0]) ?_ 0 _ rfl;(with_reducible repeat (first|refine kN ?_ _|refine kD ?_|refine kA ?_ _));exact BK283.out) hb);have n2_:=Aside0.mk (below_step (by repeat (first|(with_reducible first|exact HB.out|apply wA|apply wN|apply wD|refine wS ?_ GE281.out|refine wS ?_ GE283.out)|exact HB.out)) hb);clear BK281;clear BK283;clear HB;have BK281:=n0_;have BK283:=n1_;have HB:=n2_;clear n0_ n1_ n2_;(try clear hb);(try clear hb2);(try clear hk);(try clear hi)))
        go_roundg k1
        case measure=>have:=HK1.out;omega
        case rel=>exact ⟨(wrap64 (x13_1+1)),(by first|rfl|(simp;done)|(simp [*];done)),H',⟨by have:=HK1.out;omega⟩,⟨by (with_reducible repeat (first|refine kN ?_ _|refine kD ?_|refine kA ?_ _));exact BK281.out⟩,⟨by repeat (first|(with_reducible first|exact HB.out|apply wA|apply wN|apply wD|refine wS ?_ GE281.out|refine wS ?_ GE283.out)|exact HB.out)⟩⟩
       ·rw [if_neg c11] at H
        have c11b0:(t284 == 0)=false:=beq_eq_false_iff_ne.mpr c11
        have c11b1:(t284 != 0)=true:=bne_iff_ne.mpr c11
        obtain rfl:=Option.some.inj H
        have p282:0≤(x13_1:Int):=of_decide_eq_true (by first|(with_reducible assumption)|assumption)
        have q282:x13_1 < (l0_0.length:Int):=of_decide_eq_true (by first|(with_reducible assumption)|assumption)
        obtain ⟨ad282,A282_2,c282_2,A282_3,c282_3,e282,hx282_0,hx282_1,hx282_2,hx282_3,hl282_2,hi282_2,hl282_3,hi282_3⟩:=at_T34 HR0_0.out x13_1 p282 q282
        cases e282
        replace hx282_0:=(HB.out.cell (World.block_lt_of_cell? w _ hx282_0)).trans hx282_0
        replace hx282_1:=(HB.out.cell (World.block_lt_of_cell? w _ hx282_1)).trans hx282_1
        replace hx282_2:=(HB.out.cell (World.block_lt_of_cell? w _ hx282_2)).trans hx282_2
        replace hx282_3:=(HB.out.cell (World.block_lt_of_cell? w _ hx282_3)).trans hx282_3
        have HR282_2:=Aside0.mk hi282_2
        have HC282_2:=Aside0.mk hl282_2
        clear hi282_2 hl282_2
        have HR282_3:=Aside0.mk hi282_3
        have HC282_3:=Aside0.mk hl282_3
        clear hi282_3 hl282_3
        replace p282:=eq_true p282
        replace q282:=eq_true q282
        go_wp2_with (first|((with_reducible refine gate_dst (N:=4) rfl ?_);refine box_event ?hg (N:=4) ?hd (cs:=#[.bool false,.int .i64 0,.slice none 0 0,.slice none 0 0]) (t:=34) ?hr ?_;(case hd=>rfl);(case hg=>rfl);(case hr=>first|(go_simp;done)|(go_simp;rfl));intro gb283 hg w17 hbox hb;have n0_:=Aside0.mk (blk_below (g:=gb281) (o:=.cells #[.slice (some ad282) l0_0.length c0_0] 27 (0,0)) (by (with_reducible repeat (first|refine kN ?_ _|refine kD ?_|refine kA ?_ _));exact BK281.out) hb);have n1_:=Aside0.mk (below_step (by repeat (first|(with_reducible first|exact HB.out|apply wA|apply wN|apply wD|refine wS ?_ GE281.out)|exact HB.out)) hb);have n2_:=Aside0.mk (hbox);have n3_:=Aside0.mk ((by rw [hg];exact (below_size (by repeat (first|(with_reducible first|exact HB.out|apply wA|apply wN|apply wD|refine wS ?_ GE281.out)|exact HB.out))):w.heap.size≤gb283));have n4_:=Aside0.mk ((by rw [hg];exact (below_size (by repeat (first|(with_reducible first|exact HB.out|apply wA|apply wN|apply wD|refine wS ?_ GE281.out)|exact HB.out))):w.heap.size≤gb283));have n5_:=Aside0.mk ((by rw [hg];exact Nat.ne_of_lt (blk_lt (g:=gb281) (o:=.cells #[.slice (some ad282) l0_0.length c0_0] 27 (0,0)) (by (with_reducible repeat (first|refine kN ?_ _|refine kD ?_|refine kA ?_ _));exact BK281.out)):gb281 ≠ gb283));have n6_:=Aside0.mk ((by rw [hg];exact Nat.ne_of_gt (blk_lt (g:=gb281) (o:=.cells #[.slice (some ad282) l0_0.length c0_0] 27 (0,0)) (by (with_reducible repeat (first|refine kN ?_ _|refine kD ?_|refine kA ?_ _));exact BK281.out)):gb283 ≠ gb281));clear BK281;clear HB;have BK281:=n0_;have HB:=n1_;have BK283:=n2_;have GW283:=n3_;have GE283:=n4_;have NB281_283:=n5_;have NB283_281:=n6_;clear n0_ n1_ n2_ n3_ n4_ n5_ n6_;clear hb hbox hg;have hnb18:=NB283_281.out;have hnc18:=NB281_283.out;have hcz19_0:w17.cell? ⟨gb283,0,none⟩=some (.bool false):=(kC BK283.out 0).trans rfl;have hcz19_1:w17.cell? ⟨gb283,1,none⟩=some (.int .i64 0):=(kC BK283.out 1).trans rfl;have hcz19_2:w17.cell? ⟨gb283,2,none⟩=some (.slice none 0 0):=(kC BK283.out 2).trans rfl;have hcz19_3:w17.cell? ⟨gb283,3,none⟩=some (.slice none 0 0):=(kC BK283.out 3).trans rfl;have hfz19_0:=kF BK283.out 0;have hfz19_1:=kF BK283.out 1;have hfz19_2:=kF BK283.out 2;have hfz19_3:=kF BK283.out 3;have hcz20_0:w17.cell? ⟨gb281,0,none⟩=some (.slice (some ad282) l0_0.length c0_0):=(kC BK281.out 0).trans rfl;have hfz20_0:=kF BK281.out 0)|((with_reducible refine gate_callee (f:=92) rfl ?_);refine goesL_ (some 21) rfl rfl Try.func92 (by kernel_rfl) rfl #[.agg #[.bool ((rd_T34 l0_0 x13_1).f0),.int .i64 ((rd_T34 l0_0 x13_1).f1.f0),.slice A282_2 ((rd_T34 l0_0 x13_1).f1.f1).length c282_2,.slice A282_3 ((rd_T34 l0_0 x13_1).f1.f2).length c282_3],.int .i64 (l0_0.length:Int)] rfl (by (try simp only [List.map_toArray,List.map_cons,List.map_nil]);first|done|rfl|(simp only [List.length_drop,List.length_take];rfl)) ?_;(with_reducible refine (configuration_member.calls k1 ((rd_T34 l0_0 x13_1).f0) ((rd_T34 l0_0 x13_1).f1.f0) _ _ ((rd_T34 l0_0 x13_1).f1.f1) _ _ ((rd_T34 l0_0 x13_1).f1.f2) (l0_0.length:Int) t284 _ ?side1 ?side2 ?side3 ?side4 A10.out).mono ?_);(case side1=>exact Kd.C_below HR282_2.out (by repeat (first|(with_reducible first|exact HB.out|apply wA|apply wN|apply wD|refine wS ?_ GE281.out|refine wS ?_ GE283.out)|exact HB.out)));(case side2=>exact HC282_2.out);(case side3=>exact Kd.C_below HR282_3.out (by repeat (first|(with_reducible first|exact HB.out|apply wA|apply wN|apply wD|refine wS ?_ GE281.out|refine wS ?_ GE283.out)|exact HB.out)));(case side4=>exact HC282_3.out);rintro e w21 ⟨rfl,hb⟩;refine ⟨_,rfl,?_⟩;have n0_:=Aside0.mk (blk_below (g:=gb281) (o:=.cells #[.slice (some ad282) l0_0.length c0_0] 27 (0,0)) (by (with_reducible repeat (first|refine kN ?_ _|refine kD ?_|refine kA ?_ _));refine blk_far ?_ NB281_283.out _;(with_reducible repeat (first|refine kN ?_ _|refine kD ?_|refine kA ?_ _));refine blk_far ?_ NB281_283.out _;(with_reducible repeat (first|refine kN ?_ _|refine kD ?_|refine kA ?_ _));refine blk_far ?_ NB281_283.out _;(with_reducible repeat (first|refine kN ?_ _|refine kD ?_|refine kA ?_ _));refine blk_far ?_ NB281_283.out _;(with_reducible repeat (first|refine kN ?_ _|refine kD ?_|refine kA ?_ _));exact BK281.out) hb);have n1_:=Aside0.mk (blk_below (g:=gb283) (o:=.cells #[.bool ((rd_T34 l0_0 x13_1).f0),.int .i64 ((rd_T34 l0_0 x13_1).f1.f0),.slice A282_2 ((rd_T34 l0_0 x13_1).f1.f1).length c282_2,.slice A282_3 ((rd_T34 l0_0 x13_1).f1.f2).length c282_3] 34 (0,0)) (by (with_reducible repeat (first|refine kN ?_ _|refine kD ?_|refine kA ?_ _));refine blk_put (cs:=#[.bool ((rd_T34 l0_0 x13_1).f0),.int .i64 ((rd_T34 l0_0 x13_1).f1.f0),.slice A282_2 ((rd_T34 l0_0 x13_1).f1.f1).length c282_2,.slice none 0 0]) ?_ 3 _ rfl;(with_reducible repeat (first|refine kN ?_ _|refine kD ?_|refine kA ?_ _));refine blk_put (cs:=#[.bool ((rd_T34 l0_0 x13_1).f0),.int .i64 ((rd_T34 l0_0 x13_1).f1.f0),.slice none 0 0,.slice none 0 0]) ?_ 2 _ rfl;(with_reducible repeat (first|refine kN ?_ _|refine kD ?_|refine kA ?_ _));refine blk_put (cs:=#[.bool ((rd_T34 l0_0 x13_1).f0),.int .i64 0,.slice none 0 0,.slice none 0 0]) ?_ 1 _ rfl;(with_reducible repeat (first|refine kN ?_ _|refine kD ?_|refine kA ?_ _));refine blk_put (cs:=#[.bool false,.int .i64 0,.slice none 0 0,.slice none 0 0]) ?_ 0 _ rfl;(with_reducible repeat (first|refine kN ?_ _|refine kD ?_|refine kA ?_ _));exact BK283.out) hb);have n2_:=Aside0.mk (below_step (by repeat (first|(with_reducible first|exact HB.out|apply wA|apply wN|apply wD|refine wS ?_ GE281.out|refine wS ?_ GE283.out)|exact HB.out)) hb);clear BK281;clear BK283;clear HB;have BK281:=n0_;have BK283:=n1_;have HB:=n2_;clear n0_ n1_ n2_;(try clear hb);(try clear hb2);(try clear hk);(try clear hi)))
        go_ret
        exact ⟨by first|rfl|(simp [errW_none,errW_some] <;> rfl)|(simp [*,errW_none,errW_some] <;> rfl),by repeat (first|(with_reducible first|exact HB.out|apply wA|apply wN|apply wD|refine wS ?_ GE281.out|refine wS ?_ GE283.out)|exact HB.out)⟩
      ·rw [if_neg c9] at H
       exact absurd H (by simp)
     ·rw [if_neg c8] at H
      exact absurd H (by simp)
    ·rw [if_neg c7] at H
     have c7b0:decide (x13_1 < (l0_0.length:Int))=false:=decide_eq_false c7
     clear c7
     obtain rfl:=Option.some.inj H
     go_wp2
     go_ret
     exact ⟨by first|rfl|(simp [errW_none,errW_some] <;> rfl)|(simp [*,errW_none,errW_some] <;> rfl),by repeat (first|(with_reducible first|exact HB.out|apply wA|apply wN|apply wD|refine wS ?_ GE281.out)|exact HB.out)⟩
end Go.Proofs.Ytkjlcbfjllpcnaa.X
namespace Go.Proofs.Ytkjlcbfjllpcnaa.X
open Go.RowKit Go.Lib Go.Sort Go.Proofs.YtkjlcbfjllpcnaaW.PrintWords Go.Proofs.YtkjlcbfjllpcnaaW.PrintLast Go.Proofs.YtkjlcbfjllpcnaaW.PrintMore
set_option linter.unusedVariables false
theorem C_lit (W:World) (xs:List Int) (hm:xs.length≤9223372036854775807):(Kd.int .i64).C (W.alloc (.cells (nums .i64 xs).toArray 3)) (some ⟨W.heap.size,0,none⟩) xs.length xs:=by
 obtain ⟨A,c,hv,hr⟩:=own_reads (own_lit W 0 3 .i64 xs (Nat.zero_le _) hm)
 injection hv with hA hn hc
 subst hA
 exact Kd.C_of_reads (d:=(0:Int)) (h1:=fun _=>rfl) hr
theorem rank_calls (a:Int) (w:World):Calls Try.prog 116 #[.int .i64 a] w fun e w'=>e=.returned (.int .i64 (rank a))∧Drawn0 w w':=nodeset_rank.calls a (rank a) w (rank_eq a)
theorem cmpI_calls (a b:Int) (w:World):Calls Try.prog 115 #[.int .i64 a,.int .i64 b] w fun e w'=>e=.returned (.int .i64 (cmpI a b))∧Drawn0 w w':=cmp_Compare_int.calls a b (cmpI a b) w (cmpI_eq a b)
theorem alloc_grow (W:World) (a b:Nat) (o:Obj):((W.drewN a).alloc o).drewN b=grow (W.drewN (a+b)) #[o]:=by
 simp [grow,World.alloc,World.drewN,Nat.add_assoc]
theorem compare_grow (x y : Int) (W : World) : Calls Try.prog 94 #[.int .i64 x, .int .i64 y] W fun e w' => e = .returned (.int .i64 (cmpS x y)) ∧ ∃ q os', w' = grow (W.drewN q) os' := by
  go_enter Try.func94, Try.ntmps94
  go_wp2_with (first
    | (go_at_call 116; refine (rank_calls _ _).mono ?_; rintro e w' ⟨rfl, ⟨nd, rfl⟩⟩)
    | (go_at_call 115; refine (cmpI_calls _ _ _).mono ?_; rintro e w' ⟨rfl, ⟨nd, rfl⟩⟩)
    | (go_at_call 114; refine (cmp_Or_int.calls 4 _ 2 [_, _] _ _ (C_lit _ [_, _] (by simp)) (by simp) (or2_eq _ _)).mono ?_; rintro e w' ⟨rfl, ⟨nd, rfl⟩⟩))
  go_ret
  exact ⟨rfl, _, #[_], alloc_grow _ _ _ _⟩
abbrev RI (w:World) (base:Nat) (ok:Nat→Prop) (v:Value) (xs:List Int):Prop:=(Kd.int .i64).R 3 w base ok v xs
theorem take1 {α:Type} {l:List α} {j:Nat} (h:j < l.length):(l.drop j).take 1=[l[j]]:=by rw [List.drop_eq_getElem_cons h];rfl
theorem reps_ints {w:World} {base:Nat} {ok:Nat→Prop} (xs:List Int):Reps ((Kd.int .i64).M w base ok) 1 xs (xs.map (Value.int .i64)):=by
 refine ⟨by simp,fun j p hj=>?_⟩
 obtain ⟨hl,rfl⟩:=List.getElem?_eq_some_iff.1 hj
 show List.take 1 (List.drop (j * 1) _)=[_]
 rw [Nat.mul_one,take1 (by simpa using hl)]
 simp
theorem ints_reps {w:World} {base:Nat} {ok:Nat→Prop} {xs:List Int} {cs:List Value} (h:Reps ((Kd.int .i64).M w base ok) 1 xs cs):cs=xs.map (Value.int .i64):=by
 obtain ⟨hl,h2⟩:=h
 apply List.ext_getElem (by simpa using hl)
 intro j h3 h4
 have h5:j < xs.length:=by simpa using h4
 have h6:(cs.drop (j * 1)).take 1=[.int .i64 xs[j]]:=h2 j xs[j] (List.getElem?_eq_getElem h5)
 rw [Nat.mul_one,take1 h3] at h6
 simpa using h6
theorem R_of_own {w:World} {base:Nat} {ok:Nat→Prop} {v:Value} {xs:List Int} (hok:∀ k,v.ownBlock=some k→ok k) (h:w.ownsRow base 3 1 v xs.length (xs.map (Value.int .i64))):RI w base ok v xs :=
 ⟨hok,_,h,reps_ints xs⟩
theorem own_of_R {w:World} {base:Nat} {ok:Nat→Prop} {v:Value} {xs:List Int} (h:RI w base ok v xs):w.ownsRow base 3 1 v xs.length (xs.map (Value.int .i64)):=by
 obtain ⟨_,inner,ho,hr⟩:=h
 rw [ints_reps hr] at ho
 exact ho
theorem cmpI_neg {a b:Int}:cmpI a b < 0 ↔ a < b:=by unfold cmpI;split <;> (try split) <;> omega
theorem cmpI_zero {a b:Int}:cmpI a b=0 ↔ a=b:=by unfold cmpI;split <;> (try split) <;> omega
def ltS (x y:Int):Prop:=rank x < rank y ∨ (rank x=rank y∧x < y)
theorem cmpS_neg {x y:Int}:cmpS x y < 0 ↔ ltS x y:=by
 unfold cmpS orI ltS
 split
 ·rename_i h;rw [cmpI_zero] at h;rw [cmpI_neg];omega
 ·rename_i h;rw [cmpI_neg];rw [cmpI_zero] at h;omega
theorem ltOf_iff {x y:Int}:ltOf cmpS x y=true ↔ ltS x y:=by simp [ltOf,cmpS_neg]
theorem ltOf_not {x y:Int}:ltOf cmpS x y=false ↔ ¬ ltS x y:=by rw [← ltOf_iff];simp
theorem ltS_swo:SWO (ltOf cmpS) where
 irrefl x:=by rw [ltOf_not];unfold ltS;omega
 trans x y z h1 h2:=by rw [ltOf_iff] at *;unfold ltS at *;omega
 ntrans x y z h1 h2:=by rw [ltOf_not] at *;unfold ltS at *;omega
theorem ltS_total (x y:Int) (h1:ltOf cmpS x y=false) (h2:ltOf cmpS y x=false):x=y:=by rw [ltOf_not] at *;unfold ltS at *;omega
def sortS (l:List Int):List Int:=l.mergeSort fun x y=>!(ltOf cmpS) y x
theorem sortS_length (l:List Int):(sortS l).length=l.length:=by simp [sortS]
theorem sort_row {w:World} {base:Nat} {ok:Nat→Prop} {v:Value} {l:List Int} (h:RI w base ok v l) (hl:l.length < 4611686018427387904) :
  Calls Try.prog 93 #[v,.func (.func 94) #[] #[]] w fun e w'=>e=.returned (.tuple #[])∧RI w' base ok v (sortS l)∧w.grownBy w' v.ownBlock:=by
 have ho:=own_of_R h
 rcases Nat.eq_zero_or_pos l.length with h0|h0
 ·obtain rfl:=List.eq_nil_of_length_eq_zero h0
  obtain ⟨A,c,rfl⟩:=own_slice ho
  refine (Try.slices_SortFunc_none (α:=Int) A c _ w).mono ?_
  rintro e w' ⟨rfl,rfl⟩
  exact ⟨rfl,by simpa [sortS] using h,grown_of_below (Below.refl _ _) _⟩
 ·rcases ho.2 with ⟨_,h1⟩|⟨g,cap,cur,rfl,hb,hh,h1,h2,h3,h4⟩
  ·omega
  ·have hH:=holds_of_blockI hh (by simpa using h4)
   refine (Try.slices_SortFunc_total (Value.int .i64) (fun _=>rfl) cmpS ltS_swo 94 #[] g 0 cap l.toArray w (enters_of Try.func94 (by kernel_rfl) rfl) (fun m os dk _ x y=>by simpa using compare_grow x y _) hH (Array.getElem?_eq_some_iff.1 hh).1 (by simpa using hl) ltS_total).mono ?_
   rintro e w' ⟨rfl,n,os,rfl⟩
   have hs:=sortS_length l
   refine ⟨rfl,R_of_own h.1 ?_,grownBy_sortedI _⟩
   rw [hs]
   exact ownsRow_sortedI hs hb hh h1 h2 h3
theorem clone_row {w:World} {A:Option Addr} {c:Nat} {l:List Int} (hr:Kd.C (Kd.int .i64) w A l.length l) (hl:l.length≤17592186044416) :
  Calls Try.prog 97 #[.slice A l.length c] w fun e w'=>∃ v,e=.returned v∧RI w' w.heap.size (fun _=>True) v l∧Below w.heap.size w w':=by
 rcases Nat.eq_zero_or_pos l.length with h0|h0
 ·obtain rfl:=List.eq_nil_of_length_eq_zero h0
  cases A with
  | none =>
   refine (Try.slices_Clone_int_nil _ c w).mono ?_
   rintro e w' ⟨rfl,rfl⟩
   exact ⟨_,rfl,Kd.R_nil _ _ _ _ _,Below.refl _ _⟩
  | some a =>
   refine (Try.slices_Clone_int_zero a c w).mono ?_
   rintro e w' ⟨v,rfl,ho,_,hb⟩
   exact ⟨v,rfl,R_of_own (fun _ _=>trivial) (by simpa using ho),hb⟩
 ·obtain ⟨b,off,rfl,_,hc⟩:=C_ints hr h0
  refine (Try.slices_Clone_int b off l.length c l w (Nat.le_refl _) (by omega) (fun j hj=>by rw [hc j hj];simp [List.getD,hj])).mono ?_
  rintro e w' ⟨v,rfl,ho,_,hb⟩
  exact ⟨v,rfl,R_of_own (fun _ _=>trivial) (by simpa using ho),hb⟩
theorem least1_calls (s:Int) (W:World):Calls Try.prog 98 #[.int .i64 s] W fun e w'=>e=.returned (.bool (!vld s))∧∃ q,w'=W.drewN q:=by
 go_enter Try.func98,Try.ntmps98
 go_wp2_with (go_at_call 59;(with_reducible refine (nodeset_Valid.calls s (vld s) _ (Valid_eq s)).mono ?_);rintro e w' ⟨rfl,⟨nd,rfl⟩⟩)
 go_ret
 exact ⟨rfl,_,rfl⟩
theorem delete_none (A:Option Addr) (c:Nat) (fv:Value) (w:World):Calls Try.prog 96 #[.slice A 0 c,fv] w fun e w'=>e=.returned (.slice A 0 c)∧w'=w:=by
 go_enter Try.func96,Try.ntmps96
 go_wp2_with (go_at_call 117;refine (Try.slices_IndexFunc_empty (α:=Int) A c fv _).mono ?_;rintro e w' ⟨rfl,rfl⟩)
 go_ret
 exact ⟨rfl,rfl⟩
theorem delete_row {w:World} {base:Nat} {ok:Nat→Prop} {v:Value} {l:List Int} (h:RI w base ok v l) (hl:l.length < 4611686018427387904) :
  Calls Try.prog 96 #[v,.func (.func 98) #[] #[]] w fun e w'=>∃ v',e=.returned v'∧RI w' base ok v' (l.filter vld)∧v'.ownBlock=v.ownBlock∧w.grownBy w' v.ownBlock:=by
 have ho:=own_of_R h
 rcases Nat.eq_zero_or_pos l.length with h0|h0
 ·obtain rfl:=List.eq_nil_of_length_eq_zero h0
  obtain ⟨A,c,rfl⟩:=own_slice ho
  refine (delete_none A c _ w).mono ?_
  rintro e w' ⟨rfl,rfl⟩
  exact ⟨_,rfl,by simpa using h,rfl,grown_of_below (Below.refl _ _) _⟩
 ·rcases ho.2 with ⟨_,h1⟩|⟨g,cap,cur,rfl,hb,hh,h1,h2,h3,h4⟩
  ·omega
  ·have hH:=holds_of_blockI hh (by simpa using h4)
   refine (Try.slices_DeleteFunc (Value.int .i64) (fun _=>rfl) (fun s=>!vld s) 98 #[] (enters_of Try.func98 (by kernel_rfl) rfl) 0 (fun _=>by kernel_rfl) g 0 cap l.toArray w (fun W x _=>by simpa [FnGives] using least1_calls x W) (fun n os dk x _=>by simpa [FnGives] using least1_calls x _) hH (by simp;unfold maxLen at h2;omega) (by simpa using h1)).mono ?_
   rintro e w' ⟨rfl,q,rfl⟩
   have hf:(l.toArray.toList.filter fun x=>!(!vld x))=l.filter vld:=by simp
   rw [hf]
   have hfl:=List.length_filter_le vld l
   have hgr:∀ d:Array Int,w.grownBy (putRow (Value.int .i64) (Sort.ahead w q) g 0 d) (some g):=fun d=>by
    have:=grownBy_sortedI (w:=w) (g:=g) (n:=q) (os:=#[]) d
    rwa [grow_empty] at this
   refine ⟨_,rfl,R_of_own (fun k hk=>h.1 k (by simpa [Value.ownBlock] using hk)) ?_,rfl,hgr _⟩
   have hz:((l.filter vld++List.replicate (l.toArray.size - (l.filter vld).length) (0:Int))).length=l.length:=by simp;omega
   have hs:=ownsRow_sortedI (n:=q) (os:=#[]) hz hb hh h1 h2 h3
   rw [grow_empty] at hs
   rcases hs.2 with ⟨hn,_⟩|⟨g',cap',cur',he,hb',hh',k1,k2,k3,k4⟩
   ·cases hn
   ·injection he with he1 he2 he3
    injection he1 with he1
    injection he1 with he1
    subst he1;subst he3
    refine ⟨by simp,.inr ⟨g,cap,cur',rfl,hb',hh',by omega,k2,k3,?_⟩⟩
    rw [Nat.mul_one] at k4 ⊢
    have h5:=congrArg (List.take (l.filter vld).length) k4
    rw [List.take_take,Nat.min_eq_left hfl,List.map_append,List.take_append_of_le_length (by simp)] at h5
    exact h5.trans (List.take_of_length_le (by simp))
def sub (t s:Int):Bool:=Go.bits .andNot .i64 t s == 0
def leastStep (out:List Int) (s:Int):List Int:=if (out.any fun t=>sub t s)=true then out else out++[s]
def leastFold (l:List Int):List Int:=l.foldl leastStep []
def leastS (l:List Int):List Int:=leastFold (sortS (l.filter vld))
def nodeset_Least.f (a0:List Int):Option (List Int):=if a0.length≤1048576 then some (leastS a0) else none
theorem leastFold_le (l:List Int):(leastFold l).length≤l.length:=by
 have h:∀ (l acc:List Int),(l.foldl leastStep acc).length≤acc.length+l.length:=by
  intro l
  induction l with
  | nil=>intro acc;simp
  | cons x r ih =>
   intro acc
   have:=ih (leastStep acc x)
   have h2:(leastStep acc x).length≤acc.length+1:=by unfold leastStep;split <;> simp
   simp only [List.foldl_cons,List.length_cons];omega
 simpa [leastFold] using h l []
theorem least2_calls (t s:Int) (B:Nat) (W:World) (hc:W.cell? ⟨B,0,none⟩=some (.int .i64 s)):Calls Try.prog 100 #[.int .i64 t,.pointer (some ⟨B,0,none⟩)] W fun e w'=>e=.returned (.bool (sub t s))∧∃ q,w'=W.drewN q:=by
 go_enter Try.func100,Try.ntmps100
 go_wp2
 go_ret
 exact ⟨rfl,0,rfl⟩
theorem contains_row {W:World} {A:Option Addr} {c:Nat} {l:List Int} {s:Int} {B:Nat} (hr:Kd.C (Kd.int .i64) W A l.length l) (hc:W.cell? ⟨B,0,none⟩=some (.int .i64 s)) :
  Calls Try.prog 99 #[.slice A l.length c,.func (.func 100) #[] #[.pointer (some ⟨B,0,none⟩)]] W fun e w'=>e=.returned (.bool (l.any fun t=>sub t s))∧∃ q,w'=W.drewN q:=by
 rcases Nat.eq_zero_or_pos l.length with h0|h0
 ·obtain rfl:=List.eq_nil_of_length_eq_zero h0
  refine (Try.slices_ContainsFunc_empty (α:=Int) A c _ W).mono ?_
  rintro e w' ⟨rfl,rfl⟩
  exact ⟨rfl,0,rfl⟩
 ·obtain ⟨b,off,rfl,_,hcc⟩:=C_ints hr h0
  have hB:=World.block_lt_of_cell? W _ hc
  refine (Try.slices_ContainsFunc (Value.int .i64) (fun t=>sub t s) 100 #[.pointer (some ⟨B,0,none⟩)] (enters_of Try.func100 (by kernel_rfl) rfl) b off l.length c l W (fun W' x hb=>least2_calls x s B W' ((hb.cell (p:=⟨B,0,none⟩) hB).trans hc)) (Nat.le_refl _) (C_max hr) hcc).mono ?_
  rintro e w' ⟨rfl,hq⟩
  rw [List.take_length]
  exact ⟨rfl,hq⟩
set_option maxHeartbeats 4000000 in
set_option maxRecDepth 100000 in
theorem nodeset_Least.calls (A0 : Option Addr) (c0 : Nat) (l0 : List Int) (r : List Int) (w : World) (hr0 : Kd.C (Kd.int .i64) w A0 l0.length l0) (hc0 : l0.length ≤ c0) (h : nodeset_Least.f l0 = some r) :
    Calls Try.prog 66 #[.slice A0 l0.length c0] w fun e w' => ∃ v0_ : Value, e = .returned (v0_) ∧ Kd.R (Kd.int .i64) 3 w' w.heap.size (fun _ => True) v0_ r ∧ Below w.heap.size w w' := by
  unfold nodeset_Least.f at h
  split at h
  case isFalse => cases h
  rename_i hlen
  obtain rfl := Option.some.inj h
  clear h
  have HL := Aside0.mk hlen
  have hfl := List.length_filter_le vld l0
  have HF : Aside0 ((l0.filter vld).length < 4611686018427387904) := ⟨by omega⟩
  have HR := Aside0.mk hr0
  clear hr0 hfl hlen
  unfold leastS
  obtain ⟨S, HS⟩ : ∃ S, Aside0 (S = sortS (l0.filter vld)) := ⟨_, ⟨rfl⟩⟩
  have HSl : Aside0 (S.length ≤ 1048576) := ⟨by rw [HS.out, sortS_length]; have := List.length_filter_le vld l0; have := HL.out; omega⟩
  rw [← HS.out]
  go_enter Try.func66, Try.ntmps66
  go_wp2_with (first
    | (go_at_call 97; refine (clone_row HR.out (by have := HL.out; omega)).mono ?_; rintro e w1 ⟨v1, rfl, h1, hb1⟩; have H1 := Aside0.mk h1; have B1 := Aside0.mk hb1; clear h1 hb1)
    | (go_at_call 96; refine (delete_row H1.out (by have := HL.out; omega)).mono ?_; rintro e w2 ⟨v2, rfl, h2, ho2, hg2⟩; have H2 := Aside0.mk h2; have B2 := Aside0.mk (B1.out.grown hg2 B1.out.size (own_base (own_of_R H1.out))); clear h2 ho2 hg2)
    | (go_at_call 93; refine (sort_row H2.out HF.out).mono ?_; rintro e w3 ⟨rfl, h3, hg3⟩; rw [← HS.out] at h3; have H3 := Aside0.mk h3; have B3 := Aside0.mk (B2.out.grown hg3 B2.out.size (own_base (own_of_R H2.out))); clear h3 hg3; obtain ⟨A2, c2, e2⟩ := Kd.R_slice H3.out; subst e2))
  have B1' := B1.out
  clear H1 H2 B1 B2 B1' HF HL HR
  go_loopw [3, 13] (fun o i wr => ∃ x : Int, i = .int .i64 x ∧ Aside0 (0 ≤ x ∧ x ≤ S.length) ∧ Aside0 (RI wr w.heap.size (fun _ => True) o (leastFold (S.take x.toNat))) ∧ Aside0 (RI wr w.heap.size (fun k => True ∧ some k ≠ o.ownBlock) (.slice A2 S.length c2) S) ∧ Aside0 (RowKit.Below w.heap.size w wr)) (fun _ i _ => S.length - (intOf i).toNat)
  case atStart => exact ⟨0, rfl, ⟨by omega⟩, ⟨Kd.R_nil _ _ _ _ _⟩, ⟨Kd.R_mono H3.out (fun k _ => ⟨trivial, by simp [Value.ownBlock]⟩)⟩, B3⟩
  case round =>
    obtain ⟨x, rfl, Hx, HO, HS3, HB⟩ := hrel
    clear H3 B3
    obtain ⟨ob, rfl⟩ : ∃ ob, ob = wr := ⟨_, rfl⟩
    by_cases hlt : x < S.length
    · have hd : decide (x < (S.length : Int)) = true := decide_eq_true hlt
      have p0 := Hx.out.1
      obtain ⟨F, HF⟩ : ∃ F, Aside0 (F = leastFold (S.take x.toNat)) := ⟨_, ⟨rfl⟩⟩
      rw [← HF.out] at HO
      obtain ⟨A, c, e0⟩ := Kd.R_slice HO.out
      subst e0
      obtain ⟨ad, ea, hx⟩ := Kd.at_int (Kd.R_reads' HS3.out).2.2 x p0 hlt
      cases ea
      obtain ⟨y, Hy⟩ : ∃ y, Aside0 (y = rd S x) := ⟨_, ⟨rfl⟩⟩
      rw [← Hy.out] at hx
      obtain ⟨b, Hb⟩ : ∃ b, Aside0 (b = F.any fun t => sub t y) := ⟨_, ⟨rfl⟩⟩
      have Hlt := Aside0.mk hlt
      have HFl : Aside0 (F.length ≤ 1048576) := ⟨by rw [HF.out]; have := leastFold_le (S.take x.toNat); have := HSl.out; simp at *; omega⟩
      have Hnext : Aside0 (leastFold (S.take (wrap64 (x + 1)).toNat) = leastStep F y ∧ wrap64 (x + 1) = x + 1) := by
        have h1 : wrap64 (x + 1) = x + 1 := by unfold wrap64; have := HSl.out; omega
        refine ⟨?_, h1⟩
        have h2 : (x + 1).toNat = x.toNat + 1 := by omega
        have h3 : x.toNat < S.length := by omega
        have h4 : Go.Proofs.YtkjlcbfjllpcnaaW.PrintWords.rd S x = S[x.toNat] := by simp [Go.Proofs.YtkjlcbfjllpcnaaW.PrintWords.rd, List.getD, h3]
        rw [h1, h2, HF.out, Hy.out, h4, List.take_succ_eq_append_getElem h3]
        unfold leastFold
        rw [List.foldl_append]
        rfl
      replace hlt := eq_true hlt
      replace p0 := eq_true p0
      cases b
      all_goals
        go_wp2_with (first
          | (go_at_call 99; refine (contains_row (s := y) (B := ob.heap.size) (Kd.R_reads' (Kd.R_alloc HO.out _)).2.2 (by simp)).mono ?_; rintro e w1 ⟨he, hq⟩; rw [← Hb.out] at he; subst he; have HO1 : Aside0 (RI w1 w.heap.size (fun _ => True) (.slice A F.length c) F) := (by obtain ⟨q, rfl⟩ := hq; exact ⟨Kd.R_drewN (Kd.R_alloc HO.out _) _⟩); have HS1 : Aside0 (RI w1 w.heap.size (fun k => True ∧ some k ≠ (Value.slice A F.length c).ownBlock) (.slice (some ad) S.length c2) S) := (by obtain ⟨q, rfl⟩ := hq; exact ⟨Kd.R_drewN (Kd.R_alloc HS3.out _) _⟩); have HB1 : Aside0 (RowKit.Below w.heap.size w w1) := (by obtain ⟨q, rfl⟩ := hq; exact ⟨wN (wA HB.out _) _⟩); have hcl : w1.cell? ⟨ob.heap.size, 0, none⟩ = some (.int .i64 y) := (by obtain ⟨q, rfl⟩ := hq; simp); clear hq)
          | (at_builtin; go_loud (refine Kd.R_append (Kd.int .i64) (w0 := w) w.heap.size rfl (.tmp 21) (.tmp 23) 22 3 (.int .i64 0) 8 rfl Try.underlying22 info3 rfl (by decide) (by omega) (.slice A F.length c) F y [.int .i64 y] (fun _ => True) (fun _ => False) rfl rfl ?aP (fun _ hk => hk.elim) (fun _ _ => trivial) ?aO ?aB ?aS ?aL ?_; (case aP => exact rfl); (case aO => exact HO1.out); (case aB => exact HB1.out); (case aS => exact HB1.out.size); (case aL => have := HFl.out; omega); intro v4 w4 h4 hb4 hg4 hat4; have H4 := Aside0.mk h4; have B4 := Aside0.mk hb4; have HS4 := Aside0.mk (Kd.R_after HS1.out hg4 hat4); clear h4 hb4 hg4 hat4)))
        go_roundw
        case rel =>
          first
          | exact ⟨wrap64 (x + 1), rfl, ⟨by have := Hnext.out.2; have := Hlt.out; have := Hx.out; omega⟩, ⟨by rw [Hnext.out.1]; unfold leastStep; rw [← Hb.out]; exact H4.out⟩, HS4, B4⟩
          | exact ⟨wrap64 (x + 1), rfl, ⟨by have := Hnext.out.2; have := Hlt.out; have := Hx.out; omega⟩, ⟨by rw [Hnext.out.1]; unfold leastStep; rw [← Hb.out]; exact HO1.out⟩, HS1, HB1⟩
        case measure => have h1 := Hnext.out.2; have := Hlt.out; have := Hx.out; simp only [intOf]; simp [h1]; omega
    · have hd : decide (x < (S.length : Int)) = false := decide_eq_false hlt
      have Hlt := Aside0.mk hlt
      clear hlt
      go_wp2
      go_ret
      have hx : x = S.length := by have := Hx.out; have := Hlt.out; omega
      rw [hx] at HO
      exact ⟨_, rfl, by simpa using HO.out, HB.out⟩
def subsBelow (s:Int) (m:Nat):List Int:=((List.range m).map Int.ofNat).filter fun t=>sub t s
def subsetsS (s:Int):List Int:=if vld s then sortS (subsBelow s (s.toNat+1)) else []
def nodeset_Subsets.f (a0:Int):Option (List Int):=some (subsetsS a0)
theorem subsBelow_le (s:Int) (m:Nat):(subsBelow s m).length≤m:=by
 unfold subsBelow
 have:=List.length_filter_le (fun t=>sub t s) ((List.range m).map Int.ofNat)
 simpa using this
theorem subsBelow_succ (s:Int) (m:Nat):subsBelow s (m+1)=if sub (m:Int) s=true then subsBelow s m++[(m:Int)] else subsBelow s m:=by
 unfold subsBelow
 rw [List.range_succ,List.map_append,List.filter_append]
 split
 ·rename_i h;simp [h]
 ·rename_i h;simp [h]
set_option maxHeartbeats 4000000 in
set_option maxRecDepth 100000 in
theorem nodeset_Subsets.calls (a0 : Int) (r : List Int) (w : World) (h : nodeset_Subsets.f a0 = some r) : Calls Try.prog 64 #[.int .i64 a0] w fun e w' => ∃ v0_ : Value, e = .returned (v0_) ∧ Kd.R (Kd.int .i64) 3 w' w.heap.size (fun _ => True) v0_ r ∧ Below w.heap.size w w' := by
  obtain rfl := Option.some.inj h
  clear h
  obtain ⟨b, Hb⟩ : ∃ b, Aside0 (b = vld a0) := ⟨_, ⟨rfl⟩⟩
  unfold subsetsS
  rw [← Hb.out]
  cases b with
  | false =>
    go_enter Try.func64, Try.ntmps64
    go_wp2
    go_loopw [3, 4] (fun o i wr => o = .slice none 0 0 ∧ i = .int .i64 0 ∧ Aside0 (RowKit.Below w.heap.size w wr)) (fun _ _ _ => 0)
    case atStart => exact ⟨rfl, rfl, ⟨Below.refl _ _⟩⟩
    case round =>
      obtain ⟨rfl, rfl, HB⟩ := hrel
      obtain ⟨ob, rfl⟩ : ∃ ob, ob = wr := ⟨_, rfl⟩
      go_wp2_with (first
        | (go_at_call 59; refine (nodeset_Valid.calls a0 false _ (by rw [Hb.out]; exact Valid_eq a0)).mono ?_; rintro e w1 ⟨rfl, ⟨q, rfl⟩⟩)
        | (go_at_call 93; refine (sort_row (base := w.heap.size) (ok := fun _ => True) (l := []) (Kd.R_nil _ _ _ _ _) (by simp)).mono ?_; rintro e w3 ⟨rfl, h3, hg3⟩))
      go_ret
      exact ⟨_, rfl, Kd.R_nil _ _ _ _ _, (wN HB.out _).grown hg3 (by have := HB.out.size; simpa using this) (by simp [Value.ownBlock])⟩
  | true =>
    simp only [if_true]
    have Hv : Aside0 (0 ≤ a0 ∧ a0 < 1024) := ⟨vld_iff.1 Hb.out.symm⟩
    go_enter Try.func64, Try.ntmps64
    go_wp2
    go_loopw [3, 4] (fun o i wr => ∃ x : Int, i = .int .i64 x ∧ Aside0 (0 ≤ x ∧ x ≤ a0 + 1) ∧ Aside0 (RI wr w.heap.size (fun _ => True) o (subsBelow a0 x.toNat)) ∧ Aside0 (RowKit.Below w.heap.size w wr)) (fun _ i _ => (a0 + 1 - intOf i).toNat)
    case atStart => exact ⟨0, rfl, ⟨by have := Hv.out; omega⟩, ⟨by exact Kd.R_nil _ _ _ _ _⟩, ⟨Below.refl _ _⟩⟩
    case round =>
      obtain ⟨x, rfl, Hx, HO, HB⟩ := hrel
      obtain ⟨ob, rfl⟩ : ∃ ob, ob = wr := ⟨_, rfl⟩
      obtain ⟨F, HF⟩ : ∃ F, Aside0 (F = subsBelow a0 x.toNat) := ⟨_, ⟨rfl⟩⟩
      rw [← HF.out] at HO
      have HFl : Aside0 (F.length ≤ 1025) := ⟨by rw [HF.out]; have := subsBelow_le a0 x.toNat; have := Hx.out; have := Hv.out; omega⟩
      have Hnext : Aside0 (wrap64 (x + 1) = x + 1 ∧ subsBelow a0 (x + 1).toNat = if sub x a0 = true then F ++ [x] else F) := ⟨by
        have h1 := Hx.out
        have h2 := Hv.out
        refine ⟨by unfold wrap64; omega, ?_⟩
        obtain ⟨m, rfl⟩ := Int.eq_ofNat_of_zero_le h1.1
        rw [HF.out, show ((m : Int) + 1).toNat = m + 1 from by omega, show (m : Int).toNat = m from by omega]
        exact subsBelow_succ a0 m⟩
      by_cases hlt : x ≤ a0
      · have hd : decide (x ≤ a0) = true := decide_eq_true hlt
        have Hlt := Aside0.mk hlt
        clear hlt
        obtain ⟨c, Hc⟩ : ∃ c, Aside0 (c = sub x a0) := ⟨_, ⟨rfl⟩⟩
        have hc : (Go.bits .andNot .i64 x a0 == 0) = c := by rw [Hc.out]; rfl
        cases c
        all_goals
          go_wp2_with (first
            | (go_at_call 59; refine (nodeset_Valid.calls a0 true _ (by rw [Hb.out]; exact Valid_eq a0)).mono ?_; rintro e w1 ⟨rfl, hq⟩; have HO1 := Aside0.mk (Kd.R_below HO.out hq.below); have HB1 := Aside0.mk (HB.out.trans (hq.below.mono HB.out.size)); clear hq)
            | (at_builtin; refine Kd.R_append (Kd.int .i64) (w0 := w) w.heap.size rfl (.tmp 18) (.tmp 20) 22 3 (.int .i64 0) 8 rfl Try.underlying22 info3 rfl (by decide) (by omega) _ F x [.int .i64 x] (fun _ => True) (fun _ => False) rfl rfl ?aP (fun _ hk => hk.elim) (fun _ _ => trivial) ?aO ?aB ?aS ?aL ?_; (case aP => exact rfl); (case aO => exact HO1.out); (case aB => exact HB1.out); (case aS => exact HB1.out.size); (case aL => have := HFl.out; omega); intro v4 w4 h4 hb4 hg4 hat4; have H4 := Aside0.mk h4; have B4 := Aside0.mk hb4; clear h4 hb4 hg4 hat4))
          go_roundw
          case rel =>
            first
            | exact ⟨wrap64 (x + 1), rfl, ⟨by have := Hnext.out.1; have := Hlt.out; have := Hx.out; omega⟩, ⟨by rw [Hnext.out.1, Hnext.out.2, ← Hc.out]; exact H4.out⟩, B4⟩
            | exact ⟨wrap64 (x + 1), rfl, ⟨by have := Hnext.out.1; have := Hlt.out; have := Hx.out; omega⟩, ⟨by rw [Hnext.out.1, Hnext.out.2, ← Hc.out]; exact HO1.out⟩, HB1⟩
          case measure => have h1 := Hnext.out.1; have := Hlt.out; have := Hx.out; simp [intOf, h1]; omega
      · have hd : decide (x ≤ a0) = false := decide_eq_false hlt
        have Hlt := Aside0.mk hlt
        clear hlt
        have hx : Aside0 (x.toNat = a0.toNat + 1) := ⟨by have := Hx.out; have := Hlt.out; have := Hv.out; omega⟩
        go_wp2_with (first
          | (go_at_call 59; refine (nodeset_Valid.calls a0 true _ (by rw [Hb.out]; exact Valid_eq a0)).mono ?_; rintro e w1 ⟨rfl, hq⟩; have HO1 := Aside0.mk (Kd.R_below HO.out hq.below); have HB1 := Aside0.mk (HB.out.trans (hq.below.mono HB.out.size)); clear hq)
          | (go_at_call 93; refine (sort_row HO1.out (by have := HFl.out; omega)).mono ?_; rintro e w3 ⟨rfl, h3, hg3⟩; have H3 := Aside0.mk h3; have B3 := Aside0.mk (HB1.out.grown hg3 HB1.out.size (own_base (own_of_R HO1.out))); clear h3 hg3))
        go_ret
        exact ⟨_, rfl, by rw [← hx.out, ← HF.out]; exact H3.out, B3.out⟩
end Go.Proofs.Ytkjlcbfjllpcnaa.X
