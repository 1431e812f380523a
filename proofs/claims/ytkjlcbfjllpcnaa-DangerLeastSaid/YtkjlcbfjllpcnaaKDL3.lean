/- Proof of the statement DangerLeast: part 3 of 8, what it computes and why that answers true. -/
import Derived.Test.YtkjlcbfjllpcnaaKDL2
import Derived.Deep.RegionLaw
set_option linter.unusedVariables false
set_option linter.unusedSimpArgs false
namespace Go.Proofs.Ytkjlcbfjllpcnaa.X
open Go.RowKit Go.Proofs.YtkjlcbfjllpcnaaW.PrintWords Go.Proofs.YtkjlcbfjllpcnaaW.PrintLast Go.Proofs.YtkjlcbfjllpcnaaW.PrintMore
attribute [local go_sem] max2_int min2_int max_two min_two max_three min_three max_four min_four
set_option linter.unusedVariables false
set_option linter.unusedSimpArgs false
def closure_content.f (k:Nat) (l0_0:List (S34)) (a1:Int) (a2:Int):Option (Bool):=if 0≤a1 then (if a1 < (l0_0.length:Int) then ((threshold_Satisfied.f k ((rd_T34 l0_0 a1).f1.f0) ((rd_T34 l0_0 a1).f1.f1) ((rd_T34 l0_0 a1).f1.f2) a2).bind fun t630=>(some t630)) else (none)) else (none)
set_option maxHeartbeats 8000000 in
set_option maxRecDepth 100000 in
theorem closure_content.calls (k:Nat) (A0_0:Option Addr) (c0_0:Nat) (l0_0:List (S34)) (a1:Int) (a2:Int) (r:Bool) (w:World) (hr0_0:Kd.C k34 w A0_0 l0_0.length l0_0) (hc0_0:l0_0.length≤c0_0) (h:closure_content.f k l0_0 a1 a2=some r) :
  Calls Try.prog 140 #[.agg #[.slice A0_0 l0_0.length c0_0],.int .i64 a1,.int .i64 a2] w fun e w'=>e=.returned (.bool r)∧Below w.heap.size w w':=by
 have hu27:=Try.underlying27
 have hu32:=Try.underlying32
 have HR0_0:=Z hr0_0
 have HC0_0:=Z hc0_0
 clear hr0_0 hc0_0
 have HB:=Z (Below.refl w.heap.size w)
 have H:(if 0≤a1 then (if a1 < (l0_0.length:Int) then ((threshold_Satisfied.f k ((rd_T34 l0_0 a1).f1.f0) ((rd_T34 l0_0 a1).f1.f1) ((rd_T34 l0_0 a1).f1.f2) a2).bind fun t630=>(some t630)) else (none)) else (none))=some r:=h
 clear h
 by_cases c4:0≤a1
 ·rw [if_pos c4] at H
  have c4b0:decide (0≤a1)=true:=decide_eq_true c4
  clear c4
  by_cases c5:a1 < (l0_0.length:Int)
  ·rw [if_pos c5] at H
   have c5b0:decide (a1 < (l0_0.length:Int))=true:=decide_eq_true c5
   clear c5
   replace H:=Option.bind_eq_some_iff.mp H
   obtain ⟨t630,A60,H⟩:=H
   try dsimp only at H
   have A6:=Z A60
   clear A60
   obtain rfl:=Option.some.inj H
   go_enter Try.func140,Try.ntmps140
   go_wp2_with (first|((with_reducible refine gate_dst (N:=3) rfl ?_);refine box_event ?hg (N:=3) ?hd (cs:=#[.slice A0_0 l0_0.length c0_0]) (t:=27) ?hr ?_;(case hd=>rfl);(case hg=>rfl);(case hr=>first|(go_simp;done)|(go_simp;rfl));intro gb628 hg w7 hbox hb;have n0_:=Z (below_step pB hb);have n1_:=Z (hbox);have n2_:=Z ((pT hg:w.heap.size≤gb628));have n3_:=Z ((pT hg:w.heap.size≤gb628));clear HB;have HB:=n0_;have BK628:=n1_;have GW628:=n2_;have GE628:=n3_;clear n0_ n1_ n2_ n3_;clear hb hbox hg;have hcz8_0:w7.cell? ⟨gb628,0,none⟩=some (.slice A0_0 l0_0.length c0_0):=(kC BK628.out 0).trans rfl;have hfz8_0:=kF BK628.out 0;have p629:0≤(a1:Int):=of_decide_eq_true (by first|(with_reducible assumption)|assumption);have q629:a1 < (l0_0.length:Int):=of_decide_eq_true (by first|(with_reducible assumption)|assumption);obtain ⟨ad629,A629_2,c629_2,A629_3,c629_3,e629,hx629_0,hx629_1,hx629_2,hx629_3,hl629_2,hi629_2,hl629_3,hi629_3⟩:=at_T34 HR0_0.out a1 p629 q629;cases e629;replace hx629_0:=(HB.out.cell (World.block_lt_of_cell? w _ hx629_0)).trans hx629_0;replace hx629_1:=(HB.out.cell (World.block_lt_of_cell? w _ hx629_1)).trans hx629_1;replace hx629_2:=(HB.out.cell (World.block_lt_of_cell? w _ hx629_2)).trans hx629_2;replace hx629_3:=(HB.out.cell (World.block_lt_of_cell? w _ hx629_3)).trans hx629_3;have HR629_2:=Z hi629_2;have HC629_2:=Z hl629_2;clear hi629_2 hl629_2;have HR629_3:=Z hi629_3;have HC629_3:=Z hl629_3;clear hi629_3 hl629_3;replace p629:=eq_true p629;replace q629:=eq_true q629)|((with_reducible refine gate_callee (f:=62) rfl ?_);refine goesL_ (some 14) rfl rfl Try.func62 (by kernel_rfl) rfl #[.agg #[.int .i64 ((rd_T34 l0_0 a1).f1.f0),.slice A629_2 ((rd_T34 l0_0 a1).f1.f1).length c629_2,.slice A629_3 ((rd_T34 l0_0 a1).f1.f2).length c629_3],.int .i64 a2] rfl pG ?_;(with_reducible refine (threshold_Satisfied.calls k ((rd_T34 l0_0 a1).f1.f0) _ _ ((rd_T34 l0_0 a1).f1.f1) _ _ ((rd_T34 l0_0 a1).f1.f2) a2 t630 _ ?side1 ?side2 ?side3 ?side4 A6.out).mono ?_);(case side1=>repeat (first|exact (Kd.C_below HR629_2.out HB.out)|(with_reducible refine Kd.C_alloc ?_ _)|(with_reducible refine Kd.C_drewN ?_ _)|(with_reducible refine Kd.C_drew ?_)));(case side2=>exact HC629_2.out);(case side3=>repeat (first|exact (Kd.C_below HR629_3.out HB.out)|(with_reducible refine Kd.C_alloc ?_ _)|(with_reducible refine Kd.C_drewN ?_ _)|(with_reducible refine Kd.C_drew ?_)));(case side4=>exact HC629_3.out);rintro e w9 ⟨rfl,hb⟩;refine ⟨_,rfl,?_⟩;have n0_:=Z (blk_below (g:=gb628) (o:=.cells #[.slice (some ad629) l0_0.length c0_0] 27 (0,0)) (pK BK628) hb);have n1_:=Z (below_step pB hb);clear BK628;clear HB;have BK628:=n0_;have HB:=n1_;clear n0_ n1_;(try clear hb);(try clear hb2);(try clear hk);(try clear hi)))
   go_ret
   exact ⟨pF,pB⟩
  ·rw [if_neg c5] at H
   exact absurd H (by simp)
 ·rw [if_neg c4] at H
  exact absurd H (by simp)
def closure_unhappy.l0:Nat→Int→List Int→Int→Int→List (S34)→Option (Int × Bool)
 | 0,_,_,_,_,_=>none
 | k+1,x1,x9,x10,x11,x632000=>if x11 < x10 then (if 0≤x11 then (if x11 < (x9.length:Int) then ((closure_content.f k x632000 (rd x9 x11) x1).bind fun t636=>(if t636=true then (closure_unhappy.l0 k x1 x9 x10 (wrap64 (x11+1)) x632000) else (some (rd x9 x11,true)))) else (none)) else (none)) else (some (0,false))
def closure_unhappy.f (k:Nat) (l0_0:List (S34)) (a1:Int):Option (Int × Bool):=(nodeset_Nodes.f k a1).bind fun t632=>(closure_unhappy.l0 k a1 t632 (t632.length:Int) 0 l0_0)
set_option maxHeartbeats 8000000 in
set_option maxRecDepth 100000 in
theorem closure_unhappy.calls (k:Nat) (A0_0:Option Addr) (c0_0:Nat) (l0_0:List (S34)) (a1:Int) (r1:Int) (r2:Bool) (w:World) (hr0_0:Kd.C k34 w A0_0 l0_0.length l0_0) (hc0_0:l0_0.length≤c0_0) (h:closure_unhappy.f k l0_0 a1=some (r1,r2)) :
  Calls Try.prog 120 #[.agg #[.slice A0_0 l0_0.length c0_0],.int .i64 a1] w fun e w'=>e=.returned (.tuple #[.int .i64 r1,.bool r2])∧Below w.heap.size w w':=by
 have hu27:=Try.underlying27
 have HR0_0:=Z hr0_0
 have HC0_0:=Z hc0_0
 clear hr0_0 hc0_0
 have HB:=Z (Below.refl w.heap.size w)
 have H:((nodeset_Nodes.f k a1).bind fun t632=>(closure_unhappy.l0 k a1 t632 (t632.length:Int) 0 l0_0))=some (r1,r2):=h
 clear h
 replace H:=Option.bind_eq_some_iff.mp H
 obtain ⟨t632,A30,H⟩:=H
 try dsimp only at H
 have A3:=Z A30
 clear A30
 have H':=Z H
 clear H
 go_enter Try.func120,Try.ntmps120
 go_wp2_with (first|((with_reducible refine gate_dst (N:=2) rfl ?_);refine box_event ?hg (N:=2) ?hd (cs:=#[.slice A0_0 l0_0.length c0_0]) (t:=27) ?hr ?_;(case hd=>rfl);(case hg=>rfl);(case hr=>first|(go_simp;done)|(go_simp;rfl));intro gb631 hg w4 hbox hb;have n0_:=Z (below_step pB hb);have n1_:=Z (hbox);have n2_:=Z ((pT hg:w.heap.size≤gb631));have n3_:=Z ((pT hg:w.heap.size≤gb631));clear HB;have HB:=n0_;have BK631:=n1_;have GW631:=n2_;have GE631:=n3_;clear n0_ n1_ n2_ n3_;clear hb hbox hg)|((with_reducible refine gate_callee (f:=77) rfl ?_);refine goesL_ (some 9) rfl rfl Try.func77 (by kernel_rfl) rfl #[.int .i64 a1] rfl pG ?_;(with_reducible refine (nodeset_Nodes.calls k a1 t632 _ A3.out).mono ?_);rintro e w5 ⟨v633,rfl,ho0,hb⟩;refine ⟨_,rfl,?_⟩;have n0_:=Z (Kd.R_lower ho0 (below_size pB));have n1_:=Z (blk_below (g:=gb631) (o:=.cells #[.slice A0_0 l0_0.length c0_0] 27 (0,0)) (pK BK631) hb);have n2_:=Z (below_step pB hb);clear BK631;clear HB;have HO634:=n0_;have BK631:=n1_;have HB:=n2_;clear n0_ n1_ n2_;(try clear hb);(try clear hb2);(try clear hk);(try clear hi);(try clear ho0);obtain ⟨Ao6,co6,eo6⟩:=Kd.R_slice HO634.out;subst eo6))
 go_loopg [11] k (fun kq v11 w'=>∃ (x11_1:Int),v11=.int .i64 x11_1∧Aside0 (closure_unhappy.l0 kq a1 t632 (t632.length:Int) x11_1 l0_0=some (r1,r2))∧Aside0 (kq≤k)∧Aside0 (Kd.R (Kd.int .i64) 3 w' w.heap.size (fun _=>True) (.slice Ao6 t632.length co6) t632)∧Aside0 (w'.heap[gb631]?=some (.cells #[(.slice A0_0 l0_0.length c0_0)] 27 (0,0)))∧Aside0 (Below w.heap.size w w'))
 case atStart=>exact ⟨(0),pE,H',⟨Nat.le_refl _⟩,⟨pR HO634⟩,⟨pK BK631⟩,⟨pB⟩⟩
 case round =>
  clear H'
  try clear c1
  try clear p2
  obtain ⟨x11_1,rfl,HA,HK1,HO_9,BK631,HB⟩:=hrel
  cases gk with
  | zero=>exact absurd HA.out (by simp [closure_unhappy.l0])
  | succ k1 =>
   have H:=HA.out
   clear HA
   simp only [closure_unhappy.l0] at H
   by_cases c7:x11_1 < (t632.length:Int)
   ·rw [if_pos c7] at H
    have c7b0:decide (x11_1 < (t632.length:Int))=true:=decide_eq_true c7
    clear c7
    by_cases c8:0≤x11_1
    ·rw [if_pos c8] at H
     have c8b0:decide (0≤x11_1)=true:=decide_eq_true c8
     clear c8
     by_cases c9:x11_1 < (t632.length:Int)
     ·rw [if_pos c9] at H
      have c9b0:decide (x11_1 < (t632.length:Int))=true:=decide_eq_true c9
      clear c9
      replace H:=Option.bind_eq_some_iff.mp H
      obtain ⟨t636,A100,H⟩:=H
      try dsimp only at H
      have A10:=Z A100
      clear A100
      by_cases c11:t636=true
      ·subst c11
       rw [if_pos rfl] at H
       have H':=Z H
       clear H
       have p635:0≤(x11_1:Int):=of_decide_eq_true (by first|(with_reducible assumption)|assumption)
       have q635:x11_1 < (t632.length:Int):=of_decide_eq_true (by first|(with_reducible assumption)|assumption)
       obtain ⟨ad635,e635,hx635_0⟩:=Kd.at_int (Kd.R_reads' HO_9.out).2.2 x11_1 p635 q635
       cases e635
       replace p635:=eq_true p635
       replace q635:=eq_true q635
       have hcz12_0:wr.cell? ⟨gb631,0,none⟩=some (.slice A0_0 l0_0.length c0_0):=(kC BK631.out 0).trans rfl
       have hfz12_0:=kF BK631.out 0
       go_wp2_with (first|((with_reducible refine gate_callee (f:=140) rfl ?_);refine goesL_ (some 18) rfl rfl Try.func140 (by kernel_rfl) rfl #[.agg #[.slice A0_0 l0_0.length c0_0],.int .i64 (rd t632 x11_1),.int .i64 a1] rfl pG ?_;(with_reducible refine (closure_content.calls k1 _ _ l0_0 (rd t632 x11_1) a1 true _ ?side1 ?side2 A10.out).mono ?_);(case side1=>repeat (first|exact (Kd.C_below HR0_0.out HB.out)|(with_reducible refine Kd.C_alloc ?_ _)|(with_reducible refine Kd.C_drewN ?_ _)|(with_reducible refine Kd.C_drew ?_)));(case side2=>exact HC0_0.out);rintro e w13 ⟨rfl,hb⟩;refine ⟨_,rfl,?_⟩;have n0_:=Z (Kd.R_below (pR HO_9) hb);have n1_:=Z (blk_below (g:=gb631) (o:=.cells #[.slice A0_0 l0_0.length c0_0] 27 (0,0)) (pK BK631) hb);have n2_:=Z (below_step pB hb);clear HO_9;clear BK631;clear HB;have HO_9:=n0_;have BK631:=n1_;have HB:=n2_;clear n0_ n1_ n2_;(try clear hb);(try clear hb2);(try clear hk);(try clear hi)))
       go_roundg k1
       case measure=>have:=HK1.out;omega
       case rel=>exact ⟨(wrap64 (x11_1+1)),pE,H',⟨by have:=HK1.out;omega⟩,⟨pR HO_9⟩,⟨pK BK631⟩,⟨pB⟩⟩
      ·replace c11:=Bool.eq_false_iff.mpr c11
       subst c11
       rw [if_neg (show ¬ (false=true) by decide)] at H
       simp only [Option.some.injEq,Prod.mk.injEq] at H
       obtain ⟨rfl,rfl⟩:=H
       have p635:0≤(x11_1:Int):=of_decide_eq_true (by first|(with_reducible assumption)|assumption)
       have q635:x11_1 < (t632.length:Int):=of_decide_eq_true (by first|(with_reducible assumption)|assumption)
       obtain ⟨ad635,e635,hx635_0⟩:=Kd.at_int (Kd.R_reads' HO_9.out).2.2 x11_1 p635 q635
       cases e635
       replace p635:=eq_true p635
       replace q635:=eq_true q635
       have hcz14_0:wr.cell? ⟨gb631,0,none⟩=some (.slice A0_0 l0_0.length c0_0):=(kC BK631.out 0).trans rfl
       have hfz14_0:=kF BK631.out 0
       go_wp2_with (first|((with_reducible refine gate_callee (f:=140) rfl ?_);refine goesL_ (some 18) rfl rfl Try.func140 (by kernel_rfl) rfl #[.agg #[.slice A0_0 l0_0.length c0_0],.int .i64 (rd t632 x11_1),.int .i64 a1] rfl pG ?_;(with_reducible refine (closure_content.calls k1 _ _ l0_0 (rd t632 x11_1) a1 false _ ?side1 ?side2 A10.out).mono ?_);(case side1=>repeat (first|exact (Kd.C_below HR0_0.out HB.out)|(with_reducible refine Kd.C_alloc ?_ _)|(with_reducible refine Kd.C_drewN ?_ _)|(with_reducible refine Kd.C_drew ?_)));(case side2=>exact HC0_0.out);rintro e w15 ⟨rfl,hb⟩;refine ⟨_,rfl,?_⟩;have n0_:=Z (Kd.R_below (pR HO_9) hb);have n1_:=Z (blk_below (g:=gb631) (o:=.cells #[.slice A0_0 l0_0.length c0_0] 27 (0,0)) (pK BK631) hb);have n2_:=Z (below_step pB hb);clear HO_9;clear BK631;clear HB;have HO_9:=n0_;have BK631:=n1_;have HB:=n2_;clear n0_ n1_ n2_;(try clear hb);(try clear hb2);(try clear hk);(try clear hi)))
       go_ret2
       exact ⟨pF,pB⟩
     ·rw [if_neg c9] at H
      exact absurd H (by simp)
    ·rw [if_neg c8] at H
     exact absurd H (by simp)
   ·rw [if_neg c7] at H
    have c7b0:decide (x11_1 < (t632.length:Int))=false:=decide_eq_false c7
    clear c7
    simp only [Option.some.injEq,Prod.mk.injEq] at H
    obtain ⟨rfl,rfl⟩:=H
    go_wp2
    go_ret2
    exact ⟨pF,pB⟩
def closure_Quorum.f (k:Nat) (l0_0:List (S34)) (a1:Int):Option (Bool):=(nodeset_Valid.f a1).bind fun t638=>(if t638=true then (if a1=0 then (some false) else ((closure_inside.f k l0_0 a1).bind fun t639=>(if t639=true then ((closure_unhappy.f k l0_0 a1).bind fun bt640=>(some (!bt640.2))) else (some false)))) else (some false))
set_option maxHeartbeats 8000000 in
set_option maxRecDepth 100000 in
theorem closure_Quorum.calls (k:Nat) (A0_0:Option Addr) (c0_0:Nat) (l0_0:List (S34)) (a1:Int) (r:Bool) (w:World) (hr0_0:Kd.C k34 w A0_0 l0_0.length l0_0) (hc0_0:l0_0.length≤c0_0) (h:closure_Quorum.f k l0_0 a1=some r) :
  Calls Try.prog 103 #[.agg #[.slice A0_0 l0_0.length c0_0],.int .i64 a1] w fun e w'=>e=.returned (.bool r)∧Below w.heap.size w w':=by
 have hu27:=Try.underlying27
 have HR0_0:=Z hr0_0
 have HC0_0:=Z hc0_0
 clear hr0_0 hc0_0
 have HB:=Z (Below.refl w.heap.size w)
 have H:((nodeset_Valid.f a1).bind fun t638=>(if t638=true then (if a1=0 then (some false) else ((closure_inside.f k l0_0 a1).bind fun t639=>(if t639=true then ((closure_unhappy.f k l0_0 a1).bind fun bt640=>(some (!bt640.2))) else (some false)))) else (some false)))=some r:=h
 clear h
 replace H:=Option.bind_eq_some_iff.mp H
 obtain ⟨t638,A30,H⟩:=H
 try dsimp only at H
 have A3:=Z A30
 clear A30
 by_cases c4:t638=true
 ·subst c4
  rw [if_pos rfl] at H
  by_cases c5:a1=0
  ·rw [if_pos c5] at H
   have c5b0:(a1 == 0)=true:=beq_iff_eq.mpr c5
   have c5b1:(a1 != 0)=false:=bne_eq_false_iff_eq.mpr c5
   clear c5
   obtain rfl:=Option.some.inj H
   go_enter Try.func103,Try.ntmps103
   go_wp2_with (first|((with_reducible refine gate_dst (N:=2) rfl ?_);refine box_event ?hg (N:=2) ?hd (cs:=#[.slice A0_0 l0_0.length c0_0]) (t:=27) ?hr ?_;(case hd=>rfl);(case hg=>rfl);(case hr=>first|(go_simp;done)|(go_simp;rfl));intro gb637 hg w6 hbox hb;have n0_:=Z (below_step pB hb);have n1_:=Z (hbox);have n2_:=Z ((pT hg:w.heap.size≤gb637));have n3_:=Z ((pT hg:w.heap.size≤gb637));clear HB;have HB:=n0_;have BK637:=n1_;have GW637:=n2_;have GE637:=n3_;clear n0_ n1_ n2_ n3_;clear hb hbox hg)|((with_reducible refine gate_callee (f:=59) rfl ?_);refine goesL_ (some 8) rfl rfl Try.func59 (by kernel_rfl) rfl #[.int .i64 a1] rfl pG ?_;(with_reducible refine (nodeset_Valid.calls a1 true _ A3.out).mono ?_);rintro e w' ⟨rfl,⟨nd,rfl⟩⟩;refine ⟨_,rfl,?_⟩))
   go_ret
   exact ⟨pF,pB⟩
  ·rw [if_neg c5] at H
   have c5b0:(a1 == 0)=false:=beq_eq_false_iff_ne.mpr c5
   have c5b1:(a1 != 0)=true:=bne_iff_ne.mpr c5
   replace H:=Option.bind_eq_some_iff.mp H
   obtain ⟨t639,A70,H⟩:=H
   try dsimp only at H
   have A7:=Z A70
   clear A70
   by_cases c8:t639=true
   ·subst c8
    rw [if_pos rfl] at H
    replace H:=Option.bind_eq_some_iff.mp H
    obtain ⟨⟨t640,t641⟩,A90,H⟩:=H
    try dsimp only at H
    have A9:=Z A90
    clear A90
    obtain rfl:=Option.some.inj H
    go_enter Try.func103,Try.ntmps103
    go_wp2_with (first|((with_reducible refine gate_dst (N:=2) rfl ?_);refine box_event ?hg (N:=2) ?hd (cs:=#[.slice A0_0 l0_0.length c0_0]) (t:=27) ?hr ?_;(case hd=>rfl);(case hg=>rfl);(case hr=>first|(go_simp;done)|(go_simp;rfl));intro gb637 hg w10 hbox hb;have n0_:=Z (below_step pB hb);have n1_:=Z (hbox);have n2_:=Z ((pT hg:w.heap.size≤gb637));have n3_:=Z ((pT hg:w.heap.size≤gb637));clear HB;have HB:=n0_;have BK637:=n1_;have GW637:=n2_;have GE637:=n3_;clear n0_ n1_ n2_ n3_;clear hb hbox hg)|((with_reducible refine gate_callee (f:=59) rfl ?_);refine goesL_ (some 8) rfl rfl Try.func59 (by kernel_rfl) rfl #[.int .i64 a1] rfl pG ?_;(with_reducible refine (nodeset_Valid.calls a1 true _ A3.out).mono ?_);rintro e w' ⟨rfl,⟨nd,rfl⟩⟩;refine ⟨_,rfl,?_⟩;have hcz11_0:w10.cell? ⟨gb637,0,none⟩=some (.slice A0_0 l0_0.length c0_0):=(kC BK637.out 0).trans rfl;have hfz11_0:=kF BK637.out 0)|(go_at_call 119;(with_reducible refine (closure_inside.calls k _ _ l0_0 a1 true _ ?side1 ?side2 A7.out).mono ?_);(case side1=>exact pC HR0_0);(case side2=>exact HC0_0.out);rintro e w12 ⟨rfl,hb⟩;have n0_:=Z (blk_below (g:=gb637) (o:=.cells #[.slice A0_0 l0_0.length c0_0] 27 (0,0)) (pK BK637) hb);have n1_:=Z (below_step pB hb);clear BK637;clear HB;have BK637:=n0_;have HB:=n1_;clear n0_ n1_;(try clear hb);(try clear hb2);(try clear hk);(try clear hi);have hcz13_0:w12.cell? ⟨gb637,0,none⟩=some (.slice A0_0 l0_0.length c0_0):=(kC BK637.out 0).trans rfl;have hfz13_0:=kF BK637.out 0)|((with_reducible refine gate_callee (f:=120) rfl ?_);refine goesL_ (some 23) rfl rfl Try.func120 (by kernel_rfl) rfl #[.agg #[.slice A0_0 l0_0.length c0_0],.int .i64 a1] rfl pG ?_;(with_reducible refine (closure_unhappy.calls k _ _ l0_0 a1 t640 t641 _ ?side1 ?side2 A9.out).mono ?_);(case side1=>repeat (first|exact (Kd.C_below HR0_0.out HB.out)|(with_reducible refine Kd.C_alloc ?_ _)|(with_reducible refine Kd.C_drewN ?_ _)|(with_reducible refine Kd.C_drew ?_)));(case side2=>exact HC0_0.out);rintro e w14 ⟨rfl,hb⟩;refine ⟨_,rfl,?_⟩;have n0_:=Z (blk_below (g:=gb637) (o:=.cells #[.slice A0_0 l0_0.length c0_0] 27 (0,0)) (pK BK637) hb);have n1_:=Z (below_step pB hb);clear BK637;clear HB;have BK637:=n0_;have HB:=n1_;clear n0_ n1_;(try clear hb);(try clear hb2);(try clear hk);(try clear hi)))
    go_ret
    exact ⟨pF,pB⟩
   ·replace c8:=Bool.eq_false_iff.mpr c8
    subst c8
    rw [if_neg (show ¬ (false=true) by decide)] at H
    obtain rfl:=Option.some.inj H
    go_enter Try.func103,Try.ntmps103
    go_wp2_with (first|((with_reducible refine gate_dst (N:=2) rfl ?_);refine box_event ?hg (N:=2) ?hd (cs:=#[.slice A0_0 l0_0.length c0_0]) (t:=27) ?hr ?_;(case hd=>rfl);(case hg=>rfl);(case hr=>first|(go_simp;done)|(go_simp;rfl));intro gb637 hg w15 hbox hb;have n0_:=Z (below_step pB hb);have n1_:=Z (hbox);have n2_:=Z ((pT hg:w.heap.size≤gb637));have n3_:=Z ((pT hg:w.heap.size≤gb637));clear HB;have HB:=n0_;have BK637:=n1_;have GW637:=n2_;have GE637:=n3_;clear n0_ n1_ n2_ n3_;clear hb hbox hg)|((with_reducible refine gate_callee (f:=59) rfl ?_);refine goesL_ (some 8) rfl rfl Try.func59 (by kernel_rfl) rfl #[.int .i64 a1] rfl pG ?_;(with_reducible refine (nodeset_Valid.calls a1 true _ A3.out).mono ?_);rintro e w' ⟨rfl,⟨nd,rfl⟩⟩;refine ⟨_,rfl,?_⟩;have hcz16_0:w15.cell? ⟨gb637,0,none⟩=some (.slice A0_0 l0_0.length c0_0):=(kC BK637.out 0).trans rfl;have hfz16_0:=kF BK637.out 0)|(go_at_call 119;(with_reducible refine (closure_inside.calls k _ _ l0_0 a1 false _ ?side1 ?side2 A7.out).mono ?_);(case side1=>exact pC HR0_0);(case side2=>exact HC0_0.out);rintro e w17 ⟨rfl,hb⟩;have n0_:=Z (blk_below (g:=gb637) (o:=.cells #[.slice A0_0 l0_0.length c0_0] 27 (0,0)) (pK BK637) hb);have n1_:=Z (below_step pB hb);clear BK637;clear HB;have BK637:=n0_;have HB:=n1_;clear n0_ n1_;(try clear hb);(try clear hb2);(try clear hk);(try clear hi)))
    go_ret
    exact ⟨pF,pB⟩
 ·replace c4:=Bool.eq_false_iff.mpr c4
  subst c4
  rw [if_neg (show ¬ (false=true) by decide)] at H
  obtain rfl:=Option.some.inj H
  go_enter Try.func103,Try.ntmps103
  go_wp2_with (first|((with_reducible refine gate_dst (N:=2) rfl ?_);refine box_event ?hg (N:=2) ?hd (cs:=#[.slice A0_0 l0_0.length c0_0]) (t:=27) ?hr ?_;(case hd=>rfl);(case hg=>rfl);(case hr=>first|(go_simp;done)|(go_simp;rfl));intro gb637 hg w18 hbox hb;have n0_:=Z (below_step pB hb);have n1_:=Z (hbox);have n2_:=Z ((pT hg:w.heap.size≤gb637));have n3_:=Z ((pT hg:w.heap.size≤gb637));clear HB;have HB:=n0_;have BK637:=n1_;have GW637:=n2_;have GE637:=n3_;clear n0_ n1_ n2_ n3_;clear hb hbox hg)|((with_reducible refine gate_callee (f:=59) rfl ?_);refine goesL_ (some 8) rfl rfl Try.func59 (by kernel_rfl) rfl #[.int .i64 a1] rfl pG ?_;(with_reducible refine (nodeset_Valid.calls a1 false _ A3.out).mono ?_);rintro e w' ⟨rfl,⟨nd,rfl⟩⟩;refine ⟨_,rfl,?_⟩))
  go_ret
  exact ⟨pF,pB⟩
def closure_eliminate.l0:Nat→Int→List Int→List (S34)→Option (Int × List Int)
 | 0,_,_,_=>none
 | k+1,x1,x6,x852000=>(closure_unhappy.f k x852000 x1).bind fun bt854=>(if bt854.2=true then (if x6.length < 17592186044416 then (if 0≤bt854.1 then (closure_eliminate.l0 k (Go.bits .andNot .i64 x1 (shl .i64 1 bt854.1)) (x6++[bt854.1]) x852000) else (none)) else (none)) else (some (x1,x6)))
def closure_eliminate.f (k:Nat) (l0_0:List (S34)) (a1:Int):Option (Int × List Int):=(nodeset_Valid.f a1).bind fun t852=>(if t852=true then ((configuration_Declared.f k l0_0).bind fun t853=>(closure_eliminate.l0 k (Go.bits .and .i64 a1 t853) ([]:List Int) l0_0)) else (some (0,([]:List Int))))
set_option maxHeartbeats 8000000 in
set_option maxRecDepth 100000 in
theorem closure_eliminate.calls (k:Nat) (A0_0:Option Addr) (c0_0:Nat) (l0_0:List (S34)) (a1:Int) (r1:Int) (r2:List Int) (w:World) (hr0_0:Kd.C k34 w A0_0 l0_0.length l0_0) (hc0_0:l0_0.length≤c0_0) (h:closure_eliminate.f k l0_0 a1=some (r1,r2)) :
  Calls Try.prog 124 #[.agg #[.slice A0_0 l0_0.length c0_0],.int .i64 a1] w fun e w'=>∃ v1_:Value,e=.returned (.tuple #[.int .i64 r1,v1_])∧Kd.R (Kd.int .i64) 3 w' w.heap.size (fun _=>True) v1_ r2∧Below w.heap.size w w':=by
 have hu27:=Try.underlying27
 have HR0_0:=Z hr0_0
 have HC0_0:=Z hc0_0
 clear hr0_0 hc0_0
 have HB:=Z (Below.refl w.heap.size w)
 have H:((nodeset_Valid.f a1).bind fun t852=>(if t852=true then ((configuration_Declared.f k l0_0).bind fun t853=>(closure_eliminate.l0 k (Go.bits .and .i64 a1 t853) ([]:List Int) l0_0)) else (some (0,([]:List Int)))))=some (r1,r2):=h
 clear h
 replace H:=Option.bind_eq_some_iff.mp H
 obtain ⟨t852,A30,H⟩:=H
 try dsimp only at H
 have A3:=Z A30
 clear A30
 by_cases c4:t852=true
 ·subst c4
  rw [if_pos rfl] at H
  replace H:=Option.bind_eq_some_iff.mp H
  obtain ⟨t853,A50,H⟩:=H
  try dsimp only at H
  have A5:=Z A50
  clear A50
  have H':=Z H
  clear H
  go_enter Try.func124,Try.ntmps124
  go_wp2_with (first|((with_reducible refine gate_dst (N:=2) rfl ?_);refine box_event ?hg (N:=2) ?hd (cs:=#[.slice A0_0 l0_0.length c0_0]) (t:=27) ?hr ?_;(case hd=>rfl);(case hg=>rfl);(case hr=>first|(go_simp;done)|(go_simp;rfl));intro gb851 hg w6 hbox hb;have n0_:=Z (below_step pB hb);have n1_:=Z (hbox);have n2_:=Z ((pT hg:w.heap.size≤gb851));have n3_:=Z ((pT hg:w.heap.size≤gb851));clear HB;have HB:=n0_;have BK851:=n1_;have GW851:=n2_;have GE851:=n3_;clear n0_ n1_ n2_ n3_;clear hb hbox hg)|((with_reducible refine gate_callee (f:=59) rfl ?_);refine goesL_ (some 10) rfl rfl Try.func59 (by kernel_rfl) rfl #[.int .i64 a1] rfl pG ?_;(with_reducible refine (nodeset_Valid.calls a1 true _ A3.out).mono ?_);rintro e w' ⟨rfl,⟨nd,rfl⟩⟩;refine ⟨_,rfl,?_⟩;have hcz7_0:w6.cell? ⟨gb851,0,none⟩=some (.slice A0_0 l0_0.length c0_0):=(kC BK851.out 0).trans rfl;have hfz7_0:=kF BK851.out 0)|((with_reducible refine gate_callee (f:=61) rfl ?_);refine goesL_ (some 14) rfl rfl Try.func61 (by kernel_rfl) rfl #[.agg #[.slice A0_0 l0_0.length c0_0]] rfl pG ?_;(with_reducible refine (configuration_Declared.calls k _ _ l0_0 t853 _ ?side1 ?side2 A5.out).mono ?_);(case side1=>exact pC HR0_0);(case side2=>exact HC0_0.out);rintro e w8 ⟨rfl,hb⟩;refine ⟨_,rfl,?_⟩;have n0_:=Z (blk_below (g:=gb851) (o:=.cells #[.slice A0_0 l0_0.length c0_0] 27 (0,0)) (pK BK851) hb);have n1_:=Z (below_step pB hb);clear BK851;clear HB;have BK851:=n0_;have HB:=n1_;clear n0_ n1_;(try clear hb);(try clear hb2);(try clear hk);(try clear hi)))
  go_loopg [1,6] k (fun kq v1 v6 w'=>∃ (x1_1:Int) (x6_1:List Int),v1=.int .i64 x1_1∧Aside0 (closure_eliminate.l0 kq x1_1 x6_1 l0_0=some (r1,r2))∧Aside0 (kq≤k)∧Aside0 (Kd.R (Kd.int .i64) 3 w' w.heap.size (fun _=>True) v6 x6_1)∧Aside0 (w'.heap[gb851]?=some (.cells #[(.slice A0_0 l0_0.length c0_0)] 27 (0,0)))∧Aside0 (Below w.heap.size w w'))
  case atStart=>exact ⟨(Go.bits .and .i64 a1 t853),(([]:List Int)),pE,H',⟨Nat.le_refl _⟩,⟨pN⟩,⟨pK BK851⟩,⟨pB⟩⟩
  case round =>
   clear H'
   try clear c1
   try clear p2
   try clear c4
   try clear c5
   try clear c6
   try clear hcz7_0
   try clear hfz7_0
   obtain ⟨x1_1,x6_1,rfl,HA,HK1,HO_6,BK851,HB⟩:=hrel
   cases gk with
   | zero=>exact absurd HA.out (by simp [closure_eliminate.l0])
   | succ k1 =>
    have H:=HA.out
    clear HA
    simp only [closure_eliminate.l0] at H
    replace H:=Option.bind_eq_some_iff.mp H
    obtain ⟨⟨t854,t855⟩,A90,H⟩:=H
    try dsimp only at H
    have A9:=Z A90
    clear A90
    by_cases c10:t855=true
    ·subst c10
     rw [if_pos rfl] at H
     by_cases c11:x6_1.length < 17592186044416
     ·rw [if_pos c11] at H
      have LMc11:=Z c11
      clear c11
      obtain ⟨y856,hy856⟩:∃ y_:List Int,y_=(x6_1++[t854]):=⟨_,rfl⟩
      first|rw [← hy856] at H|(replace H:=(Option.bind_some _ _).symm.trans H;rw [← hy856] at H)
      have Ny856:=Z hy856
      clear hy856
      by_cases c12:0≤t854
      ·rw [if_pos c12] at H
       have c12b0:=eq_true c12
       have c12b1:decide (0≤t854)=true:=decide_eq_true c12
       clear c12
       obtain ⟨ji13,hji13⟩:∃ j_:Int,(shl .i64 1 t854)=j_:=⟨_,rfl⟩
       replace H:(closure_eliminate.l0 k1 (Go.bits .andNot .i64 x1_1 (ji13)) y856 l0_0)=some (r1,r2):=by first|(rw [hji13] at H;exact H)|(simp only [hji13] at H ⊢;exact H)
       (try rw [hji13] at A9)
       have hji13_:(IntKind.i64.wrap (1 * 2 ^ min t854.toNat 64))=ji13:=hji13
       have hji13z:t854≤64→(IntKind.i64.wrap (1 * 2 ^ t854.toNat))=ji13:=shl_small hji13
       have hji13u:(IntKind.i64.wrap (2 ^ min t854.toNat 64))=ji13:=by have h_:=hji13_;rw [Int.one_mul] at h_;exact h_
       have hji13v:t854≤64→(IntKind.i64.wrap (2 ^ t854.toNat))=ji13:=fun hle_=>by have h_:=hji13z hle_;rw [Int.one_mul] at h_;exact h_
       have hji13y:(wrap64 (1 * 2 ^ min t854.toNat 64))=ji13:=(i64_w _).symm.trans hji13_
       have hji13x:t854≤64→(wrap64 (1 * 2 ^ t854.toNat))=ji13:=fun h_=>(i64_w _).symm.trans (hji13z h_)
       have H':=Z H
       clear H
       have hcz14_0:wr.cell? ⟨gb851,0,none⟩=some (.slice A0_0 l0_0.length c0_0):=(kC BK851.out 0).trans rfl
       have hfz14_0:=kF BK851.out 0
       go_wp2_with (first|((with_reducible refine gate_callee (f:=120) rfl ?_);refine goesL_ (some 19) rfl rfl Try.func120 (by kernel_rfl) rfl #[.agg #[.slice A0_0 l0_0.length c0_0],.int .i64 x1_1] rfl pG ?_;(with_reducible refine (closure_unhappy.calls k1 _ _ l0_0 x1_1 t854 true _ ?side1 ?side2 A9.out).mono ?_);(case side1=>repeat (first|exact (Kd.C_below HR0_0.out HB.out)|(with_reducible refine Kd.C_alloc ?_ _)|(with_reducible refine Kd.C_drewN ?_ _)|(with_reducible refine Kd.C_drew ?_)));(case side2=>exact HC0_0.out);rintro e w15 ⟨rfl,hb⟩;refine ⟨_,rfl,?_⟩;have n0_:=Z (Kd.R_below (pR HO_6) hb);have n1_:=Z (blk_below (g:=gb851) (o:=.cells #[.slice A0_0 l0_0.length c0_0] 27 (0,0)) (pK BK851) hb);have n2_:=Z (below_step pB hb);clear HO_6;clear BK851;clear HB;have HO_6:=n0_;have BK851:=n1_;have HB:=n2_;clear n0_ n1_ n2_;(try clear hb);(try clear hb2);(try clear hk);(try clear hi))|((with_reducible refine gate_builtin (b:=.append) (xs:=#[.tmp 26,.tmp 28]) rfl ?_);at_builtin;refine Kd.R_append (Kd.int .i64) (w0:=w) w.heap.size rfl (.tmp 26) (.tmp 28) 22 3 (.int .i64 0) 8 rfl Try.underlying22 info3 rfl (by decide) (by omega) u6 x6_1 t854 [.int .i64 t854] (fun _=>True) (fun _=>False) rfl rfl ?aP (fun _ hk=>hk.elim) ?aF ?aO ?aB ?aS ?aL ?_;(case aP=>exact rfl);(case aB=>exact pB);(case aF=>exact (fun _ _=>trivial));(case aO=>exact (pR HO_6));(case aS=>exact (below_size pB));(case aL=>have:=LMc11.out;omega);intro v857 w16 ho hb hg hat;rw [← Ny856.out] at ho;have n0_:=Z (blk_grown (g:=gb851) (o:=.cells #[.slice A0_0 l0_0.length c0_0] 27 (0,0)) (pK BK851) hg (Kd.R_ne HO_6.out BK851.out (by decide)));have n1_:=Z (hb);have n2_:=Z (ho);clear BK851;clear HB;clear HO_6;have BK851:=n0_;have HB:=n1_;have HO858:=n2_;clear n0_ n1_ n2_;clear ho hb hg hat))
       go_roundg k1
       case measure=>have:=HK1.out;omega
       case rel=>exact ⟨(Go.bits .andNot .i64 x1_1 (ji13)),(y856),(by first|exact pE|(simp only [← hji13] <;> (first|rfl|simp))),H',⟨by have:=HK1.out;omega⟩,⟨pR HO858⟩,⟨pK BK851⟩,⟨pB⟩⟩
      ·rw [if_neg c12] at H
       exact absurd H (by simp)
     ·rw [if_neg c11] at H
      exact absurd H (by simp)
    ·replace c10:=Bool.eq_false_iff.mpr c10
     subst c10
     rw [if_neg (show ¬ (false=true) by decide)] at H
     simp only [Option.some.injEq,Prod.mk.injEq] at H
     obtain ⟨rfl,rfl⟩:=H
     have hcz17_0:wr.cell? ⟨gb851,0,none⟩=some (.slice A0_0 l0_0.length c0_0):=(kC BK851.out 0).trans rfl
     have hfz17_0:=kF BK851.out 0
     go_wp2_with (first|((with_reducible refine gate_callee (f:=120) rfl ?_);refine goesL_ (some 19) rfl rfl Try.func120 (by kernel_rfl) rfl #[.agg #[.slice A0_0 l0_0.length c0_0],.int .i64 x1_1] rfl pG ?_;(with_reducible refine (closure_unhappy.calls k1 _ _ l0_0 x1_1 t854 false _ ?side1 ?side2 A9.out).mono ?_);(case side1=>repeat (first|exact (Kd.C_below HR0_0.out HB.out)|(with_reducible refine Kd.C_alloc ?_ _)|(with_reducible refine Kd.C_drewN ?_ _)|(with_reducible refine Kd.C_drew ?_)));(case side2=>exact HC0_0.out);rintro e w18 ⟨rfl,hb⟩;refine ⟨_,rfl,?_⟩;have n0_:=Z (Kd.R_below (pR HO_6) hb);have n1_:=Z (blk_below (g:=gb851) (o:=.cells #[.slice A0_0 l0_0.length c0_0] 27 (0,0)) (pK BK851) hb);have n2_:=Z (below_step pB hb);clear HO_6;clear BK851;clear HB;have HO_6:=n0_;have BK851:=n1_;have HB:=n2_;clear n0_ n1_ n2_;(try clear hb);(try clear hb2);(try clear hk);(try clear hi)))
     go_ret2
     exact ⟨_,pF,pR HO_6,pB⟩
 ·replace c4:=Bool.eq_false_iff.mpr c4
  subst c4
  rw [if_neg (show ¬ (false=true) by decide)] at H
  simp only [Option.some.injEq,Prod.mk.injEq] at H
  obtain ⟨rfl,rfl⟩:=H
  go_enter Try.func124,Try.ntmps124
  go_wp2_with (first|((with_reducible refine gate_dst (N:=2) rfl ?_);refine box_event ?hg (N:=2) ?hd (cs:=#[.slice A0_0 l0_0.length c0_0]) (t:=27) ?hr ?_;(case hd=>rfl);(case hg=>rfl);(case hr=>first|(go_simp;done)|(go_simp;rfl));intro gb851 hg w19 hbox hb;have n0_:=Z (below_step pB hb);have n1_:=Z (hbox);have n2_:=Z ((pT hg:w.heap.size≤gb851));have n3_:=Z ((pT hg:w.heap.size≤gb851));clear HB;have HB:=n0_;have BK851:=n1_;have GW851:=n2_;have GE851:=n3_;clear n0_ n1_ n2_ n3_;clear hb hbox hg)|((with_reducible refine gate_callee (f:=59) rfl ?_);refine goesL_ (some 10) rfl rfl Try.func59 (by kernel_rfl) rfl #[.int .i64 a1] rfl pG ?_;(with_reducible refine (nodeset_Valid.calls a1 false _ A3.out).mono ?_);rintro e w' ⟨rfl,⟨nd,rfl⟩⟩;refine ⟨_,rfl,?_⟩))
  go_ret2
  exact ⟨_,pF,pN,pB⟩
def closure_Greatest.f (k:Nat) (l0_0:List (S34)) (a1:Int):Option (Int):=(closure_eliminate.f k l0_0 a1).bind fun bt860=>(some bt860.1)
set_option maxHeartbeats 8000000 in
set_option maxRecDepth 100000 in
theorem closure_Greatest.calls (k:Nat) (A0_0:Option Addr) (c0_0:Nat) (l0_0:List (S34)) (a1:Int) (r:Int) (w:World) (hr0_0:Kd.C k34 w A0_0 l0_0.length l0_0) (hc0_0:l0_0.length≤c0_0) (h:closure_Greatest.f k l0_0 a1=some r) :
  Calls Try.prog 107 #[.agg #[.slice A0_0 l0_0.length c0_0],.int .i64 a1] w fun e w'=>e=.returned (.int .i64 r)∧Below w.heap.size w w':=by
 have hu27:=Try.underlying27
 have HR0_0:=Z hr0_0
 have HC0_0:=Z hc0_0
 clear hr0_0 hc0_0
 have HB:=Z (Below.refl w.heap.size w)
 have H:((closure_eliminate.f k l0_0 a1).bind fun bt860=>(some bt860.1))=some r:=h
 clear h
 replace H:=Option.bind_eq_some_iff.mp H
 obtain ⟨⟨t860,t861⟩,A30,H⟩:=H
 try dsimp only at H
 have A3:=Z A30
 clear A30
 obtain rfl:=Option.some.inj H
 go_enter Try.func107,Try.ntmps107
 go_wp2_with (first|((with_reducible refine gate_dst (N:=2) rfl ?_);refine box_event ?hg (N:=2) ?hd (cs:=#[.slice A0_0 l0_0.length c0_0]) (t:=27) ?hr ?_;(case hd=>rfl);(case hg=>rfl);(case hr=>first|(go_simp;done)|(go_simp;rfl));intro gb859 hg w4 hbox hb;have n0_:=Z (below_step pB hb);have n1_:=Z (hbox);have n2_:=Z ((pT hg:w.heap.size≤gb859));have n3_:=Z ((pT hg:w.heap.size≤gb859));clear HB;have HB:=n0_;have BK859:=n1_;have GW859:=n2_;have GE859:=n3_;clear n0_ n1_ n2_ n3_;clear hb hbox hg;have hcz5_0:w4.cell? ⟨gb859,0,none⟩=some (.slice A0_0 l0_0.length c0_0):=(kC BK859.out 0).trans rfl;have hfz5_0:=kF BK859.out 0)|((with_reducible refine gate_callee (f:=124) rfl ?_);refine goesL_ (some 10) rfl rfl Try.func124 (by kernel_rfl) rfl #[.agg #[.slice A0_0 l0_0.length c0_0],.int .i64 a1] rfl pG ?_;(with_reducible refine (closure_eliminate.calls k _ _ l0_0 a1 t860 t861 _ ?side1 ?side2 A3.out).mono ?_);(case side1=>repeat (first|exact (Kd.C_below HR0_0.out HB.out)|(with_reducible refine Kd.C_alloc ?_ _)|(with_reducible refine Kd.C_drewN ?_ _)|(with_reducible refine Kd.C_drew ?_)));(case side2=>exact HC0_0.out);rintro e w6 ⟨v862,rfl,ho0,hb⟩;refine ⟨_,rfl,?_⟩;have n0_:=Z (Kd.R_lower ho0 (below_size pB));have n1_:=Z (blk_below (g:=gb859) (o:=.cells #[.slice A0_0 l0_0.length c0_0] 27 (0,0)) (pK BK859) hb);have n2_:=Z (below_step pB hb);clear BK859;clear HB;have HO863:=n0_;have BK859:=n1_;have HB:=n2_;clear n0_ n1_ n2_;(try clear hb);(try clear hb2);(try clear hk);(try clear hi);(try clear ho0)))
 go_ret
 exact ⟨pF,pB⟩
def bits_OnesCount64.f (a0:Int):Option (Int):=some (Go.bits .and .i64 (wrap64 (IntKind.u64.wrap ((IntKind.u64.wrap ((IntKind.u64.wrap ((Go.bits .and .u64 (IntKind.u64.wrap (((IntKind.u64.wrap ((Go.bits .and .u64 ((IntKind.u64.wrap ((Go.bits .and .u64 (a0 / 2) 6148914691236517205)+(Go.bits .and .u64 a0 6148914691236517205))) / 4) 3689348814741910323)+(Go.bits .and .u64 (IntKind.u64.wrap ((Go.bits .and .u64 (a0 / 2) 6148914691236517205)+(Go.bits .and .u64 a0 6148914691236517205))) 3689348814741910323))) / 16)+(IntKind.u64.wrap ((Go.bits .and .u64 ((IntKind.u64.wrap ((Go.bits .and .u64 (a0 / 2) 6148914691236517205)+(Go.bits .and .u64 a0 6148914691236517205))) / 4) 3689348814741910323)+(Go.bits .and .u64 (IntKind.u64.wrap ((Go.bits .and .u64 (a0 / 2) 6148914691236517205)+(Go.bits .and .u64 a0 6148914691236517205))) 3689348814741910323))))) 1085102592571150095)+((Go.bits .and .u64 (IntKind.u64.wrap (((IntKind.u64.wrap ((Go.bits .and .u64 ((IntKind.u64.wrap ((Go.bits .and .u64 (a0 / 2) 6148914691236517205)+(Go.bits .and .u64 a0 6148914691236517205))) / 4) 3689348814741910323)+(Go.bits .and .u64 (IntKind.u64.wrap ((Go.bits .and .u64 (a0 / 2) 6148914691236517205)+(Go.bits .and .u64 a0 6148914691236517205))) 3689348814741910323))) / 16)+(IntKind.u64.wrap ((Go.bits .and .u64 ((IntKind.u64.wrap ((Go.bits .and .u64 (a0 / 2) 6148914691236517205)+(Go.bits .and .u64 a0 6148914691236517205))) / 4) 3689348814741910323)+(Go.bits .and .u64 (IntKind.u64.wrap ((Go.bits .and .u64 (a0 / 2) 6148914691236517205)+(Go.bits .and .u64 a0 6148914691236517205))) 3689348814741910323))))) 1085102592571150095) / 256)))+((IntKind.u64.wrap ((Go.bits .and .u64 (IntKind.u64.wrap (((IntKind.u64.wrap ((Go.bits .and .u64 ((IntKind.u64.wrap ((Go.bits .and .u64 (a0 / 2) 6148914691236517205)+(Go.bits .and .u64 a0 6148914691236517205))) / 4) 3689348814741910323)+(Go.bits .and .u64 (IntKind.u64.wrap ((Go.bits .and .u64 (a0 / 2) 6148914691236517205)+(Go.bits .and .u64 a0 6148914691236517205))) 3689348814741910323))) / 16)+(IntKind.u64.wrap ((Go.bits .and .u64 ((IntKind.u64.wrap ((Go.bits .and .u64 (a0 / 2) 6148914691236517205)+(Go.bits .and .u64 a0 6148914691236517205))) / 4) 3689348814741910323)+(Go.bits .and .u64 (IntKind.u64.wrap ((Go.bits .and .u64 (a0 / 2) 6148914691236517205)+(Go.bits .and .u64 a0 6148914691236517205))) 3689348814741910323))))) 1085102592571150095)+((Go.bits .and .u64 (IntKind.u64.wrap (((IntKind.u64.wrap ((Go.bits .and .u64 ((IntKind.u64.wrap ((Go.bits .and .u64 (a0 / 2) 6148914691236517205)+(Go.bits .and .u64 a0 6148914691236517205))) / 4) 3689348814741910323)+(Go.bits .and .u64 (IntKind.u64.wrap ((Go.bits .and .u64 (a0 / 2) 6148914691236517205)+(Go.bits .and .u64 a0 6148914691236517205))) 3689348814741910323))) / 16)+(IntKind.u64.wrap ((Go.bits .and .u64 ((IntKind.u64.wrap ((Go.bits .and .u64 (a0 / 2) 6148914691236517205)+(Go.bits .and .u64 a0 6148914691236517205))) / 4) 3689348814741910323)+(Go.bits .and .u64 (IntKind.u64.wrap ((Go.bits .and .u64 (a0 / 2) 6148914691236517205)+(Go.bits .and .u64 a0 6148914691236517205))) 3689348814741910323))))) 1085102592571150095) / 256))) / 65536)))+((IntKind.u64.wrap ((IntKind.u64.wrap ((Go.bits .and .u64 (IntKind.u64.wrap (((IntKind.u64.wrap ((Go.bits .and .u64 ((IntKind.u64.wrap ((Go.bits .and .u64 (a0 / 2) 6148914691236517205)+(Go.bits .and .u64 a0 6148914691236517205))) / 4) 3689348814741910323)+(Go.bits .and .u64 (IntKind.u64.wrap ((Go.bits .and .u64 (a0 / 2) 6148914691236517205)+(Go.bits .and .u64 a0 6148914691236517205))) 3689348814741910323))) / 16)+(IntKind.u64.wrap ((Go.bits .and .u64 ((IntKind.u64.wrap ((Go.bits .and .u64 (a0 / 2) 6148914691236517205)+(Go.bits .and .u64 a0 6148914691236517205))) / 4) 3689348814741910323)+(Go.bits .and .u64 (IntKind.u64.wrap ((Go.bits .and .u64 (a0 / 2) 6148914691236517205)+(Go.bits .and .u64 a0 6148914691236517205))) 3689348814741910323))))) 1085102592571150095)+((Go.bits .and .u64 (IntKind.u64.wrap (((IntKind.u64.wrap ((Go.bits .and .u64 ((IntKind.u64.wrap ((Go.bits .and .u64 (a0 / 2) 6148914691236517205)+(Go.bits .and .u64 a0 6148914691236517205))) / 4) 3689348814741910323)+(Go.bits .and .u64 (IntKind.u64.wrap ((Go.bits .and .u64 (a0 / 2) 6148914691236517205)+(Go.bits .and .u64 a0 6148914691236517205))) 3689348814741910323))) / 16)+(IntKind.u64.wrap ((Go.bits .and .u64 ((IntKind.u64.wrap ((Go.bits .and .u64 (a0 / 2) 6148914691236517205)+(Go.bits .and .u64 a0 6148914691236517205))) / 4) 3689348814741910323)+(Go.bits .and .u64 (IntKind.u64.wrap ((Go.bits .and .u64 (a0 / 2) 6148914691236517205)+(Go.bits .and .u64 a0 6148914691236517205))) 3689348814741910323))))) 1085102592571150095) / 256)))+((IntKind.u64.wrap ((Go.bits .and .u64 (IntKind.u64.wrap (((IntKind.u64.wrap ((Go.bits .and .u64 ((IntKind.u64.wrap ((Go.bits .and .u64 (a0 / 2) 6148914691236517205)+(Go.bits .and .u64 a0 6148914691236517205))) / 4) 3689348814741910323)+(Go.bits .and .u64 (IntKind.u64.wrap ((Go.bits .and .u64 (a0 / 2) 6148914691236517205)+(Go.bits .and .u64 a0 6148914691236517205))) 3689348814741910323))) / 16)+(IntKind.u64.wrap ((Go.bits .and .u64 ((IntKind.u64.wrap ((Go.bits .and .u64 (a0 / 2) 6148914691236517205)+(Go.bits .and .u64 a0 6148914691236517205))) / 4) 3689348814741910323)+(Go.bits .and .u64 (IntKind.u64.wrap ((Go.bits .and .u64 (a0 / 2) 6148914691236517205)+(Go.bits .and .u64 a0 6148914691236517205))) 3689348814741910323))))) 1085102592571150095)+((Go.bits .and .u64 (IntKind.u64.wrap (((IntKind.u64.wrap ((Go.bits .and .u64 ((IntKind.u64.wrap ((Go.bits .and .u64 (a0 / 2) 6148914691236517205)+(Go.bits .and .u64 a0 6148914691236517205))) / 4) 3689348814741910323)+(Go.bits .and .u64 (IntKind.u64.wrap ((Go.bits .and .u64 (a0 / 2) 6148914691236517205)+(Go.bits .and .u64 a0 6148914691236517205))) 3689348814741910323))) / 16)+(IntKind.u64.wrap ((Go.bits .and .u64 ((IntKind.u64.wrap ((Go.bits .and .u64 (a0 / 2) 6148914691236517205)+(Go.bits .and .u64 a0 6148914691236517205))) / 4) 3689348814741910323)+(Go.bits .and .u64 (IntKind.u64.wrap ((Go.bits .and .u64 (a0 / 2) 6148914691236517205)+(Go.bits .and .u64 a0 6148914691236517205))) 3689348814741910323))))) 1085102592571150095) / 256))) / 65536))) / 4294967296)))) 127)
set_option maxHeartbeats 8000000 in
set_option maxRecDepth 100000 in
theorem bits_OnesCount64.calls (a0:Int) (r:Int) (w:World) (h:bits_OnesCount64.f a0=some r) :
  Calls Try.prog 145 #[.int .u64 a0] w fun e w'=>e=.returned (.int .i64 r)∧Drawn0 w w':=by
 have H:(some (Go.bits .and .i64 (wrap64 (IntKind.u64.wrap ((IntKind.u64.wrap ((IntKind.u64.wrap ((Go.bits .and .u64 (IntKind.u64.wrap (((IntKind.u64.wrap ((Go.bits .and .u64 ((IntKind.u64.wrap ((Go.bits .and .u64 (a0 / 2) 6148914691236517205)+(Go.bits .and .u64 a0 6148914691236517205))) / 4) 3689348814741910323)+(Go.bits .and .u64 (IntKind.u64.wrap ((Go.bits .and .u64 (a0 / 2) 6148914691236517205)+(Go.bits .and .u64 a0 6148914691236517205))) 3689348814741910323))) / 16)+(IntKind.u64.wrap ((Go.bits .and .u64 ((IntKind.u64.wrap ((Go.bits .and .u64 (a0 / 2) 6148914691236517205)+(Go.bits .and .u64 a0 6148914691236517205))) / 4) 3689348814741910323)+(Go.bits .and .u64 (IntKind.u64.wrap ((Go.bits .and .u64 (a0 / 2) 6148914691236517205)+(Go.bits .and .u64 a0 6148914691236517205))) 3689348814741910323))))) 1085102592571150095)+((Go.bits .and .u64 (IntKind.u64.wrap (((IntKind.u64.wrap ((Go.bits .and .u64 ((IntKind.u64.wrap ((Go.bits .and .u64 (a0 / 2) 6148914691236517205)+(Go.bits .and .u64 a0 6148914691236517205))) / 4) 3689348814741910323)+(Go.bits .and .u64 (IntKind.u64.wrap ((Go.bits .and .u64 (a0 / 2) 6148914691236517205)+(Go.bits .and .u64 a0 6148914691236517205))) 3689348814741910323))) / 16)+(IntKind.u64.wrap ((Go.bits .and .u64 ((IntKind.u64.wrap ((Go.bits .and .u64 (a0 / 2) 6148914691236517205)+(Go.bits .and .u64 a0 6148914691236517205))) / 4) 3689348814741910323)+(Go.bits .and .u64 (IntKind.u64.wrap ((Go.bits .and .u64 (a0 / 2) 6148914691236517205)+(Go.bits .and .u64 a0 6148914691236517205))) 3689348814741910323))))) 1085102592571150095) / 256)))+((IntKind.u64.wrap ((Go.bits .and .u64 (IntKind.u64.wrap (((IntKind.u64.wrap ((Go.bits .and .u64 ((IntKind.u64.wrap ((Go.bits .and .u64 (a0 / 2) 6148914691236517205)+(Go.bits .and .u64 a0 6148914691236517205))) / 4) 3689348814741910323)+(Go.bits .and .u64 (IntKind.u64.wrap ((Go.bits .and .u64 (a0 / 2) 6148914691236517205)+(Go.bits .and .u64 a0 6148914691236517205))) 3689348814741910323))) / 16)+(IntKind.u64.wrap ((Go.bits .and .u64 ((IntKind.u64.wrap ((Go.bits .and .u64 (a0 / 2) 6148914691236517205)+(Go.bits .and .u64 a0 6148914691236517205))) / 4) 3689348814741910323)+(Go.bits .and .u64 (IntKind.u64.wrap ((Go.bits .and .u64 (a0 / 2) 6148914691236517205)+(Go.bits .and .u64 a0 6148914691236517205))) 3689348814741910323))))) 1085102592571150095)+((Go.bits .and .u64 (IntKind.u64.wrap (((IntKind.u64.wrap ((Go.bits .and .u64 ((IntKind.u64.wrap ((Go.bits .and .u64 (a0 / 2) 6148914691236517205)+(Go.bits .and .u64 a0 6148914691236517205))) / 4) 3689348814741910323)+(Go.bits .and .u64 (IntKind.u64.wrap ((Go.bits .and .u64 (a0 / 2) 6148914691236517205)+(Go.bits .and .u64 a0 6148914691236517205))) 3689348814741910323))) / 16)+(IntKind.u64.wrap ((Go.bits .and .u64 ((IntKind.u64.wrap ((Go.bits .and .u64 (a0 / 2) 6148914691236517205)+(Go.bits .and .u64 a0 6148914691236517205))) / 4) 3689348814741910323)+(Go.bits .and .u64 (IntKind.u64.wrap ((Go.bits .and .u64 (a0 / 2) 6148914691236517205)+(Go.bits .and .u64 a0 6148914691236517205))) 3689348814741910323))))) 1085102592571150095) / 256))) / 65536)))+((IntKind.u64.wrap ((IntKind.u64.wrap ((Go.bits .and .u64 (IntKind.u64.wrap (((IntKind.u64.wrap ((Go.bits .and .u64 ((IntKind.u64.wrap ((Go.bits .and .u64 (a0 / 2) 6148914691236517205)+(Go.bits .and .u64 a0 6148914691236517205))) / 4) 3689348814741910323)+(Go.bits .and .u64 (IntKind.u64.wrap ((Go.bits .and .u64 (a0 / 2) 6148914691236517205)+(Go.bits .and .u64 a0 6148914691236517205))) 3689348814741910323))) / 16)+(IntKind.u64.wrap ((Go.bits .and .u64 ((IntKind.u64.wrap ((Go.bits .and .u64 (a0 / 2) 6148914691236517205)+(Go.bits .and .u64 a0 6148914691236517205))) / 4) 3689348814741910323)+(Go.bits .and .u64 (IntKind.u64.wrap ((Go.bits .and .u64 (a0 / 2) 6148914691236517205)+(Go.bits .and .u64 a0 6148914691236517205))) 3689348814741910323))))) 1085102592571150095)+((Go.bits .and .u64 (IntKind.u64.wrap (((IntKind.u64.wrap ((Go.bits .and .u64 ((IntKind.u64.wrap ((Go.bits .and .u64 (a0 / 2) 6148914691236517205)+(Go.bits .and .u64 a0 6148914691236517205))) / 4) 3689348814741910323)+(Go.bits .and .u64 (IntKind.u64.wrap ((Go.bits .and .u64 (a0 / 2) 6148914691236517205)+(Go.bits .and .u64 a0 6148914691236517205))) 3689348814741910323))) / 16)+(IntKind.u64.wrap ((Go.bits .and .u64 ((IntKind.u64.wrap ((Go.bits .and .u64 (a0 / 2) 6148914691236517205)+(Go.bits .and .u64 a0 6148914691236517205))) / 4) 3689348814741910323)+(Go.bits .and .u64 (IntKind.u64.wrap ((Go.bits .and .u64 (a0 / 2) 6148914691236517205)+(Go.bits .and .u64 a0 6148914691236517205))) 3689348814741910323))))) 1085102592571150095) / 256)))+((IntKind.u64.wrap ((Go.bits .and .u64 (IntKind.u64.wrap (((IntKind.u64.wrap ((Go.bits .and .u64 ((IntKind.u64.wrap ((Go.bits .and .u64 (a0 / 2) 6148914691236517205)+(Go.bits .and .u64 a0 6148914691236517205))) / 4) 3689348814741910323)+(Go.bits .and .u64 (IntKind.u64.wrap ((Go.bits .and .u64 (a0 / 2) 6148914691236517205)+(Go.bits .and .u64 a0 6148914691236517205))) 3689348814741910323))) / 16)+(IntKind.u64.wrap ((Go.bits .and .u64 ((IntKind.u64.wrap ((Go.bits .and .u64 (a0 / 2) 6148914691236517205)+(Go.bits .and .u64 a0 6148914691236517205))) / 4) 3689348814741910323)+(Go.bits .and .u64 (IntKind.u64.wrap ((Go.bits .and .u64 (a0 / 2) 6148914691236517205)+(Go.bits .and .u64 a0 6148914691236517205))) 3689348814741910323))))) 1085102592571150095)+((Go.bits .and .u64 (IntKind.u64.wrap (((IntKind.u64.wrap ((Go.bits .and .u64 ((IntKind.u64.wrap ((Go.bits .and .u64 (a0 / 2) 6148914691236517205)+(Go.bits .and .u64 a0 6148914691236517205))) / 4) 3689348814741910323)+(Go.bits .and .u64 (IntKind.u64.wrap ((Go.bits .and .u64 (a0 / 2) 6148914691236517205)+(Go.bits .and .u64 a0 6148914691236517205))) 3689348814741910323))) / 16)+(IntKind.u64.wrap ((Go.bits .and .u64 ((IntKind.u64.wrap ((Go.bits .and .u64 (a0 / 2) 6148914691236517205)+(Go.bits .and .u64 a0 6148914691236517205))) / 4) 3689348814741910323)+(Go.bits .and .u64 (IntKind.u64.wrap ((Go.bits .and .u64 (a0 / 2) 6148914691236517205)+(Go.bits .and .u64 a0 6148914691236517205))) 3689348814741910323))))) 1085102592571150095) / 256))) / 65536))) / 4294967296)))) 127))=some r:=h
 clear h
 obtain rfl:=Option.some.inj H
 go_enter Try.func145,Try.ntmps145
 go_wp2
 go_ret
 exact ⟨by first|rfl|(simp;done)|(simp [*];done),by repeat (first|exact Drawn0.refl _|apply Drawn0.step)⟩
def bits_OnesCount.f (a0:Int):Option (Int):=(bits_OnesCount64.f a0).bind fun t285=>(some t285)
set_option maxHeartbeats 8000000 in
set_option maxRecDepth 100000 in
theorem bits_OnesCount.calls (a0:Int) (r:Int) (w:World) (h:bits_OnesCount.f a0=some r) :
  Calls Try.prog 125 #[.int .u64 a0] w fun e w'=>e=.returned (.int .i64 r)∧Drawn0 w w':=by
 have H:((bits_OnesCount64.f a0).bind fun t285=>(some t285))=some r:=h
 clear h
 replace H:=Option.bind_eq_some_iff.mp H
 obtain ⟨t285,A20,H⟩:=H
 try dsimp only at H
 have A2:=Z A20
 clear A20
 obtain rfl:=Option.some.inj H
 go_enter Try.func125,Try.ntmps125
 go_wp2_with (first|((with_reducible refine gate_callee (f:=145) rfl ?_);refine goesL_ (some 7) rfl rfl Try.func145 (by kernel_rfl) rfl #[.int .u64 a0] rfl pG ?_;(with_reducible refine (bits_OnesCount64.calls a0 t285 _ A2.out).mono ?_);rintro e w' ⟨rfl,⟨nd,rfl⟩⟩;refine ⟨_,rfl,?_⟩))
 go_ret
 exact ⟨by first|rfl|(simp;done)|(simp [*];done),by repeat (first|exact Drawn0.refl _|apply Drawn0.step)⟩
def nodeset_Size.f (a0:Int):Option (Int):=(nodeset_Valid.f a0).bind fun t286=>(if t286=true then ((bits_OnesCount.f (IntKind.u64.wrap (a0))).bind fun t287=>(some t287)) else (some 0))
set_option maxHeartbeats 8000000 in
set_option maxRecDepth 100000 in
theorem nodeset_Size.calls (a0:Int) (r:Int) (w:World) (h:nodeset_Size.f a0=some r) :
  Calls Try.prog 108 #[.int .i64 a0] w fun e w'=>e=.returned (.int .i64 r)∧Drawn0 w w':=by
 have H:((nodeset_Valid.f a0).bind fun t286=>(if t286=true then ((bits_OnesCount.f (IntKind.u64.wrap (a0))).bind fun t287=>(some t287)) else (some 0)))=some r:=h
 clear h
 replace H:=Option.bind_eq_some_iff.mp H
 obtain ⟨t286,A20,H⟩:=H
 try dsimp only at H
 have A2:=Z A20
 clear A20
 by_cases c3:t286=true
 ·subst c3
  rw [if_pos rfl] at H
  replace H:=Option.bind_eq_some_iff.mp H
  obtain ⟨t287,A40,H⟩:=H
  try dsimp only at H
  have A4:=Z A40
  clear A40
  obtain rfl:=Option.some.inj H
  go_enter Try.func108,Try.ntmps108
  go_wp2_with (first|((with_reducible refine gate_callee (f:=59) rfl ?_);refine goesL_ (some 4) rfl rfl Try.func59 (by kernel_rfl) rfl #[.int .i64 a0] rfl pG ?_;(with_reducible refine (nodeset_Valid.calls a0 true _ A2.out).mono ?_);rintro e w' ⟨rfl,⟨nd,rfl⟩⟩;refine ⟨_,rfl,?_⟩)|((with_reducible refine gate_callee (f:=125) rfl ?_);refine goesL_ (some 8) rfl rfl Try.func125 (by kernel_rfl) rfl #[.int .u64 (IntKind.u64.wrap (a0))] rfl pG ?_;(with_reducible refine (bits_OnesCount.calls (IntKind.u64.wrap (a0)) t287 _ A4.out).mono ?_);rintro e w' ⟨rfl,⟨nd,rfl⟩⟩;refine ⟨_,rfl,?_⟩))
  go_ret
  exact ⟨by first|rfl|(simp;done)|(simp [*];done),by repeat (first|exact Drawn0.refl _|apply Drawn0.step)⟩
 ·replace c3:=Bool.eq_false_iff.mpr c3
  subst c3
  rw [if_neg (show ¬ (false=true) by decide)] at H
  obtain rfl:=Option.some.inj H
  go_enter Try.func108,Try.ntmps108
  go_wp2_with (first|((with_reducible refine gate_callee (f:=59) rfl ?_);refine goesL_ (some 4) rfl rfl Try.func59 (by kernel_rfl) rfl #[.int .i64 a0] rfl pG ?_;(with_reducible refine (nodeset_Valid.calls a0 false _ A2.out).mono ?_);rintro e w' ⟨rfl,⟨nd,rfl⟩⟩;refine ⟨_,rfl,?_⟩))
  go_ret
  exact ⟨by first|rfl|(simp;done)|(simp [*];done),by repeat (first|exact Drawn0.refl _|apply Drawn0.step)⟩
mutual
def nodeset_Next.j0:Nat→Int→Int→Bool→Option (Int × Bool)
 | 0,_,_,_=>none
 | k+1,x0,x1,x19=>if x19=true then (some (0,false)) else ((nodeset_Size.f x0).bind fun t865=>(nodeset_Next.l0 k x1 t865 (wrap64 (x0+1))))
def nodeset_Next.l0:Nat→Int→Int→Int→Option (Int × Bool)
 | 0,_,_,_=>none
 | k+1,x1,x6,x7=>(nodeset_below.f x7 x1).bind fun t866=>(if t866=true then ((nodeset_Size.f x7).bind fun t867=>(if t867=x6 then (some (x7,true)) else (nodeset_Next.l0 k x1 x6 (wrap64 (x7+1))))) else (if x6=x1 then (some (0,false)) else (if 0≤(wrap64 (x6+1)) then (some (wrap64 ((shl .i64 1 (wrap64 (x6+1))) - 1),true)) else (none))))
end
def nodeset_Next.f (k:Nat) (a0:Int) (a1:Int):Option (Int × Bool):=if a1 < 0 then (nodeset_Next.j0 k a0 a1 true) else (if a1 > 10 then (nodeset_Next.j0 k a0 a1 true) else ((nodeset_below.f a0 a1).bind fun t864=>(nodeset_Next.j0 k a0 a1 (!t864))))
set_option maxHeartbeats 8000000 in
set_option maxRecDepth 100000 in
theorem nodeset_Next.calls (k:Nat) (a0:Int) (a1:Int) (r1:Int) (r2:Bool) (w:World) (h:nodeset_Next.f k a0 a1=some (r1,r2)) :
  Calls Try.prog 141 #[.int .i64 a0,.int .i64 a1] w fun e w'=>e=.returned (.tuple #[.int .i64 r1,.bool r2])∧Drawn0 w w':=by
 have H:(if a1 < 0 then (nodeset_Next.j0 k a0 a1 true) else (if a1 > 10 then (nodeset_Next.j0 k a0 a1 true) else ((nodeset_below.f a0 a1).bind fun t864=>(nodeset_Next.j0 k a0 a1 (!t864)))))=some (r1,r2):=h
 clear h
 have HC3:=Z H
 clear H
 go_enter Try.func141,Try.ntmps141
 go_upto_region 1 with (fail)
 go_cut [19] (fun v19 wc=>∃ (kq:Nat) (x19_2:Bool),v19=.bool x19_2∧Aside0 (nodeset_Next.j0 kq a0 a1 x19_2=some (r1,r2))∧Aside0 (kq≤k)∧Drawn0 w wc)
 case first =>
  have H:=HC3.out
  clear HC3
  by_cases c4:a1 < 0
  ·rw [if_pos c4] at H
   have c4b0:decide (a1 < 0)=true:=decide_eq_true c4
   clear c4
   (first|rw [c4b0]|(simp only [i64_w,i32_w];rw [c4b0])|skip)
   have H':=Z H
   clear H
   go_wp2
   go_meet
   case rel=>exact ⟨_,(true),pE,H',⟨by first|omega|exact Nat.le_refl _⟩,by repeat (first|exact Drawn0.refl _|apply Drawn0.step)⟩
  ·rw [if_neg c4] at H
   have c4b0:decide (a1 < 0)=false:=decide_eq_false c4
   clear c4
   (first|rw [c4b0]|(simp only [i64_w,i32_w];rw [c4b0])|skip)
   by_cases c5:a1 > 10
   ·rw [if_pos c5] at H
    have c5b0:decide (10 < a1)=true:=decide_eq_true c5
    clear c5
    have H':=Z H
    clear H
    go_wp2
    go_meet
    case rel=>exact ⟨_,(true),pE,H',⟨by first|omega|exact Nat.le_refl _⟩,by repeat (first|exact Drawn0.refl _|apply Drawn0.step)⟩
   ·rw [if_neg c5] at H
    have c5b0:decide (10 < a1)=false:=decide_eq_false c5
    clear c5
    replace H:=Option.bind_eq_some_iff.mp H
    obtain ⟨t864,A60,H⟩:=H
    try dsimp only at H
    have A6:=Z A60
    clear A60
    have H':=Z H
    clear H
    go_wp2_with (first|(go_at_call 91;(with_reducible refine (nodeset_below.calls a0 a1 t864 _ A6.out).mono ?_);rintro e w' ⟨rfl,⟨nd,rfl⟩⟩))
    go_meet
    case rel=>exact ⟨_,(!t864),pE,H',⟨by first|omega|exact Nat.le_refl _⟩,by repeat (first|exact Drawn0.refl _|apply Drawn0.step)⟩
 case rest =>
  clear HC3
  try clear c1
  try clear p2
  try clear c4
  try clear c4b0
  try clear c5
  try clear c5b0
  obtain ⟨kq,x19_2,rfl,HA,HJ2,⟨mc2,rfl⟩⟩:=hcut
  cases kq with
  | zero=>exact absurd HA.out (by simp [nodeset_Next.j0])
  | succ kj2 =>
   have H:=HA.out
   clear HA
   simp only [nodeset_Next.j0] at H
   by_cases c7:x19_2=true
   ·subst c7
    rw [if_pos rfl] at H
    simp only [Option.some.injEq,Prod.mk.injEq] at H
    obtain ⟨rfl,rfl⟩:=H
    go_wp2
    go_ret2
    exact ⟨by first|rfl|(simp;done)|(simp [*];done),by repeat (first|exact Drawn0.refl _|apply Drawn0.step)⟩
   ·replace c7:=Bool.eq_false_iff.mpr c7
    subst c7
    rw [if_neg (show ¬ (false=true) by decide)] at H
    replace H:=Option.bind_eq_some_iff.mp H
    obtain ⟨t865,A80,H⟩:=H
    try dsimp only at H
    have A8:=Z A80
    clear A80
    have H':=Z H
    clear H
    go_wp2_with (first|((with_reducible refine gate_callee (f:=108) rfl ?_);refine goesL_ (some 21) rfl rfl Try.func108 (by kernel_rfl) rfl #[.int .i64 a0] rfl pG ?_;(with_reducible refine (nodeset_Size.calls a0 t865 _ A8.out).mono ?_);rintro e w' ⟨rfl,⟨nd,rfl⟩⟩;refine ⟨_,rfl,?_⟩))
    go_loopg [7] kj2 (fun kq v7 w'=>∃ (x7_2:Int),v7=.int .i64 x7_2∧Aside0 (nodeset_Next.l0 kq a1 t865 x7_2=some (r1,r2))∧Aside0 (kq≤kj2)∧Drawn0 w w')
    case atStart=>exact ⟨(wrap64 (a0+1)),pE,H',⟨Nat.le_refl _⟩,by repeat (first|exact Drawn0.refl _|apply Drawn0.step)⟩
    case round =>
     clear H'
     try clear c1
     try clear c2
     try clear p2
     try clear c4
     try clear c4b0
     try clear c5
     try clear c5b0
     try clear p6
     try clear c7
     obtain ⟨x7_2,rfl,HA,HK2,⟨m2,rfl⟩⟩:=hrel
     cases gk with
     | zero=>exact absurd HA.out (by simp [nodeset_Next.l0])
     | succ k2 =>
      have H:=HA.out
      clear HA
      simp only [nodeset_Next.l0] at H
      replace H:=Option.bind_eq_some_iff.mp H
      obtain ⟨t866,A90,H⟩:=H
      try dsimp only at H
      have A9:=Z A90
      clear A90
      by_cases c10:t866=true
      ·subst c10
       rw [if_pos rfl] at H
       replace H:=Option.bind_eq_some_iff.mp H
       obtain ⟨t867,A110,H⟩:=H
       try dsimp only at H
       have A11:=Z A110
       clear A110
       by_cases c12:t867=t865
       ·rw [if_pos c12] at H
        have c12b0:(t867 == t865)=true:=beq_iff_eq.mpr c12
        have c12b1:(t867 != t865)=false:=bne_eq_false_iff_eq.mpr c12
        clear c12
        simp only [Option.some.injEq,Prod.mk.injEq] at H
        obtain ⟨rfl,rfl⟩:=H
        go_wp2_with (first|((with_reducible refine gate_callee (f:=91) rfl ?_);refine goesL_ (some 26) rfl rfl Try.func91 (by kernel_rfl) rfl #[.int .i64 x7_2,.int .i64 a1] rfl pG ?_;(with_reducible refine (nodeset_below.calls x7_2 a1 true _ A9.out).mono ?_);rintro e w' ⟨rfl,⟨nd,rfl⟩⟩;refine ⟨_,rfl,?_⟩)|((with_reducible refine gate_callee (f:=108) rfl ?_);refine goesL_ (some 30) rfl rfl Try.func108 (by kernel_rfl) rfl #[.int .i64 x7_2] rfl pG ?_;(with_reducible refine (nodeset_Size.calls x7_2 t867 _ A11.out).mono ?_);rintro e w' ⟨rfl,⟨nd,rfl⟩⟩;refine ⟨_,rfl,?_⟩))
        go_ret2
        exact ⟨by first|rfl|(simp;done)|(simp [*];done),by repeat (first|exact Drawn0.refl _|apply Drawn0.step)⟩
       ·rw [if_neg c12] at H
        have c12b0:(t867 == t865)=false:=beq_eq_false_iff_ne.mpr c12
        have c12b1:(t867 != t865)=true:=bne_iff_ne.mpr c12
        have H':=Z H
        clear H
        go_wp2_with (first|((with_reducible refine gate_callee (f:=91) rfl ?_);refine goesL_ (some 26) rfl rfl Try.func91 (by kernel_rfl) rfl #[.int .i64 x7_2,.int .i64 a1] rfl pG ?_;(with_reducible refine (nodeset_below.calls x7_2 a1 true _ A9.out).mono ?_);rintro e w' ⟨rfl,⟨nd,rfl⟩⟩;refine ⟨_,rfl,?_⟩)|((with_reducible refine gate_callee (f:=108) rfl ?_);refine goesL_ (some 30) rfl rfl Try.func108 (by kernel_rfl) rfl #[.int .i64 x7_2] rfl pG ?_;(with_reducible refine (nodeset_Size.calls x7_2 t867 _ A11.out).mono ?_);rintro e w' ⟨rfl,⟨nd,rfl⟩⟩;refine ⟨_,rfl,?_⟩))
        go_roundg k2
        case measure=>have:=HJ2.out;have:=HK2.out;omega
        case rel=>exact ⟨(wrap64 (x7_2+1)),pE,H',⟨by have:=HJ2.out;have:=HK2.out;omega⟩,by repeat (first|exact Drawn0.refl _|apply Drawn0.step)⟩
      ·replace c10:=Bool.eq_false_iff.mpr c10
       subst c10
       rw [if_neg (show ¬ (false=true) by decide)] at H
       by_cases c13:t865=a1
       ·rw [if_pos c13] at H
        have c13b0:(t865 == a1)=true:=beq_iff_eq.mpr c13
        have c13b1:(t865 != a1)=false:=bne_eq_false_iff_eq.mpr c13
        clear c13
        simp only [Option.some.injEq,Prod.mk.injEq] at H
        obtain ⟨rfl,rfl⟩:=H
        go_wp2_with (first|((with_reducible refine gate_callee (f:=91) rfl ?_);refine goesL_ (some 26) rfl rfl Try.func91 (by kernel_rfl) rfl #[.int .i64 x7_2,.int .i64 a1] rfl pG ?_;(with_reducible refine (nodeset_below.calls x7_2 a1 false _ A9.out).mono ?_);rintro e w' ⟨rfl,⟨nd,rfl⟩⟩;refine ⟨_,rfl,?_⟩))
        go_ret2
        exact ⟨by first|rfl|(simp;done)|(simp [*];done),by repeat (first|exact Drawn0.refl _|apply Drawn0.step)⟩
       ·rw [if_neg c13] at H
        have c13b0:(t865 == a1)=false:=beq_eq_false_iff_ne.mpr c13
        have c13b1:(t865 != a1)=true:=bne_iff_ne.mpr c13
        obtain ⟨ji14,hji14⟩:∃ j_:Int,(wrap64 (t865+1))=j_:=⟨_,rfl⟩
        replace H:(if 0≤(ji14) then (some (wrap64 ((shl .i64 1 (ji14)) - 1),true)) else (none))=some (r1,r2):=by first|(rw [hji14] at H;exact H)|(simp only [hji14] at H ⊢;exact H)
        (try rw [hji14] at A9)
        have hji14w:(IntKind.i64.wrap (t865+1))=ji14:=(i64_w _).trans hji14
        by_cases c15:0≤(ji14)
        ·rw [if_pos c15] at H
         have c15b0:=eq_true c15
         have c15b1:decide (0≤(ji14))=true:=decide_eq_true c15
         clear c15
         obtain ⟨ji16,hji16⟩:∃ j_:Int,(shl .i64 1 (ji14))=j_:=⟨_,rfl⟩
         replace H:(some (wrap64 ((ji16) - 1),true))=some (r1,r2):=by first|(rw [hji16] at H;exact H)|(simp only [hji16] at H ⊢;exact H)
         (try rw [hji16] at A9)
         have hji16_:(IntKind.i64.wrap (1 * 2 ^ min (ji14).toNat 64))=ji16:=hji16
         have hji16z:(ji14)≤64→(IntKind.i64.wrap (1 * 2 ^ (ji14).toNat))=ji16:=shl_small hji16
         have hji16u:(IntKind.i64.wrap (2 ^ min (ji14).toNat 64))=ji16:=by have h_:=hji16_;rw [Int.one_mul] at h_;exact h_
         have hji16v:(ji14)≤64→(IntKind.i64.wrap (2 ^ (ji14).toNat))=ji16:=fun hle_=>by have h_:=hji16z hle_;rw [Int.one_mul] at h_;exact h_
         have hji16y:(wrap64 (1 * 2 ^ min (ji14).toNat 64))=ji16:=(i64_w _).symm.trans hji16_
         have hji16x:(ji14)≤64→(wrap64 (1 * 2 ^ (ji14).toNat))=ji16:=fun h_=>(i64_w _).symm.trans (hji16z h_)
         simp only [Option.some.injEq,Prod.mk.injEq] at H
         obtain ⟨rfl,rfl⟩:=H
         go_wp2_with (first|((with_reducible refine gate_callee (f:=91) rfl ?_);refine goesL_ (some 26) rfl rfl Try.func91 (by kernel_rfl) rfl #[.int .i64 x7_2,.int .i64 a1] rfl pG ?_;(with_reducible refine (nodeset_below.calls x7_2 a1 false _ A9.out).mono ?_);rintro e w' ⟨rfl,⟨nd,rfl⟩⟩;refine ⟨_,rfl,?_⟩))
         go_ret2
         exact ⟨by first|rfl|(simp;done)|(simp only [← hji14,← hji16] <;> (first|rfl|simp))|(simp [*];done),by repeat (first|exact Drawn0.refl _|apply Drawn0.step)⟩
        ·rw [if_neg c15] at H
         exact absurd H (by simp)
def intersection_members.f (l0_0:List (S34)):Option (Int):=some (wrap64 ((shl .i64 1 (l0_0.length:Int)) - 1))
set_option maxHeartbeats 8000000 in
set_option maxRecDepth 100000 in
theorem intersection_members.calls (A0_0:Option Addr) (c0_0:Nat) (l0_0:List (S34)) (r:Int) (w:World) (hr0_0:Kd.C k34 w A0_0 l0_0.length l0_0) (hc0_0:l0_0.length≤c0_0) (h:intersection_members.f l0_0=some r) :
  Calls Try.prog 142 #[.agg #[.slice A0_0 l0_0.length c0_0]] w fun e w'=>e=.returned (.int .i64 r)∧Below w.heap.size w w':=by
 have hu27:=Try.underlying27
 have HR0_0:=Z hr0_0
 have HC0_0:=Z hc0_0
 clear hr0_0 hc0_0
 have HB:=Z (Below.refl w.heap.size w)
 have H:(some (wrap64 ((shl .i64 1 (l0_0.length:Int)) - 1)))=some r:=h
 clear h
 obtain ⟨ji2,hji2⟩:∃ j_:Int,(shl .i64 1 (l0_0.length:Int))=j_:=⟨_,rfl⟩
 replace H:(some (wrap64 ((ji2) - 1)))=some r:=by first|(rw [hji2] at H;exact H)|(simp only [hji2] at H ⊢;exact H)
 have hji2_:(IntKind.i64.wrap (1 * 2 ^ min (l0_0.length:Int).toNat 64))=ji2:=hji2
 have hji2z:(l0_0.length:Int)≤64→(IntKind.i64.wrap (1 * 2 ^ (l0_0.length:Int).toNat))=ji2:=shl_small hji2
 have hji2p:(IntKind.i64.wrap (1 * 2 ^ min l0_0.length 64))=ji2:=hji2_
 have hji2q:(l0_0.length:Int)≤64→(IntKind.i64.wrap (1 * 2 ^ l0_0.length))=ji2:=hji2z
 have hji2r:(IntKind.i64.wrap (2 ^ min l0_0.length 64))=ji2:=by have h_:=hji2p;rw [Int.one_mul] at h_;exact h_
 have hji2s:(l0_0.length:Int)≤64→(IntKind.i64.wrap (2 ^ l0_0.length))=ji2:=fun hle_=>by have h_:=hji2q hle_;rw [Int.one_mul] at h_;exact h_
 have hji2u:(IntKind.i64.wrap (2 ^ min (l0_0.length:Int).toNat 64))=ji2:=by have h_:=hji2_;rw [Int.one_mul] at h_;exact h_
 have hji2v:(l0_0.length:Int)≤64→(IntKind.i64.wrap (2 ^ (l0_0.length:Int).toNat))=ji2:=fun hle_=>by have h_:=hji2z hle_;rw [Int.one_mul] at h_;exact h_
 have hji2y:(wrap64 (1 * 2 ^ min (l0_0.length:Int).toNat 64))=ji2:=(i64_w _).symm.trans hji2_
 have hji2x:(l0_0.length:Int)≤64→(wrap64 (1 * 2 ^ (l0_0.length:Int).toNat))=ji2:=fun h_=>(i64_w _).symm.trans (hji2z h_)
 obtain rfl:=Option.some.inj H
 go_enter Try.func142,Try.ntmps142
 go_wp2_with (first|((with_reducible refine gate_dst (N:=1) rfl ?_);refine box_event ?hg (N:=1) ?hd (cs:=#[.slice A0_0 l0_0.length c0_0]) (t:=27) ?hr ?_;(case hd=>rfl);(case hg=>rfl);(case hr=>first|(go_simp;done)|(go_simp;rfl));intro gb868 hg w3 hbox hb;have n0_:=Z (below_step pB hb);have n1_:=Z (hbox);have n2_:=Z ((pT hg:w.heap.size≤gb868));have n3_:=Z ((pT hg:w.heap.size≤gb868));clear HB;have HB:=n0_;have BK868:=n1_;have GW868:=n2_;have GE868:=n3_;clear n0_ n1_ n2_ n3_;clear hb hbox hg;have hcz4_0:w3.cell? ⟨gb868,0,none⟩=some (.slice A0_0 l0_0.length c0_0):=(kC BK868.out 0).trans rfl;have hfz4_0:=kF BK868.out 0))
 go_ret
 exact ⟨by first|rfl|(simp [errW_none,errW_some] <;> rfl)|(simp only [← hji2];first|rfl|(simp [errW_none,errW_some] <;> rfl))|(simp [*,errW_none,errW_some] <;> rfl),pB⟩
def intersection_find.l0:Nat→Int→Int→Bool→List (S34)→Option (Int × Int)
 | 0,_,_,_,_=>none
 | k+1,x4,x5,x6,x870000=>if x6=true then ((closure_Quorum.f k x870000 x5).bind fun t870=>(if t870=true then ((intersection_members.f x870000).bind fun t873=>((closure_Greatest.f k x870000 (Go.bits .andNot .i64 t873 x5)).bind fun t874=>(if t874=0 then ((nodeset_Next.f k x5 x4).bind fun bt875=>(intersection_find.l0 k x4 bt875.1 bt875.2 x870000)) else (some (x5,t874))))) else ((nodeset_Next.f k x5 x4).bind fun bt871=>(intersection_find.l0 k x4 bt871.1 bt871.2 x870000)))) else (some (0,0))
def intersection_find.f (k:Nat) (l0_0:List (S34)):Option (Int × Int):=intersection_find.l0 k (l0_0.length:Int) 0 true l0_0
set_option maxHeartbeats 8000000 in
set_option maxRecDepth 100000 in
theorem intersection_find.calls (k:Nat) (A0_0:Option Addr) (c0_0:Nat) (l0_0:List (S34)) (r1:Int) (r2:Int) (w:World) (hr0_0:Kd.C k34 w A0_0 l0_0.length l0_0) (hc0_0:l0_0.length≤c0_0) (h:intersection_find.f k l0_0=some (r1,r2)) :
  Calls Try.prog 121 #[.agg #[.slice A0_0 l0_0.length c0_0]] w fun e w'=>e=.returned (.tuple #[.int .i64 r1,.int .i64 r2])∧Below w.heap.size w w':=by
 have hu27:=Try.underlying27
 have HR0_0:=Z hr0_0
 have HC0_0:=Z hc0_0
 clear hr0_0 hc0_0
 have HB:=Z (Below.refl w.heap.size w)
 have H:(intersection_find.l0 k (l0_0.length:Int) 0 true l0_0)=some (r1,r2):=h
 clear h
 have H':=Z H
 clear H
 go_enter Try.func121,Try.ntmps121
 go_wp2_with (first|((with_reducible refine gate_dst (N:=1) rfl ?_);refine box_event ?hg (N:=1) ?hd (cs:=#[.slice A0_0 l0_0.length c0_0]) (t:=27) ?hr ?_;(case hd=>rfl);(case hg=>rfl);(case hr=>first|(go_simp;done)|(go_simp;rfl));intro gb869 hg w2 hbox hb;have n0_:=Z (below_step pB hb);have n1_:=Z (hbox);have n2_:=Z ((pT hg:w.heap.size≤gb869));have n3_:=Z ((pT hg:w.heap.size≤gb869));clear HB;have HB:=n0_;have BK869:=n1_;have GW869:=n2_;have GE869:=n3_;clear n0_ n1_ n2_ n3_;clear hb hbox hg;have hcz3_0:w2.cell? ⟨gb869,0,none⟩=some (.slice A0_0 l0_0.length c0_0):=(kC BK869.out 0).trans rfl;have hfz3_0:=kF BK869.out 0))
 go_loopg [5,6] k (fun kq v5 v6 w'=>∃ (x5_1:Int) (x6_1:Bool),v5=.int .i64 x5_1∧v6=.bool x6_1∧Aside0 (intersection_find.l0 kq (l0_0.length:Int) x5_1 x6_1 l0_0=some (r1,r2))∧Aside0 (kq≤k)∧Aside0 (w'.heap[gb869]?=some (.cells #[(.slice A0_0 l0_0.length c0_0)] 27 (0,0)))∧Aside0 (Below w.heap.size w w'))
 case atStart=>exact ⟨(0),(true),pE,pE,H',⟨Nat.le_refl _⟩,⟨pK BK869⟩,⟨pB⟩⟩
 case round =>
  clear H'
  try clear c1
  try clear p2
  try clear hcz3_0
  try clear hfz3_0
  obtain ⟨x5_1,x6_1,rfl,rfl,HA,HK1,BK869,HB⟩:=hrel
  cases gk with
  | zero=>exact absurd HA.out (by simp [intersection_find.l0])
  | succ k1 =>
   have H:=HA.out
   clear HA
   simp only [intersection_find.l0] at H
   by_cases c4:x6_1=true
   ·subst c4
    rw [if_pos rfl] at H
    replace H:=Option.bind_eq_some_iff.mp H
    obtain ⟨t870,A50,H⟩:=H
    try dsimp only at H
    have A5:=Z A50
    clear A50
    by_cases c6:t870=true
    ·subst c6
     rw [if_pos rfl] at H
     replace H:=Option.bind_eq_some_iff.mp H
     obtain ⟨t873,A70,H⟩:=H
     try dsimp only at H
     have A7:=Z A70
     clear A70
     replace H:=Option.bind_eq_some_iff.mp H
     obtain ⟨t874,A80,H⟩:=H
     try dsimp only at H
     have A8:=Z A80
     clear A80
     by_cases c9:t874=0
     ·rw [if_pos c9] at H
      have c9b0:(t874 == 0)=true:=beq_iff_eq.mpr c9
      have c9b1:(t874 != 0)=false:=bne_eq_false_iff_eq.mpr c9
      clear c9
      replace H:=Option.bind_eq_some_iff.mp H
      obtain ⟨⟨t875,t876⟩,A100,H⟩:=H
      try dsimp only at H
      have A10:=Z A100
      clear A100
      have H':=Z H
      clear H
      have hcz11_0:wr.cell? ⟨gb869,0,none⟩=some (.slice A0_0 l0_0.length c0_0):=(kC BK869.out 0).trans rfl
      have hfz11_0:=kF BK869.out 0
      try go_wp2_with (first|((with_reducible refine gate_callee (f:=103) rfl ?_);refine goesL_ (some 20) rfl rfl Try.func103 (by kernel_rfl) rfl #[.agg #[.slice A0_0 l0_0.length c0_0],.int .i64 x5_1] rfl pG ?_;(with_reducible refine (closure_Quorum.calls k1 _ _ l0_0 x5_1 true _ ?side1 ?side2 A5.out).mono ?_);(case side1=>repeat (first|exact (Kd.C_below HR0_0.out HB.out)|(with_reducible refine Kd.C_alloc ?_ _)|(with_reducible refine Kd.C_drewN ?_ _)|(with_reducible refine Kd.C_drew ?_)));(case side2=>exact HC0_0.out);rintro e w12 ⟨rfl,hb⟩;refine ⟨_,rfl,?_⟩;have n0_:=Z (blk_below (g:=gb869) (o:=.cells #[.slice A0_0 l0_0.length c0_0] 27 (0,0)) (pK BK869) hb);have n1_:=Z (below_step pB hb);clear BK869;clear HB;have BK869:=n0_;have HB:=n1_;clear n0_ n1_;(try clear hb);(try clear hb2);(try clear hk);(try clear hi)))
      have n0_:=Z (kD BK869.out)
      have n1_:=Z (wD HB.out)
      clear BK869
      clear HB
      have BK869:=n0_
      have HB:=n1_
      clear n0_ n1_
      refine start_ (n:=7) (S:=fun w'=>w'.cell? ⟨gb869,0,none⟩=some (.slice A0_0 l0_0.length c0_0)) (ds:=[]) #[false,false,false,false,false,false,false] (by kernel_rfl) rfl rfl ((kC BK869.out 0).trans rfl) (fun hHeld=>?_)
      generalize w12.drew=w13 at BK869 HB hHeld ⊢
      refine pure_ (i:=3) (N:=some 25) (v:=?_) (a':=?_) #[false,false,false,true,false,false,false] rfl rfl (by kernel_rfl) (fun _ _ _ h=>h) (Or.inl ⟨by rfl,?_⟩) ?_ ?_
      rotate_left
      ·intro w'
       go_simp
       with_reducible rfl
      rotate_left
      ·simp only [Act.put,List.setIfInBounds_toArray,List.set_cons_zero,List.set_cons_succ,i64_w,i32_w]
       rfl
      refine take_ (i:=0) (N:=some 22) (v:=?_) (a':=?_) #[true,false,false,true,false,false,false] rfl rfl (by kernel_rfl) (fun _ _ _ h=>h) (Or.inl ⟨by rfl,?_⟩) hHeld ?_ ?_
      rotate_left
      ·intro w' s0
       go_simp
       with_reducible rfl
      rotate_left
      ·simp only [Act.put,List.setIfInBounds_toArray,List.set_cons_zero,List.set_cons_succ,i64_w,i32_w]
       rfl
      refine take_ (i:=1) (N:=some 23) (v:=?_) (a':=?_) #[true,true,false,true,false,false,false] rfl rfl (by kernel_rfl) (fun _ _ _ h=>h) (Or.inl ⟨by rfl,?_⟩) hHeld ?_ ?_
      rotate_left
      ·intro w' s0
       go_simp
       with_reducible rfl
      rotate_left
      ·simp only [Act.put,List.setIfInBounds_toArray,List.set_cons_zero,List.set_cons_succ,i64_w,i32_w]
       rfl
      refine one_ (i:=2) (N:=some 24) #[true,true,true,true,false,false,false] rfl rfl (by kernel_rfl) (by decide) (fun K hK=>?_)
      refine goes_ Try.func142 (by kernel_rfl) rfl #[.agg #[.slice A0_0 l0_0.length c0_0]] (by rfl) rfl rfl pG ?_
      with_reducible refine (intersection_members.calls _ _ l0_0 t873 _ ?side1 ?side2 A7.out).mono ?_
      (case side1=>repeat (first|exact (Kd.C_below HR0_0.out HB.out)|(with_reducible refine Kd.C_alloc ?_ _)|(with_reducible refine Kd.C_drewN ?_ _)|(with_reducible refine Kd.C_drew ?_)))
      (case side2=>exact HC0_0.out)
      rintro e w14 ⟨rfl,hb⟩
      refine ⟨_,rfl,?_⟩
      have n0_:=Z (blk_below (g:=gb869) (o:=.cells #[.slice A0_0 l0_0.length c0_0] 27 (0,0)) (pK BK869) hb)
      have n1_:=Z (below_step pB hb)
      clear BK869
      clear HB
      have BK869:=n0_
      have HB:=n1_
      clear n0_ n1_
      (try clear hb)
      (try clear hb2)
      (try clear hk)
      (try clear hi)
      refine hK.out _ _ ((kC BK869.out 0).trans rfl) (fun hHeld=>?_)
      clear hK K
      refine norm_ (a':=?_) ?_ ?_
      rotate_left
      ·show Act.put _ (some 24) _=_
       simp only [Act.put,List.setIfInBounds_toArray,List.set_cons_zero,List.set_cons_succ,i64_w,i32_w]
       rfl
      refine pure_ (i:=4) (N:=some 26) (v:=?_) (a':=?_) #[true,true,true,true,true,false,false] rfl rfl (by kernel_rfl) (fun _ _ _ h=>h) (Or.inl ⟨by rfl,?_⟩) ?_ ?_
      rotate_left
      ·intro w'
       go_simp
       with_reducible rfl
      rotate_left
      ·simp only [Act.put,List.setIfInBounds_toArray,List.set_cons_zero,List.set_cons_succ,i64_w,i32_w]
       rfl
      refine one_ (i:=5) (N:=some 27) #[true,true,true,true,true,true,false] rfl rfl (by kernel_rfl) (by decide) (fun K hK=>?_)
      refine goes_ Try.func107 (by kernel_rfl) rfl #[.agg #[.slice A0_0 l0_0.length c0_0],.int .i64 (Go.bits .andNot .i64 t873 x5_1)] (by rfl) rfl rfl pG ?_
      with_reducible refine (closure_Greatest.calls k1 _ _ l0_0 (Go.bits .andNot .i64 t873 x5_1) t874 _ ?side1 ?side2 A8.out).mono ?_
      (case side1=>repeat (first|exact (Kd.C_below HR0_0.out HB.out)|(with_reducible refine Kd.C_alloc ?_ _)|(with_reducible refine Kd.C_drewN ?_ _)|(with_reducible refine Kd.C_drew ?_)))
      (case side2=>exact HC0_0.out)
      rintro e w15 ⟨rfl,hb⟩
      refine ⟨_,rfl,?_⟩
      have n0_:=Z (blk_below (g:=gb869) (o:=.cells #[.slice A0_0 l0_0.length c0_0] 27 (0,0)) (pK BK869) hb)
      have n1_:=Z (below_step pB hb)
      clear BK869
      clear HB
      have BK869:=n0_
      have HB:=n1_
      clear n0_ n1_
      (try clear hb)
      (try clear hb2)
      (try clear hk)
      (try clear hi)
      refine hK.out _ _ ((kC BK869.out 0).trans rfl) (fun hHeld=>?_)
      clear hK K
      refine norm_ (a':=?_) ?_ ?_
      rotate_left
      ·show Act.put _ (some 27) _=_
       simp only [Act.put,List.setIfInBounds_toArray,List.set_cons_zero,List.set_cons_succ,i64_w,i32_w]
       rfl
      refine pure_ (i:=6) (N:=some 7) (v:=?_) (a':=?_) #[true,true,true,true,true,true,true] rfl rfl (by kernel_rfl) (fun _ _ _ h=>h) (Or.inl ⟨by rfl,?_⟩) ?_ ?_
      rotate_left
      ·intro w'
       go_simp
       with_reducible rfl
      rotate_left
      ·simp only [Act.put,List.setIfInBounds_toArray,List.set_cons_zero,List.set_cons_succ,i64_w,i32_w]
       rfl
      refine done_ (by kernel_rfl) ?_
      try go_wp2_with (first|((with_reducible refine gate_callee (f:=141) rfl ?_);refine goesL_ (some 15) rfl rfl Try.func141 (by kernel_rfl) rfl #[.int .i64 x5_1,.int .i64 (l0_0.length:Int)] rfl pG ?_;(with_reducible refine (nodeset_Next.calls k1 x5_1 (l0_0.length:Int) t875 t876 _ A10.out).mono ?_);rintro e w' ⟨rfl,⟨nd,rfl⟩⟩;refine ⟨_,rfl,?_⟩))
      go_roundg k1
      case measure=>have:=HK1.out;omega
      case rel=>exact ⟨(t875),(t876),pE,pE,H',⟨by have:=HK1.out;omega⟩,⟨pK BK869⟩,⟨pB⟩⟩
     ·rw [if_neg c9] at H
      have c9b0:(t874 == 0)=false:=beq_eq_false_iff_ne.mpr c9
      have c9b1:(t874 != 0)=true:=bne_iff_ne.mpr c9
      simp only [Option.some.injEq,Prod.mk.injEq] at H
      obtain ⟨rfl,rfl⟩:=H
      have hcz16_0:wr.cell? ⟨gb869,0,none⟩=some (.slice A0_0 l0_0.length c0_0):=(kC BK869.out 0).trans rfl
      have hfz16_0:=kF BK869.out 0
      try go_wp2_with (first|((with_reducible refine gate_callee (f:=103) rfl ?_);refine goesL_ (some 20) rfl rfl Try.func103 (by kernel_rfl) rfl #[.agg #[.slice A0_0 l0_0.length c0_0],.int .i64 x5_1] rfl pG ?_;(with_reducible refine (closure_Quorum.calls k1 _ _ l0_0 x5_1 true _ ?side1 ?side2 A5.out).mono ?_);(case side1=>repeat (first|exact (Kd.C_below HR0_0.out HB.out)|(with_reducible refine Kd.C_alloc ?_ _)|(with_reducible refine Kd.C_drewN ?_ _)|(with_reducible refine Kd.C_drew ?_)));(case side2=>exact HC0_0.out);rintro e w17 ⟨rfl,hb⟩;refine ⟨_,rfl,?_⟩;have n0_:=Z (blk_below (g:=gb869) (o:=.cells #[.slice A0_0 l0_0.length c0_0] 27 (0,0)) (pK BK869) hb);have n1_:=Z (below_step pB hb);clear BK869;clear HB;have BK869:=n0_;have HB:=n1_;clear n0_ n1_;(try clear hb);(try clear hb2);(try clear hk);(try clear hi)))
      have n0_:=Z (kD BK869.out)
      have n1_:=Z (wD HB.out)
      clear BK869
      clear HB
      have BK869:=n0_
      have HB:=n1_
      clear n0_ n1_
      refine start_ (n:=7) (S:=fun w'=>w'.cell? ⟨gb869,0,none⟩=some (.slice A0_0 l0_0.length c0_0)) (ds:=[]) #[false,false,false,false,false,false,false] (by kernel_rfl) rfl rfl ((kC BK869.out 0).trans rfl) (fun hHeld=>?_)
      generalize w17.drew=w18 at BK869 HB hHeld ⊢
      refine pure_ (i:=3) (N:=some 25) (v:=?_) (a':=?_) #[false,false,false,true,false,false,false] rfl rfl (by kernel_rfl) (fun _ _ _ h=>h) (Or.inl ⟨by rfl,?_⟩) ?_ ?_
      rotate_left
      ·intro w'
       go_simp
       with_reducible rfl
      rotate_left
      ·simp only [Act.put,List.setIfInBounds_toArray,List.set_cons_zero,List.set_cons_succ,i64_w,i32_w]
       rfl
      refine take_ (i:=0) (N:=some 22) (v:=?_) (a':=?_) #[true,false,false,true,false,false,false] rfl rfl (by kernel_rfl) (fun _ _ _ h=>h) (Or.inl ⟨by rfl,?_⟩) hHeld ?_ ?_
      rotate_left
      ·intro w' s0
       go_simp
       with_reducible rfl
      rotate_left
      ·simp only [Act.put,List.setIfInBounds_toArray,List.set_cons_zero,List.set_cons_succ,i64_w,i32_w]
       rfl
      refine take_ (i:=1) (N:=some 23) (v:=?_) (a':=?_) #[true,true,false,true,false,false,false] rfl rfl (by kernel_rfl) (fun _ _ _ h=>h) (Or.inl ⟨by rfl,?_⟩) hHeld ?_ ?_
      rotate_left
      ·intro w' s0
       go_simp
       with_reducible rfl
      rotate_left
      ·simp only [Act.put,List.setIfInBounds_toArray,List.set_cons_zero,List.set_cons_succ,i64_w,i32_w]
       rfl
      refine one_ (i:=2) (N:=some 24) #[true,true,true,true,false,false,false] rfl rfl (by kernel_rfl) (by decide) (fun K hK=>?_)
      refine goes_ Try.func142 (by kernel_rfl) rfl #[.agg #[.slice A0_0 l0_0.length c0_0]] (by rfl) rfl rfl pG ?_
      with_reducible refine (intersection_members.calls _ _ l0_0 t873 _ ?side1 ?side2 A7.out).mono ?_
      (case side1=>repeat (first|exact (Kd.C_below HR0_0.out HB.out)|(with_reducible refine Kd.C_alloc ?_ _)|(with_reducible refine Kd.C_drewN ?_ _)|(with_reducible refine Kd.C_drew ?_)))
      (case side2=>exact HC0_0.out)
      rintro e w19 ⟨rfl,hb⟩
      refine ⟨_,rfl,?_⟩
      have n0_:=Z (blk_below (g:=gb869) (o:=.cells #[.slice A0_0 l0_0.length c0_0] 27 (0,0)) (pK BK869) hb)
      have n1_:=Z (below_step pB hb)
      clear BK869
      clear HB
      have BK869:=n0_
      have HB:=n1_
      clear n0_ n1_
      (try clear hb)
      (try clear hb2)
      (try clear hk)
      (try clear hi)
      refine hK.out _ _ ((kC BK869.out 0).trans rfl) (fun hHeld=>?_)
      clear hK K
      refine norm_ (a':=?_) ?_ ?_
      rotate_left
      ·show Act.put _ (some 24) _=_
       simp only [Act.put,List.setIfInBounds_toArray,List.set_cons_zero,List.set_cons_succ,i64_w,i32_w]
       rfl
      refine pure_ (i:=4) (N:=some 26) (v:=?_) (a':=?_) #[true,true,true,true,true,false,false] rfl rfl (by kernel_rfl) (fun _ _ _ h=>h) (Or.inl ⟨by rfl,?_⟩) ?_ ?_
      rotate_left
      ·intro w'
       go_simp
       with_reducible rfl
      rotate_left
      ·simp only [Act.put,List.setIfInBounds_toArray,List.set_cons_zero,List.set_cons_succ,i64_w,i32_w]
       rfl
      refine one_ (i:=5) (N:=some 27) #[true,true,true,true,true,true,false] rfl rfl (by kernel_rfl) (by decide) (fun K hK=>?_)
      refine goes_ Try.func107 (by kernel_rfl) rfl #[.agg #[.slice A0_0 l0_0.length c0_0],.int .i64 (Go.bits .andNot .i64 t873 x5_1)] (by rfl) rfl rfl pG ?_
      with_reducible refine (closure_Greatest.calls k1 _ _ l0_0 (Go.bits .andNot .i64 t873 x5_1) t874 _ ?side1 ?side2 A8.out).mono ?_
      (case side1=>repeat (first|exact (Kd.C_below HR0_0.out HB.out)|(with_reducible refine Kd.C_alloc ?_ _)|(with_reducible refine Kd.C_drewN ?_ _)|(with_reducible refine Kd.C_drew ?_)))
      (case side2=>exact HC0_0.out)
      rintro e w20 ⟨rfl,hb⟩
      refine ⟨_,rfl,?_⟩
      have n0_:=Z (blk_below (g:=gb869) (o:=.cells #[.slice A0_0 l0_0.length c0_0] 27 (0,0)) (pK BK869) hb)
      have n1_:=Z (below_step pB hb)
      clear BK869
      clear HB
      have BK869:=n0_
      have HB:=n1_
      clear n0_ n1_
      (try clear hb)
      (try clear hb2)
      (try clear hk)
      (try clear hi)
      refine hK.out _ _ ((kC BK869.out 0).trans rfl) (fun hHeld=>?_)
      clear hK K
      refine norm_ (a':=?_) ?_ ?_
      rotate_left
      ·show Act.put _ (some 27) _=_
       simp only [Act.put,List.setIfInBounds_toArray,List.set_cons_zero,List.set_cons_succ,i64_w,i32_w]
       rfl
      refine pure_ (i:=6) (N:=some 7) (v:=?_) (a':=?_) #[true,true,true,true,true,true,true] rfl rfl (by kernel_rfl) (fun _ _ _ h=>h) (Or.inl ⟨by rfl,?_⟩) ?_ ?_
      rotate_left
      ·intro w'
       go_simp
       with_reducible rfl
      rotate_left
      ·simp only [Act.put,List.setIfInBounds_toArray,List.set_cons_zero,List.set_cons_succ,i64_w,i32_w]
       rfl
      refine done_ (by kernel_rfl) ?_
      try go_wp2
      go_ret2
      exact ⟨pF,pB⟩
    ·replace c6:=Bool.eq_false_iff.mpr c6
     subst c6
     rw [if_neg (show ¬ (false=true) by decide)] at H
     replace H:=Option.bind_eq_some_iff.mp H
     obtain ⟨⟨t871,t872⟩,A210,H⟩:=H
     try dsimp only at H
     have A21:=Z A210
     clear A210
     have H':=Z H
     clear H
     have hcz22_0:wr.cell? ⟨gb869,0,none⟩=some (.slice A0_0 l0_0.length c0_0):=(kC BK869.out 0).trans rfl
     have hfz22_0:=kF BK869.out 0
     go_wp2_with (first|((with_reducible refine gate_callee (f:=103) rfl ?_);refine goesL_ (some 20) rfl rfl Try.func103 (by kernel_rfl) rfl #[.agg #[.slice A0_0 l0_0.length c0_0],.int .i64 x5_1] rfl pG ?_;(with_reducible refine (closure_Quorum.calls k1 _ _ l0_0 x5_1 false _ ?side1 ?side2 A5.out).mono ?_);(case side1=>repeat (first|exact (Kd.C_below HR0_0.out HB.out)|(with_reducible refine Kd.C_alloc ?_ _)|(with_reducible refine Kd.C_drewN ?_ _)|(with_reducible refine Kd.C_drew ?_)));(case side2=>exact HC0_0.out);rintro e w23 ⟨rfl,hb⟩;refine ⟨_,rfl,?_⟩;have n0_:=Z (blk_below (g:=gb869) (o:=.cells #[.slice A0_0 l0_0.length c0_0] 27 (0,0)) (pK BK869) hb);have n1_:=Z (below_step pB hb);clear BK869;clear HB;have BK869:=n0_;have HB:=n1_;clear n0_ n1_;(try clear hb);(try clear hb2);(try clear hk);(try clear hi))|((with_reducible refine gate_callee (f:=141) rfl ?_);refine goesL_ (some 15) rfl rfl Try.func141 (by kernel_rfl) rfl #[.int .i64 x5_1,.int .i64 (l0_0.length:Int)] rfl pG ?_;(with_reducible refine (nodeset_Next.calls k1 x5_1 (l0_0.length:Int) t871 t872 _ A21.out).mono ?_);rintro e w' ⟨rfl,⟨nd,rfl⟩⟩;refine ⟨_,rfl,?_⟩))
     go_roundg k1
     case measure=>have:=HK1.out;omega
     case rel=>exact ⟨(t871),(t872),pE,pE,H',⟨by have:=HK1.out;omega⟩,⟨pK BK869⟩,⟨pB⟩⟩
   ·replace c4:=Bool.eq_false_iff.mpr c4
    subst c4
    rw [if_neg (show ¬ (false=true) by decide)] at H
    simp only [Option.some.injEq,Prod.mk.injEq] at H
    obtain ⟨rfl,rfl⟩:=H
    go_wp2
    go_ret2
    exact ⟨pF,pB⟩
def deletion_lowered.f (a0:Int) (a1:Int):Option (Int):=some (wrap64 ((mx a0 a1) - a1))
set_option maxHeartbeats 8000000 in
set_option maxRecDepth 100000 in
theorem deletion_lowered.calls (a0:Int) (a1:Int) (r:Int) (w:World) (h:deletion_lowered.f a0 a1=some r) :
  Calls Try.prog 153 #[.int .i64 a0,.int .i64 a1] w fun e w'=>e=.returned (.int .i64 r)∧Below w.heap.size w w':=by
 have HB:=Z (Below.refl w.heap.size w)
 have H:(some (wrap64 ((mx a0 a1) - a1)))=some r:=h
 clear h
 obtain ⟨ji3,hji3⟩:∃ j_:Int,(mx a0 a1)=j_:=⟨_,rfl⟩
 replace H:(some (wrap64 ((ji3) - a1)))=some r:=by first|(rw [hji3] at H;exact H)|(simp only [hji3] at H ⊢;exact H)
 have hji3_:(if a0 < a1 then a1 else a0)=ji3:=hji3
 obtain rfl:=Option.some.inj H
 go_enter Try.func153,Try.ntmps153
 go_wp2
 go_ret
 exact ⟨by first|rfl|(simp [errW_none,errW_some] <;> rfl)|(simp only [← hji3];first|rfl|(simp [errW_none,errW_some] <;> rfl))|(simp [*,errW_none,errW_some] <;> rfl),pB⟩
mutual
def deletion_level.l0:Nat→Int→List Int→Int→Int→Int→List Int→List (S32)→Int→List Int→Option (Int × List Int × (List (S32)))
 | 0,_,_,_,_,_,_,_,_,_=>none
 | k+1,x1,x15,x16,x17,x882000,x882001,x882002,x884000,x884001=>if x17 < x16 then (if 0≤x17 then (if x17 < (x15.length:Int) then ((nodeset_Has.f x1 (rd x15 x17)).bind fun t885=>(if t885=true then ((deletion_lowered.f x884000 1).bind fun t886=>(deletion_level.l0 k x1 x15 x16 (wrap64 (x17+1)) x882000 x882001 x882002 t886 x884001)) else (if x884001.length < 17592186044416 then (deletion_level.l0 k x1 x15 x16 (wrap64 (x17+1)) x882000 x882001 x882002 x884000 (x884001++[rd x15 x17])) else (none)))) else (none)) else (none)) else (deletion_level.l1 k x1 x882002 (x882002.length:Int) 0 x884000 x884001 ([]:List (S32)))
def deletion_level.l1:Nat→Int→List (S32)→Int→Int→Int→List Int→List (S32)→Option (Int × List Int × (List (S32)))
 | 0,_,_,_,_,_,_,_=>none
 | k+1,x1,x36,x37,x38,x884000,x884001,x884002=>if x38 < x37 then (if 0≤x38 then (if x38 < (x36.length:Int) then ((deletion_level.f k ((rd_T32 x36 x38).f0) ((rd_T32 x36 x38).f1) ((rd_T32 x36 x38).f2) x1).bind fun bt892=>(if bt892.1=0 then ((deletion_lowered.f x884000 1).bind fun t899=>(deletion_level.l1 k x1 x36 x37 (wrap64 (x38+1)) t899 x884001 x884002)) else (if x884002.length < 2513169434916 then (deletion_level.l1 k x1 x36 x37 (wrap64 (x38+1)) x884000 x884001 (x884002++[(⟨bt892.1,bt892.2.1,bt892.2.2⟩:S32)])) else (none)))) else (none)) else (none)) else (some (x884000,x884001,x884002))
def deletion_level.f:Nat→Int→List Int→List (S32)→Int→Option (Int × List Int × (List (S32)))
 | 0,_,_,_,_=>none
 | k+1,a0_0,l0_1,l0_2,a1=>deletion_level.l0 k a1 l0_1 (l0_1.length:Int) 0 a0_0 l0_1 l0_2 (mx a0_0 0) ([]:List Int)
end
set_option maxHeartbeats 8000000 in
set_option maxRecDepth 100000 in
theorem deletion_level.calls (k:Nat):∀ (a0_0:Int) (A0_1:Option Addr) (c0_1:Nat) (l0_1:List Int) (A0_2:Option Addr) (c0_2:Nat) (l0_2:List (S32)) (a1:Int) (r1:Int) (r2:List Int) (r3:List (S32)) (w:World) (hr0_1:Kd.C (Kd.int .i64) w A0_1 l0_1.length l0_1) (hc0_1:l0_1.length≤c0_1) (hr0_2:Kd.C k32 w A0_2 l0_2.length l0_2) (hc0_2:l0_2.length≤c0_2) (h:deletion_level.f k a0_0 l0_1 l0_2 a1=some (r1,r2,r3)),
  Calls Try.prog 143 #[.agg #[.int .i64 a0_0,.slice A0_1 l0_1.length c0_1,.slice A0_2 l0_2.length c0_2],.int .i64 a1] w fun e w'=>∃ v1_ v2_:Value,e=.returned (.agg #[.int .i64 r1,v1_,v2_])∧Kd.R (Kd.int .i64) 3 w' w.heap.size (fun _=>True) v1_ r2∧Kd.R k32 32 w' w.heap.size (fun k_=>some k_ ≠ (v1_:Value).ownBlock) v2_ r3∧Below w.heap.size w w':=by
 induction k using Nat.strongRecOn with
 | _ k ih =>
 intro a0_0 A0_1 c0_1 l0_1 A0_2 c0_2 l0_2 a1 r1 r2 r3 w hr0_1 hc0_1 hr0_2 hc0_2 h
 cases k with
 | zero=>exact absurd h (by simp [deletion_level.f])
 | succ k =>
 simp only [deletion_level.f] at h
 have hu32:=Try.underlying32
 have HR0_1:=Z hr0_1
 have HC0_1:=Z hc0_1
 clear hr0_1 hc0_1
 have HR0_2:=Z hr0_2
 have HC0_2:=Z hc0_2
 clear hr0_2 hc0_2
 have HB:=Z (Below.refl w.heap.size w)
 have H:(deletion_level.l0 k a1 l0_1 (l0_1.length:Int) 0 a0_0 l0_1 l0_2 (mx a0_0 0) ([]:List Int))=some (r1,r2,r3):=h
 clear h
 obtain ⟨ji3,hji3⟩:∃ j_:Int,(mx a0_0 0)=j_:=⟨_,rfl⟩
 replace H:(deletion_level.l0 k a1 l0_1 (l0_1.length:Int) 0 a0_0 l0_1 l0_2 ji3 ([]:List Int))=some (r1,r2,r3):=by first|(rw [hji3] at H;exact H)|(simp only [hji3] at H ⊢;exact H)
 (try (have hji3l:0≤ji3:=by (rw [← hji3];unfold mx;(repeat' split) <;> omega)))
 (try (have hji3m:0≤ji3:=by omega))
 have hji3_:(if a0_0 < 0 then 0 else a0_0)=ji3:=hji3
 have H':=Z H
 clear H
 go_enter Try.func143,Try.ntmps143
 go_wp2_with (first|((with_reducible refine gate_dst (N:=2) rfl ?_);refine box_event ?hg (N:=2) ?hd (cs:=#[.int .i64 a0_0,.slice A0_1 l0_1.length c0_1,.slice A0_2 l0_2.length c0_2]) (t:=32) ?hr ?_;(case hd=>rfl);(case hg=>rfl);(case hr=>first|(go_simp;done)|(go_simp;rfl));intro gb881 hg w4 hbox hb;have n0_:=Z (below_step pB hb);have n1_:=Z (hbox);have n2_:=Z ((pT hg:w.heap.size≤gb881));have n3_:=Z ((pT hg:w.heap.size≤gb881));clear HB;have HB:=n0_;have BK881:=n1_;have GW881:=n2_;have GE881:=n3_;clear n0_ n1_ n2_ n3_;clear hb hbox hg)|((with_reducible refine gate_dst (N:=4) rfl ?_);refine box_event ?hg (N:=4) ?hd (cs:=#[.int .i64 0,.slice none 0 0,.slice none 0 0]) (t:=32) ?hr ?_;(case hd=>rfl);(case hg=>rfl);(case hr=>first|(go_simp;done)|(go_simp;rfl));intro gb882 hg w5 hbox hb;have n0_:=Z (blk_below (g:=gb881) (o:=.cells #[.int .i64 a0_0,.slice A0_1 l0_1.length c0_1,.slice A0_2 l0_2.length c0_2] 32 (0,0)) (pK BK881) hb);have n1_:=Z (below_step pB hb);have n2_:=Z (hbox);have n3_:=Z ((pT hg:w.heap.size≤gb882));have n4_:=Z ((pT hg:w.heap.size≤gb882));have n5_:=Z ((pL hg (pK BK881):gb881 ≠ gb882));have n6_:=Z ((pM hg (pK BK881):gb882 ≠ gb881));clear BK881;clear HB;have BK881:=n0_;have HB:=n1_;have BK882:=n2_;have GW882:=n3_;have GE882:=n4_;have NB881_882:=n5_;have NB882_881:=n6_;clear n0_ n1_ n2_ n3_ n4_ n5_ n6_;clear hb hbox hg;have hnb6:=NB881_882.out;have hnc6:=NB882_881.out;have hcz7_0:w5.cell? ⟨gb881,0,none⟩=some (.int .i64 a0_0):=(kC BK881.out 0).trans rfl;have hcz7_1:w5.cell? ⟨gb881,1,none⟩=some (.slice A0_1 l0_1.length c0_1):=(kC BK881.out 1).trans rfl;have hcz7_2:w5.cell? ⟨gb881,2,none⟩=some (.slice A0_2 l0_2.length c0_2):=(kC BK881.out 2).trans rfl;have hfz7_0:=kF BK881.out 0;have hfz7_1:=kF BK881.out 1;have hfz7_2:=kF BK881.out 2)|((with_reducible refine gate_dst (N:=5) rfl ?_);refine box_event ?hg (N:=5) ?hd (cs:=#[.int .i64 0,.slice none 0 0,.slice none 0 0]) (t:=32) ?hr ?_;(case hd=>rfl);(case hg=>rfl);(case hr=>first|(go_simp;done)|(go_simp;rfl));intro gb883 hg w8 hbox hb;have n0_:=Z (blk_below (g:=gb881) (o:=.cells #[.int .i64 a0_0,.slice A0_1 l0_1.length c0_1,.slice A0_2 l0_2.length c0_2] 32 (0,0)) (pK BK881) hb);have n1_:=Z (blk_below (g:=gb882) (o:=.cells #[.int .i64 0,.slice none 0 0,.slice none 0 0] 32 (0,0)) (pK BK882) hb);have n2_:=Z (below_step pB hb);have n3_:=Z (hbox);have n4_:=Z ((pT hg:w.heap.size≤gb883));have n5_:=Z ((pT hg:w.heap.size≤gb883));have n6_:=Z ((pL hg (pK BK881):gb881 ≠ gb883));have n7_:=Z ((pM hg (pK BK881):gb883 ≠ gb881));have n8_:=Z ((pL hg (pK BK882):gb882 ≠ gb883));have n9_:=Z ((pM hg (pK BK882):gb883 ≠ gb882));clear BK881;clear BK882;clear HB;have BK881:=n0_;have BK882:=n1_;have HB:=n2_;have BK883:=n3_;have GW883:=n4_;have GE883:=n5_;have NB881_883:=n6_;have NB883_881:=n7_;have NB882_883:=n8_;have NB883_882:=n9_;clear n0_ n1_ n2_ n3_ n4_ n5_ n6_ n7_ n8_ n9_;clear hb hbox hg;have hnb9:=NB883_881.out;have hnc9:=NB881_883.out;have hnb10:=NB883_882.out;have hnc10:=NB882_883.out;have hcz11_0:w8.cell? ⟨gb883,0,none⟩=some (.int .i64 0):=(kC BK883.out 0).trans rfl;have hcz11_1:w8.cell? ⟨gb883,1,none⟩=some (.slice none 0 0):=(kC BK883.out 1).trans rfl;have hcz11_2:w8.cell? ⟨gb883,2,none⟩=some (.slice none 0 0):=(kC BK883.out 2).trans rfl;have hfz11_0:=kF BK883.out 0;have hfz11_1:=kF BK883.out 1;have hfz11_2:=kF BK883.out 2;have hcz12_0:w8.cell? ⟨gb881,0,none⟩=some (.int .i64 a0_0):=(kC BK881.out 0).trans rfl;have hcz12_1:w8.cell? ⟨gb881,1,none⟩=some (.slice A0_1 l0_1.length c0_1):=(kC BK881.out 1).trans rfl;have hcz12_2:w8.cell? ⟨gb881,2,none⟩=some (.slice A0_2 l0_2.length c0_2):=(kC BK881.out 2).trans rfl;have hfz12_0:=kF BK881.out 0;have hfz12_1:=kF BK881.out 1;have hfz12_2:=kF BK881.out 2))
 go_loopg [17] k (fun kq v17 w'=>∃ (x17_1:Int) (x884000_1:Int) (x884001_1:List Int) (u884001:Value),v17=.int .i64 x17_1∧Aside0 (deletion_level.l0 kq a1 l0_1 (l0_1.length:Int) x17_1 a0_0 l0_1 l0_2 x884000_1 x884001_1=some (r1,r2,r3))∧Aside0 (kq≤k)∧Aside0 (Kd.R (Kd.int .i64) 3 w' w.heap.size (fun _=>True) u884001 x884001_1)∧Aside0 (w'.heap[gb881]?=some (.cells #[.int .i64 a0_0,(.slice A0_1 l0_1.length c0_1),(.slice A0_2 l0_2.length c0_2)] 32 (0,0)))∧Aside0 (w'.heap[gb882]?=some (.cells #[.int .i64 0,(.slice none 0 0),(.slice none 0 0)] 32 (0,0)))∧Aside0 (w'.heap[gb883]?=some (.cells #[.int .i64 x884000_1,u884001,(.slice none 0 0)] 32 (0,0)))∧Aside0 (Below w.heap.size w w'))
 case atStart=>exact ⟨(0),(ji3),(([]:List Int)),(.slice none 0 0),pE,H',⟨Nat.le_refl _⟩,⟨pN⟩,⟨by (with_reducible repeat (first|refine kN ?_ _|refine kD ?_|refine kA ?_ _));refine blk_far ?_ NB881_883.out _;(with_reducible repeat (first|refine kN ?_ _|refine kD ?_|refine kA ?_ _));refine blk_far ?_ NB881_883.out _;(with_reducible repeat (first|refine kN ?_ _|refine kD ?_|refine kA ?_ _));refine blk_far ?_ NB881_883.out _;(with_reducible repeat (first|refine kN ?_ _|refine kD ?_|refine kA ?_ _));exact BK881.out⟩,⟨by (with_reducible repeat (first|refine kN ?_ _|refine kD ?_|refine kA ?_ _));refine blk_far ?_ NB882_883.out _;(with_reducible repeat (first|refine kN ?_ _|refine kD ?_|refine kA ?_ _));refine blk_far ?_ NB882_883.out _;(with_reducible repeat (first|refine kN ?_ _|refine kD ?_|refine kA ?_ _));refine blk_far ?_ NB882_883.out _;(with_reducible repeat (first|refine kN ?_ _|refine kD ?_|refine kA ?_ _));exact BK882.out⟩,⟨by (with_reducible repeat (first|refine kN ?_ _|refine kD ?_|refine kA ?_ _));refine blk_put (cs:=#[.int .i64 ji3,.slice none 0 0,.slice none 0 0]) ?_ 2 _ rfl;(with_reducible repeat (first|refine kN ?_ _|refine kD ?_|refine kA ?_ _));refine blk_put (cs:=#[.int .i64 ji3,.slice none 0 0,.slice none 0 0]) ?_ 1 _ rfl;(with_reducible repeat (first|refine kN ?_ _|refine kD ?_|refine kA ?_ _));refine blk_put (cs:=#[.int .i64 0,.slice none 0 0,.slice none 0 0]) ?_ 0 _ rfl;(with_reducible repeat (first|refine kN ?_ _|refine kD ?_|refine kA ?_ _));exact BK883.out⟩,⟨pB⟩⟩
 case round =>
  clear H'
  try clear c1
  try clear p2
  try clear c6
  try clear c9
  try clear c10
  try clear hcz11_0
  try clear hcz11_1
  try clear hcz11_2
  try clear hcz12_0
  try clear hcz12_1
  try clear hcz12_2
  try clear hcz7_0
  try clear hcz7_1
  try clear hcz7_2
  try clear hfz11_0
  try clear hfz11_1
  try clear hfz11_2
  try clear hfz12_0
  try clear hfz12_1
  try clear hfz12_2
  try clear hfz7_0
  try clear hfz7_1
  try clear hfz7_2
  obtain ⟨x17_1,x884000_1,x884001_1,u884001,rfl,HA,HK1,HO_884001,BK881,BK882,BK883,HB⟩:=hrel
  cases gk with
  | zero=>exact absurd HA.out (by simp [deletion_level.l0])
  | succ k1 =>
   have H:=HA.out
   clear HA
   simp only [deletion_level.l0] at H
   by_cases c13:x17_1 < (l0_1.length:Int)
   ·rw [if_pos c13] at H
    have c13b0:decide (x17_1 < (l0_1.length:Int))=true:=decide_eq_true c13
    clear c13
    by_cases c14:0≤x17_1
    ·rw [if_pos c14] at H
     have c14b0:decide (0≤x17_1)=true:=decide_eq_true c14
     clear c14
     by_cases c15:x17_1 < (l0_1.length:Int)
     ·rw [if_pos c15] at H
      have c15b0:decide (x17_1 < (l0_1.length:Int))=true:=decide_eq_true c15
      clear c15
      replace H:=Option.bind_eq_some_iff.mp H
      obtain ⟨t885,A160,H⟩:=H
      try dsimp only at H
      have A16:=Z A160
      clear A160
      by_cases c17:t885=true
      ·subst c17
       rw [if_pos rfl] at H
       replace H:=Option.bind_eq_some_iff.mp H
       obtain ⟨t886,A180,H⟩:=H
       try dsimp only at H
       have A18:=Z A180
       clear A180
       have H':=Z H
       clear H
       have p884:0≤(x17_1:Int):=of_decide_eq_true (by first|(with_reducible assumption)|assumption)
       have q884:x17_1 < (l0_1.length:Int):=of_decide_eq_true (by first|(with_reducible assumption)|assumption)
       obtain ⟨ad884,e884,hx884_0⟩:=Kd.at_int HR0_1.out x17_1 p884 q884
       cases e884
       replace hx884_0:=(HB.out.cell (World.block_lt_of_cell? w _ hx884_0)).trans hx884_0
       replace p884:=eq_true p884
       replace q884:=eq_true q884
       go_wp2_with (first|((with_reducible refine gate_callee (f:=60) rfl ?_);refine goesL_ (some 23) rfl rfl Try.func60 (by kernel_rfl) rfl #[.int .i64 a1,.int .i64 (rd l0_1 x17_1)] rfl pG ?_;(with_reducible refine (nodeset_Has.calls a1 (rd l0_1 x17_1) true _ A16.out).mono ?_);rintro e w' ⟨rfl,⟨nd,rfl⟩⟩;refine ⟨_,rfl,?_⟩;(try (rw [drewN_self wr];generalize hq_:World.drewN wr _=wr;have n0_:Aside0 (Kd.R (Kd.int .i64) 3 wr w.heap.size (fun _=>True) u884001 x884001_1):=⟨by rw [← hq_];exact (pR HO_884001)⟩;have n1_:Aside0 (wr.heap[gb881]?=some (.cells #[.int .i64 a0_0,.slice (some ad884) l0_1.length c0_1,.slice A0_2 l0_2.length c0_2] 32 (0,0))):=⟨by rw [← hq_];exact (pK BK881)⟩;have n2_:Aside0 (wr.heap[gb882]?=some (.cells #[.int .i64 0,.slice none 0 0,.slice none 0 0] 32 (0,0))):=⟨by rw [← hq_];exact (pK BK882)⟩;have n3_:Aside0 (wr.heap[gb883]?=some (.cells #[.int .i64 x884000_1,u884001,.slice none 0 0] 32 (0,0))):=⟨by rw [← hq_];exact (pK BK883)⟩;have n4_:Aside0 (Below w.heap.size w wr):=⟨by rw [← hq_];exact pB⟩;clear HO_884001 BK881 BK882 BK883 HB hq_;have HO_884001:=n0_;have BK881:=n1_;have BK882:=n2_;have BK883:=n3_;have HB:=n4_;clear n0_ n1_ n2_ n3_ n4_));have hnb19:=NB883_881.out;have hnc19:=NB881_883.out;have hnb20:=NB883_882.out;have hnc20:=NB882_883.out;have hcz21_0:wr.cell? ⟨gb883,0,none⟩=some (.int .i64 x884000_1):=(kC BK883.out 0).trans rfl;have hcz21_1:wr.cell? ⟨gb883,1,none⟩=some (u884001):=(kC BK883.out 1).trans rfl;have hcz21_2:wr.cell? ⟨gb883,2,none⟩=some (.slice none 0 0):=(kC BK883.out 2).trans rfl;have hfz21_0:=kF BK883.out 0;have hfz21_1:=kF BK883.out 1;have hfz21_2:=kF BK883.out 2)|((with_reducible refine gate_callee (f:=153) rfl ?_);refine goesL_ (some 26) rfl rfl Try.func153 (by kernel_rfl) rfl #[.int .i64 x884000_1,.int .i64 1] rfl pG ?_;(with_reducible refine (deletion_lowered.calls x884000_1 1 t886 _ A18.out).mono ?_);rintro e w22 ⟨rfl,hb⟩;refine ⟨_,rfl,?_⟩;have n0_:=Z (Kd.R_below (pR HO_884001) hb);have n1_:=Z (blk_below (g:=gb881) (o:=.cells #[.int .i64 a0_0,.slice (some ad884) l0_1.length c0_1,.slice A0_2 l0_2.length c0_2] 32 (0,0)) (pK BK881) hb);have n2_:=Z (blk_below (g:=gb882) (o:=.cells #[.int .i64 0,.slice none 0 0,.slice none 0 0] 32 (0,0)) (pK BK882) hb);have n3_:=Z (blk_below (g:=gb883) (o:=.cells #[.int .i64 x884000_1,u884001,.slice none 0 0] 32 (0,0)) (pK BK883) hb);have n4_:=Z (below_step pB hb);clear HO_884001;clear BK881;clear BK882;clear BK883;clear HB;have HO_884001:=n0_;have BK881:=n1_;have BK882:=n2_;have BK883:=n3_;have HB:=n4_;clear n0_ n1_ n2_ n3_ n4_;(try clear hb);(try clear hb2);(try clear hk);(try clear hi);have hcz23_0:w22.cell? ⟨gb883,0,none⟩=some (.int .i64 x884000_1):=(kC BK883.out 0).trans rfl;have hcz23_1:w22.cell? ⟨gb883,1,none⟩=some (u884001):=(kC BK883.out 1).trans rfl;have hcz23_2:w22.cell? ⟨gb883,2,none⟩=some (.slice none 0 0):=(kC BK883.out 2).trans rfl;have hfz23_0:=kF BK883.out 0;have hfz23_1:=kF BK883.out 1;have hfz23_2:=kF BK883.out 2))
       go_roundg k1
       case measure=>have:=HK1.out;omega
       case rel=>exact ⟨(wrap64 (x17_1+1)),(t886),(x884001_1),(u884001),pE,H',⟨by have:=HK1.out;omega⟩,⟨by (with_reducible repeat (first|apply Kd.R_alloc|apply Kd.R_drewN|apply Kd.R_drew));exact Kd.R_mono (Kd.R_far (p:=⟨gb883,0,none⟩) (Kd.R_types HO_884001.out BK883.out (by decide)) (fun _ hk=>hk.2) (.int .i64 t886)) (fun _ hk=>trivial)⟩,⟨by (with_reducible repeat (first|refine kN ?_ _|refine kD ?_|refine kA ?_ _));refine blk_far ?_ NB881_883.out _;(with_reducible repeat (first|refine kN ?_ _|refine kD ?_|refine kA ?_ _));exact BK881.out⟩,⟨by (with_reducible repeat (first|refine kN ?_ _|refine kD ?_|refine kA ?_ _));refine blk_far ?_ NB882_883.out _;(with_reducible repeat (first|refine kN ?_ _|refine kD ?_|refine kA ?_ _));exact BK882.out⟩,⟨by (with_reducible repeat (first|refine kN ?_ _|refine kD ?_|refine kA ?_ _));refine blk_put (cs:=#[.int .i64 x884000_1,u884001,.slice none 0 0]) ?_ 0 _ rfl;(with_reducible repeat (first|refine kN ?_ _|refine kD ?_|refine kA ?_ _));exact BK883.out⟩,⟨pB⟩⟩
      ·replace c17:=Bool.eq_false_iff.mpr c17
       subst c17
       rw [if_neg (show ¬ (false=true) by decide)] at H
       by_cases c24:x884001_1.length < 17592186044416
       ·rw [if_pos c24] at H
        have LMc24:=Z c24
        clear c24
        obtain ⟨y887,hy887⟩:∃ y_:List Int,y_=(x884001_1++[rd l0_1 x17_1]):=⟨_,rfl⟩
        first|rw [← hy887] at H|(replace H:=(Option.bind_some _ _).symm.trans H;rw [← hy887] at H)
        have Ny887:=Z hy887
        clear hy887
        have H':=Z H
        clear H
        have p884:0≤(x17_1:Int):=of_decide_eq_true (by first|(with_reducible assumption)|assumption)
        have q884:x17_1 < (l0_1.length:Int):=of_decide_eq_true (by first|(with_reducible assumption)|assumption)
        obtain ⟨ad884,e884,hx884_0⟩:=Kd.at_int HR0_1.out x17_1 p884 q884
        cases e884
        replace hx884_0:=(HB.out.cell (World.block_lt_of_cell? w _ hx884_0)).trans hx884_0
        replace p884:=eq_true p884
        replace q884:=eq_true q884
        go_wp2_with (first|((with_reducible refine gate_callee (f:=60) rfl ?_);refine goesL_ (some 23) rfl rfl Try.func60 (by kernel_rfl) rfl #[.int .i64 a1,.int .i64 (rd l0_1 x17_1)] rfl pG ?_;(with_reducible refine (nodeset_Has.calls a1 (rd l0_1 x17_1) false _ A16.out).mono ?_);rintro e w' ⟨rfl,⟨nd,rfl⟩⟩;refine ⟨_,rfl,?_⟩;(try (rw [drewN_self wr];generalize hq_:World.drewN wr _=wr;have n0_:Aside0 (Kd.R (Kd.int .i64) 3 wr w.heap.size (fun _=>True) u884001 x884001_1):=⟨by rw [← hq_];exact (pR HO_884001)⟩;have n1_:Aside0 (wr.heap[gb881]?=some (.cells #[.int .i64 a0_0,.slice (some ad884) l0_1.length c0_1,.slice A0_2 l0_2.length c0_2] 32 (0,0))):=⟨by rw [← hq_];exact (pK BK881)⟩;have n2_:Aside0 (wr.heap[gb882]?=some (.cells #[.int .i64 0,.slice none 0 0,.slice none 0 0] 32 (0,0))):=⟨by rw [← hq_];exact (pK BK882)⟩;have n3_:Aside0 (wr.heap[gb883]?=some (.cells #[.int .i64 x884000_1,u884001,.slice none 0 0] 32 (0,0))):=⟨by rw [← hq_];exact (pK BK883)⟩;have n4_:Aside0 (Below w.heap.size w wr):=⟨by rw [← hq_];exact pB⟩;clear HO_884001 BK881 BK882 BK883 HB hq_;have HO_884001:=n0_;have BK881:=n1_;have BK882:=n2_;have BK883:=n3_;have HB:=n4_;clear n0_ n1_ n2_ n3_ n4_));have hnb25:=NB883_881.out;have hnc25:=NB881_883.out;have hnb26:=NB883_882.out;have hnc26:=NB882_883.out;have hcz27_0:wr.cell? ⟨gb883,0,none⟩=some (.int .i64 x884000_1):=(kC BK883.out 0).trans rfl;have hcz27_1:wr.cell? ⟨gb883,1,none⟩=some (u884001):=(kC BK883.out 1).trans rfl;have hcz27_2:wr.cell? ⟨gb883,2,none⟩=some (.slice none 0 0):=(kC BK883.out 2).trans rfl;have hfz27_0:=kF BK883.out 0;have hfz27_1:=kF BK883.out 1;have hfz27_2:=kF BK883.out 2)|((with_reducible refine gate_builtin (b:=.append) (xs:=#[.tmp 29,.tmp 31]) rfl ?_);at_builtin;refine Kd.R_append (Kd.int .i64) (w0:=w) w.heap.size rfl (.tmp 29) (.tmp 31) 22 3 (.int .i64 0) 8 rfl Try.underlying22 info3 rfl (by decide) (by omega) u884001 x884001_1 (rd l0_1 x17_1) [.int .i64 (rd l0_1 x17_1)] (fun _=>True) (fun _=>False) rfl rfl ?aP (fun _ hk=>hk.elim) ?aF ?aO ?aB ?aS ?aL ?_;(case aP=>exact rfl);(case aB=>exact pB);(case aF=>exact (fun _ _=>trivial));(case aO=>exact (pR HO_884001));(case aS=>exact (below_size pB));(case aL=>have:=LMc24.out;omega);intro v888 w28 ho hb hg hat;rw [← Ny887.out] at ho;have n0_:=Z (blk_grown (g:=gb881) (o:=.cells #[.int .i64 a0_0,.slice (some ad884) l0_1.length c0_1,.slice A0_2 l0_2.length c0_2] 32 (0,0)) (pK BK881) hg (Kd.R_ne HO_884001.out BK881.out (by decide)));have n1_:=Z (blk_grown (g:=gb882) (o:=.cells #[.int .i64 0,.slice none 0 0,.slice none 0 0] 32 (0,0)) (pK BK882) hg (Kd.R_ne HO_884001.out BK882.out (by decide)));have n2_:=Z (blk_grown (g:=gb883) (o:=.cells #[.int .i64 x884000_1,u884001,.slice none 0 0] 32 (0,0)) (pK BK883) hg (Kd.R_ne HO_884001.out BK883.out (by decide)));have n3_:=Z (hb);have n4_:=Z (ho);clear BK881;clear BK882;clear BK883;clear HB;clear HO_884001;have BK881:=n0_;have BK882:=n1_;have BK883:=n2_;have HB:=n3_;have HO889:=n4_;clear n0_ n1_ n2_ n3_ n4_;clear ho hb hg hat;obtain ⟨Ao29,co29,eo29⟩:=Kd.R_slice HO889.out;subst eo29;have hcz30_0:w28.cell? ⟨gb883,0,none⟩=some (.int .i64 x884000_1):=(kC BK883.out 0).trans rfl;have hcz30_1:w28.cell? ⟨gb883,1,none⟩=some (u884001):=(kC BK883.out 1).trans rfl;have hcz30_2:w28.cell? ⟨gb883,2,none⟩=some (.slice none 0 0):=(kC BK883.out 2).trans rfl;have hfz30_0:=kF BK883.out 0;have hfz30_1:=kF BK883.out 1;have hfz30_2:=kF BK883.out 2))
        go_roundg k1
        case measure=>have:=HK1.out;omega
        case rel=>exact ⟨(wrap64 (x17_1+1)),(x884000_1),(y887),(.slice Ao29 y887.length co29),pE,H',⟨by have:=HK1.out;omega⟩,⟨by (with_reducible repeat (first|apply Kd.R_alloc|apply Kd.R_drewN|apply Kd.R_drew));exact Kd.R_mono (Kd.R_far (p:=⟨gb883,1,none⟩) (Kd.R_types HO889.out BK883.out (by decide)) (fun _ hk=>hk.2) (.slice Ao29 y887.length co29)) (fun _ hk=>trivial)⟩,⟨by (with_reducible repeat (first|refine kN ?_ _|refine kD ?_|refine kA ?_ _));refine blk_far ?_ NB881_883.out _;(with_reducible repeat (first|refine kN ?_ _|refine kD ?_|refine kA ?_ _));exact BK881.out⟩,⟨by (with_reducible repeat (first|refine kN ?_ _|refine kD ?_|refine kA ?_ _));refine blk_far ?_ NB882_883.out _;(with_reducible repeat (first|refine kN ?_ _|refine kD ?_|refine kA ?_ _));exact BK882.out⟩,⟨by (with_reducible repeat (first|refine kN ?_ _|refine kD ?_|refine kA ?_ _));refine blk_put (cs:=#[.int .i64 x884000_1,u884001,.slice none 0 0]) ?_ 1 _ rfl;(with_reducible repeat (first|refine kN ?_ _|refine kD ?_|refine kA ?_ _));exact BK883.out⟩,⟨pB⟩⟩
       ·rw [if_neg c24] at H
        exact absurd H (by simp)
     ·rw [if_neg c15] at H
      exact absurd H (by simp)
    ·rw [if_neg c14] at H
     exact absurd H (by simp)
   ·rw [if_neg c13] at H
    have c13b0:decide (x17_1 < (l0_1.length:Int))=false:=decide_eq_false c13
    clear c13
    have H':=Z H
    clear H
    have hnb31:=NB881_882.out
    have hnc31:=NB882_881.out
    have hnb32:=NB881_883.out
    have hnc32:=NB883_881.out
    have hcz33_0:wr.cell? ⟨gb881,0,none⟩=some (.int .i64 a0_0):=(kC BK881.out 0).trans rfl
    have hcz33_1:wr.cell? ⟨gb881,1,none⟩=some (.slice A0_1 l0_1.length c0_1):=(kC BK881.out 1).trans rfl
    have hcz33_2:wr.cell? ⟨gb881,2,none⟩=some (.slice A0_2 l0_2.length c0_2):=(kC BK881.out 2).trans rfl
    have hfz33_0:=kF BK881.out 0
    have hfz33_1:=kF BK881.out 1
    have hfz33_2:=kF BK881.out 2
    go_wp2
    go_loopg [38] k1 (fun kq v38 w'=>∃ (x38_2:Int) (x884000_2:Int) (x884002_2:List (S32)) (u884002:Value),v38=.int .i64 x38_2∧Aside0 (deletion_level.l1 kq a1 l0_2 (l0_2.length:Int) x38_2 x884000_2 x884001_1 x884002_2=some (r1,r2,r3))∧Aside0 (kq≤k1)∧Aside0 (Kd.R (Kd.int .i64) 3 w' w.heap.size (fun _=>True) u884001 x884001_1)∧Aside0 (Kd.R k32 32 w' w.heap.size (fun k_=>some k_ ≠ (u884001:Value).ownBlock∧k_ ≠ gb881∧k_ ≠ gb882∧k_ ≠ gb883) u884002 x884002_2)∧Aside0 (w'.heap[gb881]?=some (.cells #[.int .i64 a0_0,(.slice A0_1 l0_1.length c0_1),(.slice A0_2 l0_2.length c0_2)] 32 (0,0)))∧Aside0 (w'.heap[gb882]?=some (.cells #[.int .i64 0,(.slice none 0 0),(.slice none 0 0)] 32 (0,0)))∧Aside0 (w'.heap[gb883]?=some (.cells #[.int .i64 x884000_2,u884001,u884002] 32 (0,0)))∧Aside0 (Below w.heap.size w w'))
    case atStart=>exact ⟨(0),(x884000_1),(([]:List (S32))),(.slice none 0 0),pE,H',⟨Nat.le_refl _⟩,⟨pR HO_884001⟩,⟨pN⟩,⟨pK BK881⟩,⟨pK BK882⟩,⟨pK BK883⟩,⟨pB⟩⟩
    case round =>
     clear H'
     try clear c1
     try clear c2
     try clear p2
     try clear c3
     try clear c6
     try clear p6
     try clear p8
     try clear q8
     try clear hx8
     try clear c9
     try clear c10
     try clear c13
     try clear c13b0
     try clear c14
     try clear c14b0
     try clear c15
     try clear c15b0
     try clear c17
     try clear c19
     try clear c20
     try clear c24
     try clear c25
     try clear c26
     try clear c31
     try clear c32
     try clear hcz11_0
     try clear hcz11_1
     try clear hcz11_2
     try clear hcz12_0
     try clear hcz12_1
     try clear hcz12_2
     try clear hcz21_0
     try clear hcz21_1
     try clear hcz21_2
     try clear hcz23_0
     try clear hcz23_1
     try clear hcz23_2
     try clear hcz27_0
     try clear hcz27_1
     try clear hcz27_2
     try clear hcz30_0
     try clear hcz30_1
     try clear hcz30_2
     try clear hcz33_0
     try clear hcz33_1
     try clear hcz33_2
     try clear hcz7_0
     try clear hcz7_1
     try clear hcz7_2
     try clear hfz11_0
     try clear hfz11_1
     try clear hfz11_2
     try clear hfz12_0
     try clear hfz12_1
     try clear hfz12_2
     try clear hfz21_0
     try clear hfz21_1
     try clear hfz21_2
     try clear hfz23_0
     try clear hfz23_1
     try clear hfz23_2
     try clear hfz27_0
     try clear hfz27_1
     try clear hfz27_2
     try clear hfz30_0
     try clear hfz30_1
     try clear hfz30_2
     try clear hfz33_0
     try clear hfz33_1
     try clear hfz33_2
     try clear hfz7_0
     try clear hfz7_1
     try clear hfz7_2
     try clear hx884_0
     try clear p884
     try clear q884
     obtain ⟨x38_2,x884000_2,x884002_2,u884002,rfl,HA,HK2,HO_884001,HO_884002,BK881,BK882,BK883,HB⟩:=hrel
     cases gk with
     | zero=>exact absurd HA.out (by simp [deletion_level.l1])
     | succ k2 =>
      have H:=HA.out
      clear HA
      simp only [deletion_level.l1] at H
      by_cases c34:x38_2 < (l0_2.length:Int)
      ·rw [if_pos c34] at H
       have c34b0:decide (x38_2 < (l0_2.length:Int))=true:=decide_eq_true c34
       clear c34
       by_cases c35:0≤x38_2
       ·rw [if_pos c35] at H
        have c35b0:decide (0≤x38_2)=true:=decide_eq_true c35
        clear c35
        by_cases c36:x38_2 < (l0_2.length:Int)
        ·rw [if_pos c36] at H
         have c36b0:decide (x38_2 < (l0_2.length:Int))=true:=decide_eq_true c36
         clear c36
         replace H:=Option.bind_eq_some_iff.mp H
         obtain ⟨⟨t892,t893,t896⟩,A370,H⟩:=H
         try dsimp only at H
         have A37:=Z A370
         clear A370
         by_cases c38:t892=0
         ·rw [if_pos c38] at H
          have c38b0:(t892 == 0)=true:=beq_iff_eq.mpr c38
          have c38b1:(t892 != 0)=false:=bne_eq_false_iff_eq.mpr c38
          clear c38
          replace H:=Option.bind_eq_some_iff.mp H
          obtain ⟨t899,A390,H⟩:=H
          try dsimp only at H
          have A39:=Z A390
          clear A390
          have H':=Z H
          clear H
          have p890:0≤(x38_2:Int):=of_decide_eq_true (by first|(with_reducible assumption)|assumption)
          have q890:x38_2 < (l0_2.length:Int):=of_decide_eq_true (by first|(with_reducible assumption)|assumption)
          obtain ⟨ad890,A890_1,c890_1,A890_2,c890_2,e890,hx890_0,hx890_1,hx890_2,hl890_1,hi890_1,hl890_2,hi890_2⟩:=at_T32 HR0_2.out x38_2 p890 q890
          cases e890
          replace hx890_0:=(HB.out.cell (World.block_lt_of_cell? w _ hx890_0)).trans hx890_0
          replace hx890_1:=(HB.out.cell (World.block_lt_of_cell? w _ hx890_1)).trans hx890_1
          replace hx890_2:=(HB.out.cell (World.block_lt_of_cell? w _ hx890_2)).trans hx890_2
          have HR890_1:=Z hi890_1
          have HC890_1:=Z hl890_1
          clear hi890_1 hl890_1
          have HR890_2:=Z hi890_2
          have HC890_2:=Z hl890_2
          clear hi890_2 hl890_2
          replace p890:=eq_true p890
          replace q890:=eq_true q890
          go_wp2_with (first|((with_reducible refine gate_dst (N:=9) rfl ?_);refine box_event ?hg (N:=9) ?hd (cs:=#[.int .i64 0,.slice none 0 0,.slice none 0 0]) (t:=32) ?hr ?_;(case hd=>rfl);(case hg=>rfl);(case hr=>first|(go_simp;done)|(go_simp;rfl));intro gb891 hg w40 hbox hb;have n0_:=Z (Kd.R_below (pR HO_884001) hb);have n1_:=Z (Kd.R_below (Kd.R_elderB (pR HO_884002) gb891 (Nat.le_of_eq hg.symm)) hb);have n2_:=Z (blk_below (g:=gb881) (o:=.cells #[.int .i64 a0_0,.slice A0_1 l0_1.length c0_1,.slice (some ad890) l0_2.length c0_2] 32 (0,0)) (pK BK881) hb);have n3_:=Z (blk_below (g:=gb882) (o:=.cells #[.int .i64 0,.slice none 0 0,.slice none 0 0] 32 (0,0)) (pK BK882) hb);have n4_:=Z (blk_below (g:=gb883) (o:=.cells #[.int .i64 x884000_2,u884001,u884002] 32 (0,0)) (pK BK883) hb);have n5_:=Z (below_step pB hb);have n6_:=Z (hbox);have n7_:=Z ((pT hg:w.heap.size≤gb891));have n8_:=Z ((pT hg:w.heap.size≤gb891));have n9_:=Z ((pL hg (pK BK881):gb881 ≠ gb891));have n10_:=Z ((pM hg (pK BK881):gb891 ≠ gb881));have n11_:=Z ((pL hg (pK BK882):gb882 ≠ gb891));have n12_:=Z ((pM hg (pK BK882):gb891 ≠ gb882));have n13_:=Z ((pL hg (pK BK883):gb883 ≠ gb891));have n14_:=Z ((pM hg (pK BK883):gb891 ≠ gb883));clear HO_884001;clear HO_884002;clear BK881;clear BK882;clear BK883;clear HB;have HO_884001:=n0_;have HO_884002:=n1_;have BK881:=n2_;have BK882:=n3_;have BK883:=n4_;have HB:=n5_;have BK891:=n6_;have GW891:=n7_;have GE891:=n8_;have NB881_891:=n9_;have NB891_881:=n10_;have NB882_891:=n11_;have NB891_882:=n12_;have NB883_891:=n13_;have NB891_883:=n14_;clear n0_ n1_ n2_ n3_ n4_ n5_ n6_ n7_ n8_ n9_ n10_ n11_ n12_ n13_ n14_;clear hb hbox hg;have hnb41:=NB891_881.out;have hnc41:=NB881_891.out;have hnb42:=NB891_882.out;have hnc42:=NB882_891.out;have hnb43:=NB891_883.out;have hnc43:=NB883_891.out;have hcz44_0:w40.cell? ⟨gb891,0,none⟩=some (.int .i64 0):=(kC BK891.out 0).trans rfl;have hcz44_1:w40.cell? ⟨gb891,1,none⟩=some (.slice none 0 0):=(kC BK891.out 1).trans rfl;have hcz44_2:w40.cell? ⟨gb891,2,none⟩=some (.slice none 0 0):=(kC BK891.out 2).trans rfl;have hfz44_0:=kF BK891.out 0;have hfz44_1:=kF BK891.out 1;have hfz44_2:=kF BK891.out 2)|((with_reducible refine gate_callee (f:=143) rfl ?_);refine goesL_ (some 44) rfl rfl Try.func143 (by kernel_rfl) rfl #[.agg #[.int .i64 ((rd_T32 l0_2 x38_2).f0),.slice A890_1 ((rd_T32 l0_2 x38_2).f1).length c890_1,.slice A890_2 ((rd_T32 l0_2 x38_2).f2).length c890_2],.int .i64 a1] rfl pG ?_;(with_reducible refine (ih k2 (by have:=HK1.out;have:=HK2.out;omega) ((rd_T32 l0_2 x38_2).f0) _ _ ((rd_T32 l0_2 x38_2).f1) _ _ ((rd_T32 l0_2 x38_2).f2) a1 t892 t893 t896 _ ?side1 ?side2 ?side3 ?side4 A37.out).mono ?_);(case side1=>exact Kd.C_below HR890_1.out pB);(case side2=>exact HC890_1.out);(case side3=>exact Kd.C_below HR890_2.out pB);(case side4=>exact HC890_2.out);rintro e w45 ⟨v894,v897,rfl,ho0,ho1,hb⟩;refine ⟨_,rfl,?_⟩;have n0_:=Z (Kd.R_elder' (by (with_reducible repeat (first|apply Kd.R_alloc|apply Kd.R_drewN|apply Kd.R_drew));exact (Kd.R_mono (Kd.R_far (p:=⟨gb891,2,none⟩) (Kd.R_far (p:=⟨gb891,1,none⟩) (Kd.R_far (p:=⟨gb891,0,none⟩) (Kd.R_types HO_884001.out BK891.out (by decide)) (fun _ hk=>hk.2) (.int .i64 ((rd_T32 l0_2 x38_2).f0))) (fun _ hk=>hk.2) (.slice A890_1 ((rd_T32 l0_2 x38_2).f1).length c890_1)) (fun _ hk=>hk.2) (.slice A890_2 ((rd_T32 l0_2 x38_2).f2).length c890_2)) (fun _ h_=>h_.1))) (Kd.R_base ho0) hb);have n1_:=Z (Kd.R_mono (Kd.R_told (Kd.R_told (Kd.R_old (by (with_reducible repeat (first|apply Kd.R_alloc|apply Kd.R_drewN|apply Kd.R_drew));exact (Kd.R_mono (Kd.R_far (p:=⟨gb891,2,none⟩) (Kd.R_far (p:=⟨gb891,1,none⟩) (Kd.R_far (p:=⟨gb891,0,none⟩) (Kd.R_mono HO_884002.out (fun k_ hk=>(⟨hk,hk.2⟩:_∧k_ ≠ gb891))) (fun _ hk=>hk.2) (.int .i64 ((rd_T32 l0_2 x38_2).f0))) (fun _ hk=>hk.2) (.slice A890_1 ((rd_T32 l0_2 x38_2).f1).length c890_1)) (fun _ hk=>hk.2) (.slice A890_2 ((rd_T32 l0_2 x38_2).f2).length c890_2)) (fun _ h_=>h_.1))) hb) (Kd.R_base ho0)) (Kd.R_base ho1)) (fun _ h_=>h_.1));have n2_:=Z (Kd.R_lower (Kd.R_new' ho0 (Kd.R_lt (by (with_reducible repeat (first|apply Kd.R_alloc|apply Kd.R_drewN|apply Kd.R_drew));exact (Kd.R_mono (Kd.R_far (p:=⟨gb891,2,none⟩) (Kd.R_far (p:=⟨gb891,1,none⟩) (Kd.R_far (p:=⟨gb891,0,none⟩) (Kd.R_types HO_884001.out BK891.out (by decide)) (fun _ hk=>hk.2) (.int .i64 ((rd_T32 l0_2 x38_2).f0))) (fun _ hk=>hk.2) (.slice A890_1 ((rd_T32 l0_2 x38_2).f1).length c890_1)) (fun _ hk=>hk.2) (.slice A890_2 ((rd_T32 l0_2 x38_2).f2).length c890_2)) (fun _ h_=>h_.1))))) (below_size pB));have n3_:=Z (Kd.R_lower (Kd.R_newB (Kd.R_newB (Kd.R_newB (Kd.R_newB (Kd.R_new' (Kd.R_new' ho1 (Kd.R_lt (by (with_reducible repeat (first|apply Kd.R_alloc|apply Kd.R_drewN|apply Kd.R_drew));exact (Kd.R_mono (Kd.R_far (p:=⟨gb891,2,none⟩) (Kd.R_far (p:=⟨gb891,1,none⟩) (Kd.R_far (p:=⟨gb891,0,none⟩) (Kd.R_types HO_884001.out BK891.out (by decide)) (fun _ hk=>hk.2) (.int .i64 ((rd_T32 l0_2 x38_2).f0))) (fun _ hk=>hk.2) (.slice A890_1 ((rd_T32 l0_2 x38_2).f1).length c890_1)) (fun _ hk=>hk.2) (.slice A890_2 ((rd_T32 l0_2 x38_2).f2).length c890_2)) (fun _ h_=>h_.1))))) (Kd.R_lt (by (with_reducible repeat (first|apply Kd.R_alloc|apply Kd.R_drewN|apply Kd.R_drew));exact (Kd.R_mono (Kd.R_far (p:=⟨gb891,2,none⟩) (Kd.R_far (p:=⟨gb891,1,none⟩) (Kd.R_far (p:=⟨gb891,0,none⟩) (Kd.R_mono HO_884002.out (fun k_ hk=>(⟨hk,hk.2⟩:_∧k_ ≠ gb891))) (fun _ hk=>hk.2) (.int .i64 ((rd_T32 l0_2 x38_2).f0))) (fun _ hk=>hk.2) (.slice A890_1 ((rd_T32 l0_2 x38_2).f1).length c890_1)) (fun _ hk=>hk.2) (.slice A890_2 ((rd_T32 l0_2 x38_2).f2).length c890_2)) (fun _ h_=>h_.1))))) (g:=gb881) (o:=.cells #[.int .i64 a0_0,.slice A0_1 l0_1.length c0_1,.slice (some ad890) l0_2.length c0_2] 32 (0,0)) (by (with_reducible repeat (first|refine kN ?_ _|refine kD ?_|refine kA ?_ _));refine blk_far ?_ NB881_891.out _;(with_reducible repeat (first|refine kN ?_ _|refine kD ?_|refine kA ?_ _));refine blk_far ?_ NB881_891.out _;(with_reducible repeat (first|refine kN ?_ _|refine kD ?_|refine kA ?_ _));refine blk_far ?_ NB881_891.out _;(with_reducible repeat (first|refine kN ?_ _|refine kD ?_|refine kA ?_ _));exact BK881.out)) (g:=gb882) (o:=.cells #[.int .i64 0,.slice none 0 0,.slice none 0 0] 32 (0,0)) (by (with_reducible repeat (first|refine kN ?_ _|refine kD ?_|refine kA ?_ _));refine blk_far ?_ NB882_891.out _;(with_reducible repeat (first|refine kN ?_ _|refine kD ?_|refine kA ?_ _));refine blk_far ?_ NB882_891.out _;(with_reducible repeat (first|refine kN ?_ _|refine kD ?_|refine kA ?_ _));refine blk_far ?_ NB882_891.out _;(with_reducible repeat (first|refine kN ?_ _|refine kD ?_|refine kA ?_ _));exact BK882.out)) (g:=gb883) (o:=.cells #[.int .i64 x884000_2,u884001,u884002] 32 (0,0)) (by (with_reducible repeat (first|refine kN ?_ _|refine kD ?_|refine kA ?_ _));refine blk_far ?_ NB883_891.out _;(with_reducible repeat (first|refine kN ?_ _|refine kD ?_|refine kA ?_ _));refine blk_far ?_ NB883_891.out _;(with_reducible repeat (first|refine kN ?_ _|refine kD ?_|refine kA ?_ _));refine blk_far ?_ NB883_891.out _;(with_reducible repeat (first|refine kN ?_ _|refine kD ?_|refine kA ?_ _));exact BK883.out)) (g:=gb891) (o:=.cells #[.int .i64 ((rd_T32 l0_2 x38_2).f0),.slice A890_1 ((rd_T32 l0_2 x38_2).f1).length c890_1,.slice A890_2 ((rd_T32 l0_2 x38_2).f2).length c890_2] 32 (0,0)) (by (with_reducible repeat (first|refine kN ?_ _|refine kD ?_|refine kA ?_ _));refine blk_put (cs:=#[.int .i64 ((rd_T32 l0_2 x38_2).f0),.slice A890_1 ((rd_T32 l0_2 x38_2).f1).length c890_1,.slice none 0 0]) ?_ 2 _ rfl;(with_reducible repeat (first|refine kN ?_ _|refine kD ?_|refine kA ?_ _));refine blk_put (cs:=#[.int .i64 ((rd_T32 l0_2 x38_2).f0),.slice none 0 0,.slice none 0 0]) ?_ 1 _ rfl;(with_reducible repeat (first|refine kN ?_ _|refine kD ?_|refine kA ?_ _));refine blk_put (cs:=#[.int .i64 0,.slice none 0 0,.slice none 0 0]) ?_ 0 _ rfl;(with_reducible repeat (first|refine kN ?_ _|refine kD ?_|refine kA ?_ _));exact BK891.out)) (below_size pB));have n4_:=Z (blk_below (g:=gb881) (o:=.cells #[.int .i64 a0_0,.slice A0_1 l0_1.length c0_1,.slice (some ad890) l0_2.length c0_2] 32 (0,0)) (by (with_reducible repeat (first|refine kN ?_ _|refine kD ?_|refine kA ?_ _));refine blk_far ?_ NB881_891.out _;(with_reducible repeat (first|refine kN ?_ _|refine kD ?_|refine kA ?_ _));refine blk_far ?_ NB881_891.out _;(with_reducible repeat (first|refine kN ?_ _|refine kD ?_|refine kA ?_ _));refine blk_far ?_ NB881_891.out _;(with_reducible repeat (first|refine kN ?_ _|refine kD ?_|refine kA ?_ _));exact BK881.out) hb);have n5_:=Z (blk_below (g:=gb882) (o:=.cells #[.int .i64 0,.slice none 0 0,.slice none 0 0] 32 (0,0)) (by (with_reducible repeat (first|refine kN ?_ _|refine kD ?_|refine kA ?_ _));refine blk_far ?_ NB882_891.out _;(with_reducible repeat (first|refine kN ?_ _|refine kD ?_|refine kA ?_ _));refine blk_far ?_ NB882_891.out _;(with_reducible repeat (first|refine kN ?_ _|refine kD ?_|refine kA ?_ _));refine blk_far ?_ NB882_891.out _;(with_reducible repeat (first|refine kN ?_ _|refine kD ?_|refine kA ?_ _));exact BK882.out) hb);have n6_:=Z (blk_below (g:=gb883) (o:=.cells #[.int .i64 x884000_2,u884001,u884002] 32 (0,0)) (by (with_reducible repeat (first|refine kN ?_ _|refine kD ?_|refine kA ?_ _));refine blk_far ?_ NB883_891.out _;(with_reducible repeat (first|refine kN ?_ _|refine kD ?_|refine kA ?_ _));refine blk_far ?_ NB883_891.out _;(with_reducible repeat (first|refine kN ?_ _|refine kD ?_|refine kA ?_ _));refine blk_far ?_ NB883_891.out _;(with_reducible repeat (first|refine kN ?_ _|refine kD ?_|refine kA ?_ _));exact BK883.out) hb);have n7_:=Z (blk_below (g:=gb891) (o:=.cells #[.int .i64 ((rd_T32 l0_2 x38_2).f0),.slice A890_1 ((rd_T32 l0_2 x38_2).f1).length c890_1,.slice A890_2 ((rd_T32 l0_2 x38_2).f2).length c890_2] 32 (0,0)) (by (with_reducible repeat (first|refine kN ?_ _|refine kD ?_|refine kA ?_ _));refine blk_put (cs:=#[.int .i64 ((rd_T32 l0_2 x38_2).f0),.slice A890_1 ((rd_T32 l0_2 x38_2).f1).length c890_1,.slice none 0 0]) ?_ 2 _ rfl;(with_reducible repeat (first|refine kN ?_ _|refine kD ?_|refine kA ?_ _));refine blk_put (cs:=#[.int .i64 ((rd_T32 l0_2 x38_2).f0),.slice none 0 0,.slice none 0 0]) ?_ 1 _ rfl;(with_reducible repeat (first|refine kN ?_ _|refine kD ?_|refine kA ?_ _));refine blk_put (cs:=#[.int .i64 0,.slice none 0 0,.slice none 0 0]) ?_ 0 _ rfl;(with_reducible repeat (first|refine kN ?_ _|refine kD ?_|refine kA ?_ _));exact BK891.out) hb);have n8_:=Z (below_step pB hb);clear HO_884001;clear HO_884002;clear BK881;clear BK882;clear BK883;clear BK891;clear HB;have HO_884001:=n0_;have HO_884002:=n1_;have HO895:=n2_;have HO898:=n3_;have BK881:=n4_;have BK882:=n5_;have BK883:=n6_;have BK891:=n7_;have HB:=n8_;clear n0_ n1_ n2_ n3_ n4_ n5_ n6_ n7_ n8_;(try clear hb);(try clear hb2);(try clear hk);(try clear hi);(try clear ho0);(try clear ho1);have hcz46_0:w45.cell? ⟨gb891,0,none⟩=some (.int .i64 ((rd_T32 l0_2 x38_2).f0)):=(kC BK891.out 0).trans rfl;have hcz46_1:w45.cell? ⟨gb891,1,none⟩=some (.slice A890_1 ((rd_T32 l0_2 x38_2).f1).length c890_1):=(kC BK891.out 1).trans rfl;have hcz46_2:w45.cell? ⟨gb891,2,none⟩=some (.slice A890_2 ((rd_T32 l0_2 x38_2).f2).length c890_2):=(kC BK891.out 2).trans rfl;have hfz46_0:=kF BK891.out 0;have hfz46_1:=kF BK891.out 1;have hfz46_2:=kF BK891.out 2;obtain ⟨Ao47,co47,eo47⟩:=Kd.R_slice HO895.out;subst eo47;obtain ⟨Ao48,co48,eo48⟩:=Kd.R_slice HO898.out;subst eo48;have hnb49:=NB883_881.out;have hnc49:=NB881_883.out;have hnb50:=NB883_882.out;have hnc50:=NB882_883.out;have hcz51_0:w45.cell? ⟨gb883,0,none⟩=some (.int .i64 x884000_2):=(kC BK883.out 0).trans rfl;have hcz51_1:w45.cell? ⟨gb883,1,none⟩=some (u884001):=(kC BK883.out 1).trans rfl;have hcz51_2:w45.cell? ⟨gb883,2,none⟩=some (u884002):=(kC BK883.out 2).trans rfl;have hfz51_0:=kF BK883.out 0;have hfz51_1:=kF BK883.out 1;have hfz51_2:=kF BK883.out 2)|((with_reducible refine gate_callee (f:=153) rfl ?_);refine goesL_ (some 50) rfl rfl Try.func153 (by kernel_rfl) rfl #[.int .i64 x884000_2,.int .i64 1] rfl pG ?_;(with_reducible refine (deletion_lowered.calls x884000_2 1 t899 _ A39.out).mono ?_);rintro e w52 ⟨rfl,hb⟩;refine ⟨_,rfl,?_⟩;have n0_:=Z (Kd.R_below (by (with_reducible repeat (first|apply Kd.R_alloc|apply Kd.R_drewN|apply Kd.R_drew));exact (Kd.R_mono (Kd.R_far (p:=⟨gb891,2,none⟩) (Kd.R_far (p:=⟨gb891,1,none⟩) (Kd.R_far (p:=⟨gb891,0,none⟩) (Kd.R_types HO_884001.out BK891.out (by decide)) (fun _ hk=>hk.2) (.int .i64 t892)) (fun _ hk=>hk.2) (.slice Ao47 t893.length co47)) (fun _ hk=>hk.2) (.slice Ao48 t896.length co48)) (fun _ h_=>h_.1))) hb);have n1_:=Z (Kd.R_below (by (with_reducible repeat (first|apply Kd.R_alloc|apply Kd.R_drewN|apply Kd.R_drew));exact (Kd.R_mono (Kd.R_far (p:=⟨gb891,2,none⟩) (Kd.R_far (p:=⟨gb891,1,none⟩) (Kd.R_far (p:=⟨gb891,0,none⟩) (Kd.R_mono HO_884002.out (fun k_ hk=>(⟨hk,hk.1.1.2⟩:_∧k_ ≠ gb891))) (fun _ hk=>hk.2) (.int .i64 t892)) (fun _ hk=>hk.2) (.slice Ao47 t893.length co47)) (fun _ hk=>hk.2) (.slice Ao48 t896.length co48)) (fun _ h_=>h_.1))) hb);have n2_:=Z (Kd.R_below (by (with_reducible repeat (first|apply Kd.R_alloc|apply Kd.R_drewN|apply Kd.R_drew));exact (Kd.R_mono (Kd.R_far (p:=⟨gb891,2,none⟩) (Kd.R_far (p:=⟨gb891,1,none⟩) (Kd.R_far (p:=⟨gb891,0,none⟩) (Kd.R_types HO895.out BK891.out (by decide)) (fun _ hk=>hk.2) (.int .i64 t892)) (fun _ hk=>hk.2) (.slice Ao47 t893.length co47)) (fun _ hk=>hk.2) (.slice Ao48 t896.length co48)) (fun _ h_=>h_.1))) hb);have n3_:=Z (Kd.R_below (by (with_reducible repeat (first|apply Kd.R_alloc|apply Kd.R_drewN|apply Kd.R_drew));exact (Kd.R_mono (Kd.R_far (p:=⟨gb891,2,none⟩) (Kd.R_far (p:=⟨gb891,1,none⟩) (Kd.R_far (p:=⟨gb891,0,none⟩) (Kd.R_mono HO898.out (fun k_ hk=>(⟨hk,hk.2⟩:_∧k_ ≠ gb891))) (fun _ hk=>hk.2) (.int .i64 t892)) (fun _ hk=>hk.2) (.slice Ao47 t893.length co47)) (fun _ hk=>hk.2) (.slice Ao48 t896.length co48)) (fun _ h_=>h_.1))) hb);have n4_:=Z (blk_below (g:=gb881) (o:=.cells #[.int .i64 a0_0,.slice A0_1 l0_1.length c0_1,.slice (some ad890) l0_2.length c0_2] 32 (0,0)) (by (with_reducible repeat (first|refine kN ?_ _|refine kD ?_|refine kA ?_ _));refine blk_far ?_ NB881_891.out _;(with_reducible repeat (first|refine kN ?_ _|refine kD ?_|refine kA ?_ _));refine blk_far ?_ NB881_891.out _;(with_reducible repeat (first|refine kN ?_ _|refine kD ?_|refine kA ?_ _));refine blk_far ?_ NB881_891.out _;(with_reducible repeat (first|refine kN ?_ _|refine kD ?_|refine kA ?_ _));exact BK881.out) hb);have n5_:=Z (blk_below (g:=gb882) (o:=.cells #[.int .i64 0,.slice none 0 0,.slice none 0 0] 32 (0,0)) (by (with_reducible repeat (first|refine kN ?_ _|refine kD ?_|refine kA ?_ _));refine blk_far ?_ NB882_891.out _;(with_reducible repeat (first|refine kN ?_ _|refine kD ?_|refine kA ?_ _));refine blk_far ?_ NB882_891.out _;(with_reducible repeat (first|refine kN ?_ _|refine kD ?_|refine kA ?_ _));refine blk_far ?_ NB882_891.out _;(with_reducible repeat (first|refine kN ?_ _|refine kD ?_|refine kA ?_ _));exact BK882.out) hb);have n6_:=Z (blk_below (g:=gb883) (o:=.cells #[.int .i64 x884000_2,u884001,u884002] 32 (0,0)) (by (with_reducible repeat (first|refine kN ?_ _|refine kD ?_|refine kA ?_ _));refine blk_far ?_ NB883_891.out _;(with_reducible repeat (first|refine kN ?_ _|refine kD ?_|refine kA ?_ _));refine blk_far ?_ NB883_891.out _;(with_reducible repeat (first|refine kN ?_ _|refine kD ?_|refine kA ?_ _));refine blk_far ?_ NB883_891.out _;(with_reducible repeat (first|refine kN ?_ _|refine kD ?_|refine kA ?_ _));exact BK883.out) hb);have n7_:=Z (blk_below (g:=gb891) (o:=.cells #[.int .i64 t892,.slice Ao47 t893.length co47,.slice Ao48 t896.length co48] 32 (0,0)) (by (with_reducible repeat (first|refine kN ?_ _|refine kD ?_|refine kA ?_ _));refine blk_put (cs:=#[.int .i64 t892,.slice Ao47 t893.length co47,.slice A890_2 ((rd_T32 l0_2 x38_2).f2).length c890_2]) ?_ 2 _ rfl;(with_reducible repeat (first|refine kN ?_ _|refine kD ?_|refine kA ?_ _));refine blk_put (cs:=#[.int .i64 t892,.slice A890_1 ((rd_T32 l0_2 x38_2).f1).length c890_1,.slice A890_2 ((rd_T32 l0_2 x38_2).f2).length c890_2]) ?_ 1 _ rfl;(with_reducible repeat (first|refine kN ?_ _|refine kD ?_|refine kA ?_ _));refine blk_put (cs:=#[.int .i64 ((rd_T32 l0_2 x38_2).f0),.slice A890_1 ((rd_T32 l0_2 x38_2).f1).length c890_1,.slice A890_2 ((rd_T32 l0_2 x38_2).f2).length c890_2]) ?_ 0 _ rfl;(with_reducible repeat (first|refine kN ?_ _|refine kD ?_|refine kA ?_ _));exact BK891.out) hb);have n8_:=Z (below_step pB hb);clear HO_884001;clear HO_884002;clear HO895;clear HO898;clear BK881;clear BK882;clear BK883;clear BK891;clear HB;have HO_884001:=n0_;have HO_884002:=n1_;have HO895:=n2_;have HO898:=n3_;have BK881:=n4_;have BK882:=n5_;have BK883:=n6_;have BK891:=n7_;have HB:=n8_;clear n0_ n1_ n2_ n3_ n4_ n5_ n6_ n7_ n8_;(try clear hb);(try clear hb2);(try clear hk);(try clear hi);have hcz53_0:w52.cell? ⟨gb883,0,none⟩=some (.int .i64 x884000_2):=(kC BK883.out 0).trans rfl;have hcz53_1:w52.cell? ⟨gb883,1,none⟩=some (u884001):=(kC BK883.out 1).trans rfl;have hcz53_2:w52.cell? ⟨gb883,2,none⟩=some (u884002):=(kC BK883.out 2).trans rfl;have hfz53_0:=kF BK883.out 0;have hfz53_1:=kF BK883.out 1;have hfz53_2:=kF BK883.out 2))
          go_roundg k2
          case measure=>have:=HK1.out;have:=HK2.out;omega
          case rel=>exact ⟨(wrap64 (x38_2+1)),(t899),(x884002_2),(u884002),pE,H',⟨by have:=HK1.out;have:=HK2.out;omega⟩,⟨by (with_reducible repeat (first|apply Kd.R_alloc|apply Kd.R_drewN|apply Kd.R_drew));exact Kd.R_mono (Kd.R_far (p:=⟨gb883,0,none⟩) (Kd.R_types HO_884001.out BK883.out (by decide)) (fun _ hk=>hk.2) (.int .i64 t899)) (fun _ hk=>trivial)⟩,⟨by (with_reducible repeat (first|apply Kd.R_alloc|apply Kd.R_drewN|apply Kd.R_drew));exact Kd.R_mono (Kd.R_far (p:=⟨gb883,0,none⟩) (Kd.R_mono HO_884002.out (fun k_ hk=>(⟨hk,hk.1.1.1.2.2.2⟩:_∧k_ ≠ gb883))) (fun _ hk=>hk.2) (.int .i64 t899)) (fun _ hk=>⟨hk.1.1.1.1.1,⟨hk.1.1.1.1.2.1,⟨hk.1.1.1.1.2.2.1,hk.1.1.1.1.2.2.2⟩⟩⟩)⟩,⟨by (with_reducible repeat (first|refine kN ?_ _|refine kD ?_|refine kA ?_ _));refine blk_far ?_ NB881_883.out _;(with_reducible repeat (first|refine kN ?_ _|refine kD ?_|refine kA ?_ _));exact BK881.out⟩,⟨by (with_reducible repeat (first|refine kN ?_ _|refine kD ?_|refine kA ?_ _));refine blk_far ?_ NB882_883.out _;(with_reducible repeat (first|refine kN ?_ _|refine kD ?_|refine kA ?_ _));exact BK882.out⟩,⟨by (with_reducible repeat (first|refine kN ?_ _|refine kD ?_|refine kA ?_ _));refine blk_put (cs:=#[.int .i64 x884000_2,u884001,u884002]) ?_ 0 _ rfl;(with_reducible repeat (first|refine kN ?_ _|refine kD ?_|refine kA ?_ _));exact BK883.out⟩,⟨pB⟩⟩
         ·rw [if_neg c38] at H
          have c38b0:(t892 == 0)=false:=beq_eq_false_iff_ne.mpr c38
          have c38b1:(t892 != 0)=true:=bne_iff_ne.mpr c38
          by_cases c54:x884002_2.length < 2513169434916
          ·rw [if_pos c54] at H
           have LMc54:=Z c54
           clear c54
           obtain ⟨y900,hy900⟩:∃ y_:List (S32),y_=(x884002_2++[(⟨t892,t893,t896⟩:S32)]):=⟨_,rfl⟩
           first|rw [← hy900] at H|(replace H:=(Option.bind_some _ _).symm.trans H;rw [← hy900] at H)
           have Ny900:=Z hy900
           clear hy900
           have H':=Z H
           clear H
           have p890:0≤(x38_2:Int):=of_decide_eq_true (by first|(with_reducible assumption)|assumption)
           have q890:x38_2 < (l0_2.length:Int):=of_decide_eq_true (by first|(with_reducible assumption)|assumption)
           obtain ⟨ad890,A890_1,c890_1,A890_2,c890_2,e890,hx890_0,hx890_1,hx890_2,hl890_1,hi890_1,hl890_2,hi890_2⟩:=at_T32 HR0_2.out x38_2 p890 q890
           cases e890
           replace hx890_0:=(HB.out.cell (World.block_lt_of_cell? w _ hx890_0)).trans hx890_0
           replace hx890_1:=(HB.out.cell (World.block_lt_of_cell? w _ hx890_1)).trans hx890_1
           replace hx890_2:=(HB.out.cell (World.block_lt_of_cell? w _ hx890_2)).trans hx890_2
           have HR890_1:=Z hi890_1
           have HC890_1:=Z hl890_1
           clear hi890_1 hl890_1
           have HR890_2:=Z hi890_2
           have HC890_2:=Z hl890_2
           clear hi890_2 hl890_2
           replace p890:=eq_true p890
           replace q890:=eq_true q890
           go_wp2_with (first|((with_reducible refine gate_dst (N:=9) rfl ?_);refine box_event ?hg (N:=9) ?hd (cs:=#[.int .i64 0,.slice none 0 0,.slice none 0 0]) (t:=32) ?hr ?_;(case hd=>rfl);(case hg=>rfl);(case hr=>first|(go_simp;done)|(go_simp;rfl));intro gb891 hg w55 hbox hb;have n0_:=Z (Kd.R_below (pR HO_884001) hb);have n1_:=Z (Kd.R_below (Kd.R_elderB (pR HO_884002) gb891 (Nat.le_of_eq hg.symm)) hb);have n2_:=Z (blk_below (g:=gb881) (o:=.cells #[.int .i64 a0_0,.slice A0_1 l0_1.length c0_1,.slice (some ad890) l0_2.length c0_2] 32 (0,0)) (pK BK881) hb);have n3_:=Z (blk_below (g:=gb882) (o:=.cells #[.int .i64 0,.slice none 0 0,.slice none 0 0] 32 (0,0)) (pK BK882) hb);have n4_:=Z (blk_below (g:=gb883) (o:=.cells #[.int .i64 x884000_2,u884001,u884002] 32 (0,0)) (pK BK883) hb);have n5_:=Z (below_step pB hb);have n6_:=Z (hbox);have n7_:=Z ((pT hg:w.heap.size≤gb891));have n8_:=Z ((pT hg:w.heap.size≤gb891));have n9_:=Z ((pL hg (pK BK881):gb881 ≠ gb891));have n10_:=Z ((pM hg (pK BK881):gb891 ≠ gb881));have n11_:=Z ((pL hg (pK BK882):gb882 ≠ gb891));have n12_:=Z ((pM hg (pK BK882):gb891 ≠ gb882));have n13_:=Z ((pL hg (pK BK883):gb883 ≠ gb891));have n14_:=Z ((pM hg (pK BK883):gb891 ≠ gb883));clear HO_884001;clear HO_884002;clear BK881;clear BK882;clear BK883;clear HB;have HO_884001:=n0_;have HO_884002:=n1_;have BK881:=n2_;have BK882:=n3_;have BK883:=n4_;have HB:=n5_;have BK891:=n6_;have GW891:=n7_;have GE891:=n8_;have NB881_891:=n9_;have NB891_881:=n10_;have NB882_891:=n11_;have NB891_882:=n12_;have NB883_891:=n13_;have NB891_883:=n14_;clear n0_ n1_ n2_ n3_ n4_ n5_ n6_ n7_ n8_ n9_ n10_ n11_ n12_ n13_ n14_;clear hb hbox hg;have hnb56:=NB891_881.out;have hnc56:=NB881_891.out;have hnb57:=NB891_882.out;have hnc57:=NB882_891.out;have hnb58:=NB891_883.out;have hnc58:=NB883_891.out;have hcz59_0:w55.cell? ⟨gb891,0,none⟩=some (.int .i64 0):=(kC BK891.out 0).trans rfl;have hcz59_1:w55.cell? ⟨gb891,1,none⟩=some (.slice none 0 0):=(kC BK891.out 1).trans rfl;have hcz59_2:w55.cell? ⟨gb891,2,none⟩=some (.slice none 0 0):=(kC BK891.out 2).trans rfl;have hfz59_0:=kF BK891.out 0;have hfz59_1:=kF BK891.out 1;have hfz59_2:=kF BK891.out 2)|((with_reducible refine gate_callee (f:=143) rfl ?_);refine goesL_ (some 44) rfl rfl Try.func143 (by kernel_rfl) rfl #[.agg #[.int .i64 ((rd_T32 l0_2 x38_2).f0),.slice A890_1 ((rd_T32 l0_2 x38_2).f1).length c890_1,.slice A890_2 ((rd_T32 l0_2 x38_2).f2).length c890_2],.int .i64 a1] rfl pG ?_;(with_reducible refine (ih k2 (by have:=HK1.out;have:=HK2.out;omega) ((rd_T32 l0_2 x38_2).f0) _ _ ((rd_T32 l0_2 x38_2).f1) _ _ ((rd_T32 l0_2 x38_2).f2) a1 t892 t893 t896 _ ?side1 ?side2 ?side3 ?side4 A37.out).mono ?_);(case side1=>exact Kd.C_below HR890_1.out pB);(case side2=>exact HC890_1.out);(case side3=>exact Kd.C_below HR890_2.out pB);(case side4=>exact HC890_2.out);rintro e w60 ⟨v894,v897,rfl,ho0,ho1,hb⟩;refine ⟨_,rfl,?_⟩;have n0_:=Z (Kd.R_elder' (by (with_reducible repeat (first|apply Kd.R_alloc|apply Kd.R_drewN|apply Kd.R_drew));exact (Kd.R_mono (Kd.R_far (p:=⟨gb891,2,none⟩) (Kd.R_far (p:=⟨gb891,1,none⟩) (Kd.R_far (p:=⟨gb891,0,none⟩) (Kd.R_types HO_884001.out BK891.out (by decide)) (fun _ hk=>hk.2) (.int .i64 ((rd_T32 l0_2 x38_2).f0))) (fun _ hk=>hk.2) (.slice A890_1 ((rd_T32 l0_2 x38_2).f1).length c890_1)) (fun _ hk=>hk.2) (.slice A890_2 ((rd_T32 l0_2 x38_2).f2).length c890_2)) (fun _ h_=>h_.1))) (Kd.R_base ho0) hb);have n1_:=Z (Kd.R_mono (Kd.R_told (Kd.R_told (Kd.R_old (by (with_reducible repeat (first|apply Kd.R_alloc|apply Kd.R_drewN|apply Kd.R_drew));exact (Kd.R_mono (Kd.R_far (p:=⟨gb891,2,none⟩) (Kd.R_far (p:=⟨gb891,1,none⟩) (Kd.R_far (p:=⟨gb891,0,none⟩) (Kd.R_mono HO_884002.out (fun k_ hk=>(⟨hk,hk.2⟩:_∧k_ ≠ gb891))) (fun _ hk=>hk.2) (.int .i64 ((rd_T32 l0_2 x38_2).f0))) (fun _ hk=>hk.2) (.slice A890_1 ((rd_T32 l0_2 x38_2).f1).length c890_1)) (fun _ hk=>hk.2) (.slice A890_2 ((rd_T32 l0_2 x38_2).f2).length c890_2)) (fun _ h_=>h_.1))) hb) (Kd.R_base ho0)) (Kd.R_base ho1)) (fun _ h_=>h_.1));have n2_:=Z (Kd.R_lower (Kd.R_new' ho0 (Kd.R_lt (by (with_reducible repeat (first|apply Kd.R_alloc|apply Kd.R_drewN|apply Kd.R_drew));exact (Kd.R_mono (Kd.R_far (p:=⟨gb891,2,none⟩) (Kd.R_far (p:=⟨gb891,1,none⟩) (Kd.R_far (p:=⟨gb891,0,none⟩) (Kd.R_types HO_884001.out BK891.out (by decide)) (fun _ hk=>hk.2) (.int .i64 ((rd_T32 l0_2 x38_2).f0))) (fun _ hk=>hk.2) (.slice A890_1 ((rd_T32 l0_2 x38_2).f1).length c890_1)) (fun _ hk=>hk.2) (.slice A890_2 ((rd_T32 l0_2 x38_2).f2).length c890_2)) (fun _ h_=>h_.1))))) (below_size pB));have n3_:=Z (Kd.R_lower (Kd.R_newB (Kd.R_newB (Kd.R_newB (Kd.R_newB (Kd.R_new' (Kd.R_new' ho1 (Kd.R_lt (by (with_reducible repeat (first|apply Kd.R_alloc|apply Kd.R_drewN|apply Kd.R_drew));exact (Kd.R_mono (Kd.R_far (p:=⟨gb891,2,none⟩) (Kd.R_far (p:=⟨gb891,1,none⟩) (Kd.R_far (p:=⟨gb891,0,none⟩) (Kd.R_types HO_884001.out BK891.out (by decide)) (fun _ hk=>hk.2) (.int .i64 ((rd_T32 l0_2 x38_2).f0))) (fun _ hk=>hk.2) (.slice A890_1 ((rd_T32 l0_2 x38_2).f1).length c890_1)) (fun _ hk=>hk.2) (.slice A890_2 ((rd_T32 l0_2 x38_2).f2).length c890_2)) (fun _ h_=>h_.1))))) (Kd.R_lt (by (with_reducible repeat (first|apply Kd.R_alloc|apply Kd.R_drewN|apply Kd.R_drew));exact (Kd.R_mono (Kd.R_far (p:=⟨gb891,2,none⟩) (Kd.R_far (p:=⟨gb891,1,none⟩) (Kd.R_far (p:=⟨gb891,0,none⟩) (Kd.R_mono HO_884002.out (fun k_ hk=>(⟨hk,hk.2⟩:_∧k_ ≠ gb891))) (fun _ hk=>hk.2) (.int .i64 ((rd_T32 l0_2 x38_2).f0))) (fun _ hk=>hk.2) (.slice A890_1 ((rd_T32 l0_2 x38_2).f1).length c890_1)) (fun _ hk=>hk.2) (.slice A890_2 ((rd_T32 l0_2 x38_2).f2).length c890_2)) (fun _ h_=>h_.1))))) (g:=gb881) (o:=.cells #[.int .i64 a0_0,.slice A0_1 l0_1.length c0_1,.slice (some ad890) l0_2.length c0_2] 32 (0,0)) (by (with_reducible repeat (first|refine kN ?_ _|refine kD ?_|refine kA ?_ _));refine blk_far ?_ NB881_891.out _;(with_reducible repeat (first|refine kN ?_ _|refine kD ?_|refine kA ?_ _));refine blk_far ?_ NB881_891.out _;(with_reducible repeat (first|refine kN ?_ _|refine kD ?_|refine kA ?_ _));refine blk_far ?_ NB881_891.out _;(with_reducible repeat (first|refine kN ?_ _|refine kD ?_|refine kA ?_ _));exact BK881.out)) (g:=gb882) (o:=.cells #[.int .i64 0,.slice none 0 0,.slice none 0 0] 32 (0,0)) (by (with_reducible repeat (first|refine kN ?_ _|refine kD ?_|refine kA ?_ _));refine blk_far ?_ NB882_891.out _;(with_reducible repeat (first|refine kN ?_ _|refine kD ?_|refine kA ?_ _));refine blk_far ?_ NB882_891.out _;(with_reducible repeat (first|refine kN ?_ _|refine kD ?_|refine kA ?_ _));refine blk_far ?_ NB882_891.out _;(with_reducible repeat (first|refine kN ?_ _|refine kD ?_|refine kA ?_ _));exact BK882.out)) (g:=gb883) (o:=.cells #[.int .i64 x884000_2,u884001,u884002] 32 (0,0)) (by (with_reducible repeat (first|refine kN ?_ _|refine kD ?_|refine kA ?_ _));refine blk_far ?_ NB883_891.out _;(with_reducible repeat (first|refine kN ?_ _|refine kD ?_|refine kA ?_ _));refine blk_far ?_ NB883_891.out _;(with_reducible repeat (first|refine kN ?_ _|refine kD ?_|refine kA ?_ _));refine blk_far ?_ NB883_891.out _;(with_reducible repeat (first|refine kN ?_ _|refine kD ?_|refine kA ?_ _));exact BK883.out)) (g:=gb891) (o:=.cells #[.int .i64 ((rd_T32 l0_2 x38_2).f0),.slice A890_1 ((rd_T32 l0_2 x38_2).f1).length c890_1,.slice A890_2 ((rd_T32 l0_2 x38_2).f2).length c890_2] 32 (0,0)) (by (with_reducible repeat (first|refine kN ?_ _|refine kD ?_|refine kA ?_ _));refine blk_put (cs:=#[.int .i64 ((rd_T32 l0_2 x38_2).f0),.slice A890_1 ((rd_T32 l0_2 x38_2).f1).length c890_1,.slice none 0 0]) ?_ 2 _ rfl;(with_reducible repeat (first|refine kN ?_ _|refine kD ?_|refine kA ?_ _));refine blk_put (cs:=#[.int .i64 ((rd_T32 l0_2 x38_2).f0),.slice none 0 0,.slice none 0 0]) ?_ 1 _ rfl;(with_reducible repeat (first|refine kN ?_ _|refine kD ?_|refine kA ?_ _));refine blk_put (cs:=#[.int .i64 0,.slice none 0 0,.slice none 0 0]) ?_ 0 _ rfl;(with_reducible repeat (first|refine kN ?_ _|refine kD ?_|refine kA ?_ _));exact BK891.out)) (below_size pB));have n4_:=Z (blk_below (g:=gb881) (o:=.cells #[.int .i64 a0_0,.slice A0_1 l0_1.length c0_1,.slice (some ad890) l0_2.length c0_2] 32 (0,0)) (by (with_reducible repeat (first|refine kN ?_ _|refine kD ?_|refine kA ?_ _));refine blk_far ?_ NB881_891.out _;(with_reducible repeat (first|refine kN ?_ _|refine kD ?_|refine kA ?_ _));refine blk_far ?_ NB881_891.out _;(with_reducible repeat (first|refine kN ?_ _|refine kD ?_|refine kA ?_ _));refine blk_far ?_ NB881_891.out _;(with_reducible repeat (first|refine kN ?_ _|refine kD ?_|refine kA ?_ _));exact BK881.out) hb);have n5_:=Z (blk_below (g:=gb882) (o:=.cells #[.int .i64 0,.slice none 0 0,.slice none 0 0] 32 (0,0)) (by (with_reducible repeat (first|refine kN ?_ _|refine kD ?_|refine kA ?_ _));refine blk_far ?_ NB882_891.out _;(with_reducible repeat (first|refine kN ?_ _|refine kD ?_|refine kA ?_ _));refine blk_far ?_ NB882_891.out _;(with_reducible repeat (first|refine kN ?_ _|refine kD ?_|refine kA ?_ _));refine blk_far ?_ NB882_891.out _;(with_reducible repeat (first|refine kN ?_ _|refine kD ?_|refine kA ?_ _));exact BK882.out) hb);have n6_:=Z (blk_below (g:=gb883) (o:=.cells #[.int .i64 x884000_2,u884001,u884002] 32 (0,0)) (by (with_reducible repeat (first|refine kN ?_ _|refine kD ?_|refine kA ?_ _));refine blk_far ?_ NB883_891.out _;(with_reducible repeat (first|refine kN ?_ _|refine kD ?_|refine kA ?_ _));refine blk_far ?_ NB883_891.out _;(with_reducible repeat (first|refine kN ?_ _|refine kD ?_|refine kA ?_ _));refine blk_far ?_ NB883_891.out _;(with_reducible repeat (first|refine kN ?_ _|refine kD ?_|refine kA ?_ _));exact BK883.out) hb);have n7_:=Z (blk_below (g:=gb891) (o:=.cells #[.int .i64 ((rd_T32 l0_2 x38_2).f0),.slice A890_1 ((rd_T32 l0_2 x38_2).f1).length c890_1,.slice A890_2 ((rd_T32 l0_2 x38_2).f2).length c890_2] 32 (0,0)) (by (with_reducible repeat (first|refine kN ?_ _|refine kD ?_|refine kA ?_ _));refine blk_put (cs:=#[.int .i64 ((rd_T32 l0_2 x38_2).f0),.slice A890_1 ((rd_T32 l0_2 x38_2).f1).length c890_1,.slice none 0 0]) ?_ 2 _ rfl;(with_reducible repeat (first|refine kN ?_ _|refine kD ?_|refine kA ?_ _));refine blk_put (cs:=#[.int .i64 ((rd_T32 l0_2 x38_2).f0),.slice none 0 0,.slice none 0 0]) ?_ 1 _ rfl;(with_reducible repeat (first|refine kN ?_ _|refine kD ?_|refine kA ?_ _));refine blk_put (cs:=#[.int .i64 0,.slice none 0 0,.slice none 0 0]) ?_ 0 _ rfl;(with_reducible repeat (first|refine kN ?_ _|refine kD ?_|refine kA ?_ _));exact BK891.out) hb);have n8_:=Z (below_step pB hb);clear HO_884001;clear HO_884002;clear BK881;clear BK882;clear BK883;clear BK891;clear HB;have HO_884001:=n0_;have HO_884002:=n1_;have HO895:=n2_;have HO898:=n3_;have BK881:=n4_;have BK882:=n5_;have BK883:=n6_;have BK891:=n7_;have HB:=n8_;clear n0_ n1_ n2_ n3_ n4_ n5_ n6_ n7_ n8_;(try clear hb);(try clear hb2);(try clear hk);(try clear hi);(try clear ho0);(try clear ho1);have hcz61_0:w60.cell? ⟨gb891,0,none⟩=some (.int .i64 ((rd_T32 l0_2 x38_2).f0)):=(kC BK891.out 0).trans rfl;have hcz61_1:w60.cell? ⟨gb891,1,none⟩=some (.slice A890_1 ((rd_T32 l0_2 x38_2).f1).length c890_1):=(kC BK891.out 1).trans rfl;have hcz61_2:w60.cell? ⟨gb891,2,none⟩=some (.slice A890_2 ((rd_T32 l0_2 x38_2).f2).length c890_2):=(kC BK891.out 2).trans rfl;have hfz61_0:=kF BK891.out 0;have hfz61_1:=kF BK891.out 1;have hfz61_2:=kF BK891.out 2;obtain ⟨Ao62,co62,eo62⟩:=Kd.R_slice HO895.out;subst eo62;obtain ⟨Ao63,co63,eo63⟩:=Kd.R_slice HO898.out;subst eo63)|((with_reducible refine gate_store (t:=32) (p:=9) rfl ?_);refine store_event (t:=32) (p:=9) (v:=?vo_w64) (w1:=(((w60.setCell ⟨gb891,0,none⟩ (.int .i64 t892)).setCell ⟨gb891,1,none⟩ (.slice Ao62 t893.length co62)).setCell ⟨gb891,2,none⟩ (.slice Ao63 t896.length co63))) ?hg ?ho ?hn ?hr ?_;(case ho=>rfl);(case hg=>rfl);(case hn=>rfl);(case hr=>first|(go_simp;done)|(go_simp;rfl));intro w64 hw;have n0_:Aside0 (Kd.R (Kd.int .i64) 3 w64 w.heap.size (fun k_=>some k_ ≠ (.slice Ao62 t893.length co62:Value).ownBlock) u884001 x884001_1):=⟨(by rw [hw];exact (by (with_reducible repeat (first|apply Kd.R_alloc|apply Kd.R_drewN|apply Kd.R_drew));exact Kd.R_mono (Kd.R_far (p:=⟨gb891,2,none⟩) (Kd.R_far (p:=⟨gb891,1,none⟩) (Kd.R_far (p:=⟨gb891,0,none⟩) (Kd.R_types HO_884001.out BK891.out (by decide)) (fun _ hk=>hk.2) (.int .i64 t892)) (fun _ hk=>hk.2) (.slice Ao62 t893.length co62)) (fun _ hk=>hk.2) (.slice Ao63 t896.length co63)) (fun _ hk=>hk.1.2)))⟩;have n1_:Aside0 (Kd.R k32 32 w64 w.heap.size (fun k_=>some k_ ≠ (u884001:Value).ownBlock∧some k_ ≠ (.slice Ao62 t893.length co62:Value).ownBlock∧some k_ ≠ (.slice Ao63 t896.length co63:Value).ownBlock∧k_ ≠ gb881∧k_ ≠ gb882∧k_ ≠ gb883∧k_ ≠ gb891) u884002 x884002_2):=⟨(by rw [hw];exact (by (with_reducible repeat (first|apply Kd.R_alloc|apply Kd.R_drewN|apply Kd.R_drew));exact Kd.R_mono (Kd.R_far (p:=⟨gb891,2,none⟩) (Kd.R_far (p:=⟨gb891,1,none⟩) (Kd.R_far (p:=⟨gb891,0,none⟩) (Kd.R_mono HO_884002.out (fun k_ hk=>(⟨hk,hk.1.1.2⟩:_∧k_ ≠ gb891))) (fun _ hk=>hk.2) (.int .i64 t892)) (fun _ hk=>hk.2) (.slice Ao62 t893.length co62)) (fun _ hk=>hk.2) (.slice Ao63 t896.length co63)) (fun _ hk=>⟨hk.1.1.1.1.1,⟨hk.1.1.2,⟨hk.1.2,⟨hk.1.1.1.1.2.1,⟨hk.1.1.1.1.2.2.1,⟨hk.1.1.1.1.2.2.2,hk.1.1.1.2⟩⟩⟩⟩⟩⟩)))⟩;have n2_:Aside0 (Kd.R (Kd.int .i64) 3 w64 w.heap.size (fun k_=>some k_ ≠ (u884001:Value).ownBlock) (.slice Ao62 t893.length co62) t893):=⟨(by rw [hw];exact (by (with_reducible repeat (first|apply Kd.R_alloc|apply Kd.R_drewN|apply Kd.R_drew));exact Kd.R_mono (Kd.R_far (p:=⟨gb891,2,none⟩) (Kd.R_far (p:=⟨gb891,1,none⟩) (Kd.R_far (p:=⟨gb891,0,none⟩) (Kd.R_types HO895.out BK891.out (by decide)) (fun _ hk=>hk.2) (.int .i64 t892)) (fun _ hk=>hk.2) (.slice Ao62 t893.length co62)) (fun _ hk=>hk.2) (.slice Ao63 t896.length co63)) (fun _ hk=>hk.1.2)))⟩;have n3_:Aside0 (Kd.R k32 32 w64 w.heap.size (fun k_=>some k_ ≠ (u884001:Value).ownBlock∧some k_ ≠ (u884002:Value).ownBlock∧some k_ ≠ (.slice Ao62 t893.length co62:Value).ownBlock∧k_ ≠ gb881∧k_ ≠ gb882∧k_ ≠ gb883∧k_ ≠ gb891) (.slice Ao63 t896.length co63) t896):=⟨(by rw [hw];exact (by (with_reducible repeat (first|apply Kd.R_alloc|apply Kd.R_drewN|apply Kd.R_drew));exact Kd.R_mono (Kd.R_far (p:=⟨gb891,2,none⟩) (Kd.R_far (p:=⟨gb891,1,none⟩) (Kd.R_far (p:=⟨gb891,0,none⟩) (Kd.R_mono HO898.out (fun k_ hk=>(⟨hk,hk.2⟩:_∧k_ ≠ gb891))) (fun _ hk=>hk.2) (.int .i64 t892)) (fun _ hk=>hk.2) (.slice Ao62 t893.length co62)) (fun _ hk=>hk.2) (.slice Ao63 t896.length co63)) (fun _ hk=>⟨hk.1.1.1.1.1.1.2,⟨hk.1.1.1.1.1.2,⟨hk.1.1.1.1.1.1.1,⟨hk.1.1.1.1.2,⟨hk.1.1.1.2,⟨hk.1.1.2,hk.1.2⟩⟩⟩⟩⟩⟩)))⟩;have n4_:Aside0 (w64.heap[gb881]?=some (.cells #[.int .i64 a0_0,.slice A0_1 l0_1.length c0_1,.slice (some ad890) l0_2.length c0_2] 32 (0,0))):=⟨(by rw [hw];exact (by (with_reducible repeat (first|refine kN ?_ _|refine kD ?_|refine kA ?_ _));refine blk_far ?_ NB881_891.out _;(with_reducible repeat (first|refine kN ?_ _|refine kD ?_|refine kA ?_ _));refine blk_far ?_ NB881_891.out _;(with_reducible repeat (first|refine kN ?_ _|refine kD ?_|refine kA ?_ _));refine blk_far ?_ NB881_891.out _;(with_reducible repeat (first|refine kN ?_ _|refine kD ?_|refine kA ?_ _));exact BK881.out))⟩;have n5_:Aside0 (w64.heap[gb882]?=some (.cells #[.int .i64 0,.slice none 0 0,.slice none 0 0] 32 (0,0))):=⟨(by rw [hw];exact (by (with_reducible repeat (first|refine kN ?_ _|refine kD ?_|refine kA ?_ _));refine blk_far ?_ NB882_891.out _;(with_reducible repeat (first|refine kN ?_ _|refine kD ?_|refine kA ?_ _));refine blk_far ?_ NB882_891.out _;(with_reducible repeat (first|refine kN ?_ _|refine kD ?_|refine kA ?_ _));refine blk_far ?_ NB882_891.out _;(with_reducible repeat (first|refine kN ?_ _|refine kD ?_|refine kA ?_ _));exact BK882.out))⟩;have n6_:Aside0 (w64.heap[gb883]?=some (.cells #[.int .i64 x884000_2,u884001,u884002] 32 (0,0))):=⟨(by rw [hw];exact (by (with_reducible repeat (first|refine kN ?_ _|refine kD ?_|refine kA ?_ _));refine blk_far ?_ NB883_891.out _;(with_reducible repeat (first|refine kN ?_ _|refine kD ?_|refine kA ?_ _));refine blk_far ?_ NB883_891.out _;(with_reducible repeat (first|refine kN ?_ _|refine kD ?_|refine kA ?_ _));refine blk_far ?_ NB883_891.out _;(with_reducible repeat (first|refine kN ?_ _|refine kD ?_|refine kA ?_ _));exact BK883.out))⟩;have n7_:Aside0 (w64.heap[gb891]?=some (.cells #[.int .i64 t892,.slice Ao62 t893.length co62,.slice Ao63 t896.length co63] 32 (0,0))):=⟨(by rw [hw];exact (by (with_reducible repeat (first|refine kN ?_ _|refine kD ?_|refine kA ?_ _));refine blk_put (cs:=#[.int .i64 t892,.slice Ao62 t893.length co62,.slice A890_2 ((rd_T32 l0_2 x38_2).f2).length c890_2]) ?_ 2 _ rfl;(with_reducible repeat (first|refine kN ?_ _|refine kD ?_|refine kA ?_ _));refine blk_put (cs:=#[.int .i64 t892,.slice A890_1 ((rd_T32 l0_2 x38_2).f1).length c890_1,.slice A890_2 ((rd_T32 l0_2 x38_2).f2).length c890_2]) ?_ 1 _ rfl;(with_reducible repeat (first|refine kN ?_ _|refine kD ?_|refine kA ?_ _));refine blk_put (cs:=#[.int .i64 ((rd_T32 l0_2 x38_2).f0),.slice A890_1 ((rd_T32 l0_2 x38_2).f1).length c890_1,.slice A890_2 ((rd_T32 l0_2 x38_2).f2).length c890_2]) ?_ 0 _ rfl;(with_reducible repeat (first|refine kN ?_ _|refine kD ?_|refine kA ?_ _));exact BK891.out))⟩;have n8_:Aside0 (Below w.heap.size w w64):=⟨(by rw [hw];exact pB)⟩;clear hw;clear HO_884001;clear HO_884002;clear HO895;clear HO898;clear BK881;clear BK882;clear BK883;clear BK891;clear HB;have HO_884001:=n0_;have HO_884002:=n1_;have HO895:=n2_;have HO898:=n3_;have BK881:=n4_;have BK882:=n5_;have BK883:=n6_;have BK891:=n7_;have HB:=n8_;clear n0_ n1_ n2_ n3_ n4_ n5_ n6_ n7_ n8_;have hcz65_0:w64.cell? ⟨gb891,0,none⟩=some (.int .i64 t892):=(kC BK891.out 0).trans rfl;have hcz65_1:w64.cell? ⟨gb891,1,none⟩=some (.slice Ao62 t893.length co62):=(kC BK891.out 1).trans rfl;have hcz65_2:w64.cell? ⟨gb891,2,none⟩=some (.slice Ao63 t896.length co63):=(kC BK891.out 2).trans rfl;have hfz65_0:=kF BK891.out 0;have hfz65_1:=kF BK891.out 1;have hfz65_2:=kF BK891.out 2;have hnb66:=NB883_881.out;have hnc66:=NB881_883.out;have hnb67:=NB883_882.out;have hnc67:=NB882_883.out;have hcz68_0:w64.cell? ⟨gb883,0,none⟩=some (.int .i64 x884000_2):=(kC BK883.out 0).trans rfl;have hcz68_1:w64.cell? ⟨gb883,1,none⟩=some (u884001):=(kC BK883.out 1).trans rfl;have hcz68_2:w64.cell? ⟨gb883,2,none⟩=some (u884002):=(kC BK883.out 2).trans rfl;have hfz68_0:=kF BK883.out 0;have hfz68_1:=kF BK883.out 1;have hfz68_2:=kF BK883.out 2)|((with_reducible refine gate_builtin (b:=.append) (xs:=#[.tmp 53,.tmp 55]) rfl ?_);at_builtin;refine Kd.R_append k32 (w0:=w) w.heap.size rfl (.tmp 53) (.tmp 55) 30 32 (.agg #[(.int .i64 0),(.slice none 0 0),(.slice none 0 0)]) 56 rfl Try.underlying30 info32 rfl (by decide) (by omega) u884002 x884002_2 (⟨t892,t893,t896⟩:S32) [.int .i64 t892,.slice Ao62 t893.length co62,.slice Ao63 t896.length co63] (fun k_=>some k_ ≠ (u884001:Value).ownBlock∧k_ ≠ gb881∧k_ ≠ gb882∧k_ ≠ gb883∧k_ ≠ gb891) (fun k_=>((fun k_=>some k_ ≠ (u884001:Value).ownBlock∧k_ ≠ gb881∧k_ ≠ gb882∧k_ ≠ gb883∧k_ ≠ gb891)) k_∧some k_ ≠ (u884002:Value).ownBlock) rfl rfl ?aP (fun _ hk=>hk) ?aF ?aO ?aB ?aS ?aL ?_;(case aP=>exact k32_mkM _ _ _ (⟨t892,t893,t896⟩:S32) (Kd.R_mono (Kd.R_types (Kd.R_types (Kd.R_types (Kd.R_types (Kd.R_apart' (HO895.out) (Kd.R_typed HO_884002.out) (by decide)) BK881.out (by decide)) BK882.out (by decide)) BK883.out (by decide)) BK891.out (by decide)) (fun k_ hk=>⟨⟨hk.1.1.1.1.1,⟨hk.1.1.1.2,⟨hk.1.1.2,⟨hk.1.2,hk.2⟩⟩⟩⟩,hk.1.1.1.1.2⟩)) (Kd.R_mono (HO898.out) (fun k_ hk=>⟨⟨hk.1,⟨hk.2.2.2.1,⟨hk.2.2.2.2.1,⟨hk.2.2.2.2.2.1,hk.2.2.2.2.2.2⟩⟩⟩⟩,hk.2.1⟩)));(case aB=>exact pB);(case aF=>exact (fun k_ hk=>⟨Kd.fresh' (Kd.R_lt (pR HO_884001)) k_ hk,Kd.freshB (g:=gb881) (o:=.cells #[.int .i64 a0_0,.slice A0_1 l0_1.length c0_1,.slice (some ad890) l0_2.length c0_2] 32 (0,0)) (pK BK881) k_ hk,Kd.freshB (g:=gb882) (o:=.cells #[.int .i64 0,.slice none 0 0,.slice none 0 0] 32 (0,0)) (pK BK882) k_ hk,Kd.freshB (g:=gb883) (o:=.cells #[.int .i64 x884000_2,u884001,u884002] 32 (0,0)) (pK BK883) k_ hk,Kd.freshB (g:=gb891) (o:=.cells #[.int .i64 t892,.slice Ao62 t893.length co62,.slice Ao63 t896.length co63] 32 (0,0)) (pK BK891) k_ hk⟩));(case aO=>exact (by (with_reducible repeat (first|apply Kd.R_alloc|apply Kd.R_drewN|apply Kd.R_drew));exact Kd.R_mono HO_884002.out (fun _ hk=>⟨hk.1,⟨hk.2.2.2.1,⟨hk.2.2.2.2.1,⟨hk.2.2.2.2.2.1,hk.2.2.2.2.2.2⟩⟩⟩⟩)));(case aS=>exact (below_size pB));(case aL=>have:=LMc54.out;omega);intro v901 w69 ho hb hg hat;rw [← Ny900.out] at ho;have n0_:=Z (Kd.R_over' (pR HO_884001) (Kd.R_typed (pR HO_884002)) (by decide) hg);have n1_:=Z (blk_grown (g:=gb881) (o:=.cells #[.int .i64 a0_0,.slice A0_1 l0_1.length c0_1,.slice (some ad890) l0_2.length c0_2] 32 (0,0)) (pK BK881) hg (Kd.R_away HO_884002.out (fun _ hk=>hk.2.2.2.1)));have n2_:=Z (blk_grown (g:=gb882) (o:=.cells #[.int .i64 0,.slice none 0 0,.slice none 0 0] 32 (0,0)) (pK BK882) hg (Kd.R_away HO_884002.out (fun _ hk=>hk.2.2.2.2.1)));have n3_:=Z (blk_grown (g:=gb883) (o:=.cells #[.int .i64 x884000_2,u884001,u884002] 32 (0,0)) (pK BK883) hg (Kd.R_away HO_884002.out (fun _ hk=>hk.2.2.2.2.2.1)));have n4_:=Z (blk_grown (g:=gb891) (o:=.cells #[.int .i64 t892,.slice Ao62 t893.length co62,.slice Ao63 t896.length co63] 32 (0,0)) (pK BK891) hg (Kd.R_away HO_884002.out (fun _ hk=>hk.2.2.2.2.2.2)));have n5_:=Z (hb);have n6_:=Z (ho);clear HO_884001;clear BK881;clear BK882;clear BK883;clear BK891;clear HB;clear HO_884002;clear HO895;clear HO898;have HO_884001:=n0_;have BK881:=n1_;have BK882:=n2_;have BK883:=n3_;have BK891:=n4_;have HB:=n5_;have HO902:=n6_;clear n0_ n1_ n2_ n3_ n4_ n5_ n6_;clear ho hb hg hat;obtain ⟨Ao70,co70,eo70⟩:=Kd.R_slice HO902.out;subst eo70;have hcz71_0:w69.cell? ⟨gb883,0,none⟩=some (.int .i64 x884000_2):=(kC BK883.out 0).trans rfl;have hcz71_1:w69.cell? ⟨gb883,1,none⟩=some (u884001):=(kC BK883.out 1).trans rfl;have hcz71_2:w69.cell? ⟨gb883,2,none⟩=some (u884002):=(kC BK883.out 2).trans rfl;have hfz71_0:=kF BK883.out 0;have hfz71_1:=kF BK883.out 1;have hfz71_2:=kF BK883.out 2))
           go_roundg k2
           case measure=>have:=HK1.out;have:=HK2.out;omega
           case rel=>exact ⟨(wrap64 (x38_2+1)),(x884000_2),(y900),(.slice Ao70 y900.length co70),pE,H',⟨by have:=HK1.out;have:=HK2.out;omega⟩,⟨by (with_reducible repeat (first|apply Kd.R_alloc|apply Kd.R_drewN|apply Kd.R_drew));exact Kd.R_mono (Kd.R_far (p:=⟨gb883,2,none⟩) (Kd.R_types HO_884001.out BK883.out (by decide)) (fun _ hk=>hk.2) (.slice Ao70 y900.length co70)) (fun _ hk=>trivial)⟩,⟨by (with_reducible repeat (first|apply Kd.R_alloc|apply Kd.R_drewN|apply Kd.R_drew));exact Kd.R_mono (Kd.R_far (p:=⟨gb883,2,none⟩) (Kd.R_mono HO902.out (fun k_ hk=>(⟨hk,hk.2.2.2.1⟩:_∧k_ ≠ gb883))) (fun _ hk=>hk.2) (.slice Ao70 y900.length co70)) (fun _ hk=>⟨hk.1.1,⟨hk.1.2.1,⟨hk.1.2.2.1,hk.1.2.2.2.1⟩⟩⟩)⟩,⟨by (with_reducible repeat (first|refine kN ?_ _|refine kD ?_|refine kA ?_ _));refine blk_far ?_ NB881_883.out _;(with_reducible repeat (first|refine kN ?_ _|refine kD ?_|refine kA ?_ _));exact BK881.out⟩,⟨by (with_reducible repeat (first|refine kN ?_ _|refine kD ?_|refine kA ?_ _));refine blk_far ?_ NB882_883.out _;(with_reducible repeat (first|refine kN ?_ _|refine kD ?_|refine kA ?_ _));exact BK882.out⟩,⟨by (with_reducible repeat (first|refine kN ?_ _|refine kD ?_|refine kA ?_ _));refine blk_put (cs:=#[.int .i64 x884000_2,u884001,u884002]) ?_ 2 _ rfl;(with_reducible repeat (first|refine kN ?_ _|refine kD ?_|refine kA ?_ _));exact BK883.out⟩,⟨pB⟩⟩
          ·rw [if_neg c54] at H
           exact absurd H (by simp)
        ·rw [if_neg c36] at H
         exact absurd H (by simp)
       ·rw [if_neg c35] at H
        exact absurd H (by simp)
      ·rw [if_neg c34] at H
       have c34b0:decide (x38_2 < (l0_2.length:Int))=false:=decide_eq_false c34
       clear c34
       simp only [Option.some.injEq,Prod.mk.injEq] at H
       obtain ⟨rfl,rfl,rfl⟩:=H
       have hnb72:=NB883_881.out
       have hnc72:=NB881_883.out
       have hnb73:=NB883_882.out
       have hnc73:=NB882_883.out
       have hcz74_0:wr.cell? ⟨gb883,0,none⟩=some (.int .i64 x884000_2):=(kC BK883.out 0).trans rfl
       have hcz74_1:wr.cell? ⟨gb883,1,none⟩=some (u884001):=(kC BK883.out 1).trans rfl
       have hcz74_2:wr.cell? ⟨gb883,2,none⟩=some (u884002):=(kC BK883.out 2).trans rfl
       have hfz74_0:=kF BK883.out 0
       have hfz74_1:=kF BK883.out 1
       have hfz74_2:=kF BK883.out 2
       have hnb75:=NB882_881.out
       have hnc75:=NB881_882.out
       have hcz76_0:wr.cell? ⟨gb882,0,none⟩=some (.int .i64 0):=(kC BK882.out 0).trans rfl
       have hcz76_1:wr.cell? ⟨gb882,1,none⟩=some (.slice none 0 0):=(kC BK882.out 1).trans rfl
       have hcz76_2:wr.cell? ⟨gb882,2,none⟩=some (.slice none 0 0):=(kC BK882.out 2).trans rfl
       have hfz76_0:=kF BK882.out 0
       have hfz76_1:=kF BK882.out 1
       have hfz76_2:=kF BK882.out 2
       obtain ⟨Ao77,co77,eo77⟩:=Kd.R_slice HO_884001.out
       subst eo77
       obtain ⟨Ao78,co78,eo78⟩:=Kd.R_slice HO_884002.out
       subst eo78
       go_wp2
       refine bodyPost_ret (results_cell_row rfl _ _ gb882 32 #[.int .i64 x884000_2,.slice Ao77 x884001_1.length co77,.slice Ao78 x884002_2.length co78] (0,0) _ rfl (by (with_reducible repeat (first|refine kN ?_ _|refine kD ?_|refine kA ?_ _));refine blk_put (cs:=#[.int .i64 x884000_2,.slice Ao77 x884001_1.length co77,.slice none 0 0]) ?_ 2 _ rfl;(with_reducible repeat (first|refine kN ?_ _|refine kD ?_|refine kA ?_ _));refine blk_put (cs:=#[.int .i64 x884000_2,.slice none 0 0,.slice none 0 0]) ?_ 1 _ rfl;(with_reducible repeat (first|refine kN ?_ _|refine kD ?_|refine kA ?_ _));refine blk_put (cs:=#[.int .i64 0,.slice none 0 0,.slice none 0 0]) ?_ 0 _ rfl;(with_reducible repeat (first|refine kN ?_ _|refine kD ?_|refine kA ?_ _));exact BK882.out) Try.underlying32 rfl (by kernel_rfl)) rfl ?_
       exact ⟨_,_,by first|rfl|(simp [errW_none,errW_some] <;> rfl)|(simp only [← hji3];first|rfl|(simp [errW_none,errW_some] <;> rfl))|(simp [*,errW_none,errW_some] <;> rfl),by (with_reducible repeat (first|apply Kd.R_alloc|apply Kd.R_drewN|apply Kd.R_drew));exact Kd.R_mono (Kd.R_far (p:=⟨gb882,2,none⟩) (Kd.R_far (p:=⟨gb882,1,none⟩) (Kd.R_far (p:=⟨gb882,0,none⟩) (Kd.R_types HO_884001.out BK882.out (by decide)) (fun _ hk=>hk.2) (.int .i64 x884000_2)) (fun _ hk=>hk.2) (.slice Ao77 x884001_1.length co77)) (fun _ hk=>hk.2) (.slice Ao78 x884002_2.length co78)) (fun _ hk=>trivial),by (with_reducible repeat (first|apply Kd.R_alloc|apply Kd.R_drewN|apply Kd.R_drew));exact Kd.R_mono (Kd.R_far (p:=⟨gb882,2,none⟩) (Kd.R_far (p:=⟨gb882,1,none⟩) (Kd.R_far (p:=⟨gb882,0,none⟩) (Kd.R_mono HO_884002.out (fun k_ hk=>(⟨hk,hk.2.2.1⟩:_∧k_ ≠ gb882))) (fun _ hk=>hk.2) (.int .i64 x884000_2)) (fun _ hk=>hk.2) (.slice Ao77 x884001_1.length co77)) (fun _ hk=>hk.2) (.slice Ao78 x884002_2.length co78)) (fun _ hk=>hk.1.1),pB⟩
end Go.Proofs.Ytkjlcbfjllpcnaa.X
namespace Go.Proofs.Ytkjlcbfjllpcnaa.X
open Go.RowKit Go.Proofs.YtkjlcbfjllpcnaaW.PrintWords Go.Proofs.YtkjlcbfjllpcnaaW.PrintLast Go.Proofs.YtkjlcbfjllpcnaaW.PrintMore
set_option linter.unusedVariables false
def deletion_copied.f (a0:Int) (a1:List Int) (a2:List S32):Option (Int × List Int × List S32):=if a1=[] then (if a2=[] then some (a0,[],[]) else none) else none
theorem step_append_void {P:Program} {ops:Array Oper} {o:Oper} {a:Act} {w:World} {K:Act→World→Prop} {Q:Exit→Act→World→Prop} {E:Prop} (hg:o.guard=none) (s x:Operand) (t e:TypeId)
  (hop:o.op=Op.call { callee:=Callee.builtin Builtin.append,args:=#[s,x],argTypes:=#[t,t] }) (ht:P.underlying t=some (.slice e)) (i:TypeInfo) (hi:P.info? e=some i) (A:Option Addr) (c:Nat) (hs:a.eval s=.slice none 0 0) (hx:a.eval x=.slice A 0 c)
  (hK:K (a.put o.dst (.slice none 0 0)) w):if Region.wanted o (yielded ops a.tmps)=true then Oper.wp P o a w K Q else E:=by
 have hw:Region.wanted o (yielded ops a.tmps)=true:=by simp [Region.wanted,hg]
 rw [if_pos hw]
 have hrun:(Builtin.append_ #[t,t] o.type #[.slice none 0 0,.slice A 0 c]).run P w=.ok (.slice none 0 0) w:=by
  cases A <;> simp [Builtin.append_,run_underlying ht,sizeOf,typeInfo,hi,Builtin.lenOf,Builtin.firstCells,loadCells,loadCellsFrom]
 unfold Oper.wp
 simp [execOp,hop,resolve,invoke,builtin,hs,hx,hrun,Result.andThen]
 exact hK
set_option maxHeartbeats 4000000 in
theorem deletion_copied.calls (a0_0:Int) (A0_1:Option Addr) (c0_1:Nat) (l0_1:List Int) (A0_2:Option Addr) (c0_2:Nat) (l0_2:List (S32)) (r1:Int) (r2:List Int) (r3:List S32) (w:World) (hr0_1:Kd.C (Kd.int .i64) w A0_1 l0_1.length l0_1) (hc0_1:l0_1.length≤c0_1) (hr0_2:Kd.C k32 w A0_2 l0_2.length l0_2) (hc0_2:l0_2.length≤c0_2) (h:deletion_copied.f a0_0 l0_1 l0_2=some (r1,r2,r3)):Calls Try.prog 123 #[.agg #[.int .i64 a0_0,.slice A0_1 l0_1.length c0_1,.slice A0_2 l0_2.length c0_2]] w fun e w'=>∃ v1_ v2_:Value,e=.returned (.agg #[.int .i64 r1,v1_,v2_])∧Kd.R (Kd.int .i64) 3 w' w.heap.size (fun _=>True) v1_ r2∧Kd.R k32 32 w' w.heap.size (fun k_=>some k_ ≠ (v1_:Value).ownBlock) v2_ r3∧Below w.heap.size w w':=by
 unfold deletion_copied.f at h
 by_cases h1:l0_1=[]
 case neg=>rw [if_neg h1] at h;cases h
 by_cases h2:l0_2=[]
 case neg=>rw [if_pos h1,if_neg h2] at h;cases h
 rw [if_pos h1,if_pos h2] at h
 simp only [Option.some.injEq,Prod.mk.injEq] at h
 obtain ⟨rfl,rfl,rfl⟩:=h
 subst h1
 subst h2
 have hu32:=Try.underlying32
 have hu27:=Try.underlying27
 have hu3:=Try.underlying3
 have hu22:=Try.underlying22
 clear hr0_1 hr0_2
 simp only [List.length_nil] at hc0_1 hc0_2 ⊢
 go_enter Try.func123,Try.ntmps123
 obtain ⟨i3,hi3,_⟩:=Option.map_eq_some_iff.1 info3
 go_wp2
 go_region_law (refine step_append_void rfl _ (.tmp 9) 22 3 rfl Try.underlying22 i3 hi3 A0_1 c0_1 rfl (by simp [Act.eval,Act.put]) ?_)
 all_goals
  obtain ⟨W,hW⟩:∃ W,W=(((w.alloc (.cells #[.int .i64 a0_0,.slice A0_1 0 c0_1,.slice A0_2 0 c0_2] 32)).alloc (.cells #[.int .i64 0,.slice none 0 0,.slice none 0 0] 32)).alloc (.cells #[.int .i64 a0_0,.slice none 0 0,.slice none 0 0] 32)).drew:=⟨_,rfl⟩
  rw [← hW]
  have hs0:W.heap[w.heap.size]?=some (.cells #[.int .i64 a0_0,.slice A0_1 0 c0_1,.slice A0_2 0 c0_2] 32 (0,0)):=by rw [hW];exact kD (kA (kA (heap_alloc_new _ _) _) _)
  have hs1:W.heap[w.heap.size+1]?=some (.cells #[.int .i64 0,.slice none 0 0,.slice none 0 0] 32 (0,0)):=by rw [hW,show w.heap.size+1=(w.alloc (.cells #[.int .i64 a0_0,.slice A0_1 0 c0_1,.slice A0_2 0 c0_2] 32)).heap.size by simp];exact kD (kA (heap_alloc_new _ _) _)
  have hs2:W.heap[w.heap.size+1+1]?=some (.cells #[.int .i64 a0_0,.slice none 0 0,.slice none 0 0] 32 (0,0)):=by rw [hW,show w.heap.size+1+1=((w.alloc (.cells #[.int .i64 a0_0,.slice A0_1 0 c0_1,.slice A0_2 0 c0_2] 32)).alloc (.cells #[.int .i64 0,.slice none 0 0,.slice none 0 0] 32)).heap.size by simp];exact kD (heap_alloc_new _ _)
  have hb:RowKit.Below w.heap.size w W:=by rw [hW];exact wD (wA (wA (wA (Below.refl _ _) _) _) _)
  clear hW
  have c0:=kC hs0 2
  have c1:=kC hs1 0
  have c2:=kC hs1 1
  have c3:=kC hs1 2
  have d1:=kC hs2 0
  have d2:=kC hs2 1
  have d3:=kC hs2 2
  have f1:=kF hs1 0
  have f2:=kF hs1 1
  have f3:=kF hs1 2
  go_wp2
  go_loopw [15] (fun i wr=>i=.int .i64 0∧wr=W) (fun _ _=>0)
  case atStart=>exact ⟨rfl,rfl⟩
  case round =>
   obtain ⟨rfl,rfl⟩:=hrel
   go_wp2
   refine bodyPost_ret (results_cell_row rfl _ _ (w.heap.size+1) 32 #[.int .i64 a0_0,.slice none 0 0,.slice none 0 0] (0,0) _ rfl ?_ Try.underlying32 rfl (by kernel_rfl)) rfl ?_
   ·refine blk_put (cs:=#[.int .i64 a0_0,.slice none 0 0,.slice none 0 0]) ?_ 2 _ rfl
    refine blk_put (cs:=#[.int .i64 a0_0,.slice none 0 0,.slice none 0 0]) ?_ 1 _ rfl
    exact blk_put (cs:=#[.int .i64 0,.slice none 0 0,.slice none 0 0]) hs1 0 _ rfl
   ·exact ⟨_,_,rfl,Kd.R_nil _ _ _ _ _,Kd.R_nil _ _ _ _ _,wS (wS (wS hb (by omega)) (by omega)) (by omega)⟩
end Go.Proofs.Ytkjlcbfjllpcnaa.X
namespace Go.Proofs.Ytkjlcbfjllpcnaa.X
open Go.RowKit Go.Proofs.YtkjlcbfjllpcnaaW.PrintWords Go.Proofs.YtkjlcbfjllpcnaaW.PrintLast Go.Proofs.YtkjlcbfjllpcnaaW.PrintMore
attribute [local go_sem] max2_int min2_int max_two min_two max_three min_three max_four min_four
set_option linter.unusedVariables false
set_option linter.unusedSimpArgs false
def deletion_Trust.f (k:Nat) (a0_0:Int) (l0_1:List Int) (l0_2:List (S32)) (a1:Int) (a2:Int):Option (Int × List Int × (List (S32))):=(nodeset_Valid.f a2).bind fun t905=>(if t905=true then ((deletion_level.f k a0_0 l0_1 l0_2 a2).bind fun bt906=>(if bt906.1=0 then (some (1,(([a1]:List Int)),([]:List (S32)))) else (some (bt906.1,bt906.2.1,bt906.2.2)))) else ((deletion_copied.f a0_0 l0_1 l0_2).bind fun bt917=>(some (bt917.1,bt917.2.1,bt917.2.2))))
set_option maxHeartbeats 8000000 in
set_option maxRecDepth 100000 in
theorem deletion_Trust.calls (k:Nat) (a0_0:Int) (A0_1:Option Addr) (c0_1:Nat) (l0_1:List Int) (A0_2:Option Addr) (c0_2:Nat) (l0_2:List (S32)) (a1:Int) (a2:Int) (r1:Int) (r2:List Int) (r3:List (S32)) (w:World) (hr0_1:Kd.C (Kd.int .i64) w A0_1 l0_1.length l0_1) (hc0_1:l0_1.length≤c0_1) (hr0_2:Kd.C k32 w A0_2 l0_2.length l0_2) (hc0_2:l0_2.length≤c0_2) (h:deletion_Trust.f k a0_0 l0_1 l0_2 a1 a2=some (r1,r2,r3)) :
  Calls Try.prog 122 #[.agg #[.int .i64 a0_0,.slice A0_1 l0_1.length c0_1,.slice A0_2 l0_2.length c0_2],.int .i64 a1,.int .i64 a2] w fun e w'=>∃ v1_ v2_:Value,e=.returned (.agg #[.int .i64 r1,v1_,v2_])∧Kd.R (Kd.int .i64) 3 w' w.heap.size (fun _=>True) v1_ r2∧Kd.R k32 32 w' w.heap.size (fun k_=>some k_ ≠ (v1_:Value).ownBlock) v2_ r3∧Below w.heap.size w w':=by
 have hu32:=Try.underlying32
 have HR0_1:=Z hr0_1
 have HC0_1:=Z hc0_1
 clear hr0_1 hc0_1
 have HR0_2:=Z hr0_2
 have HC0_2:=Z hc0_2
 clear hr0_2 hc0_2
 have HB:=Z (Below.refl w.heap.size w)
 have H:((nodeset_Valid.f a2).bind fun t905=>(if t905=true then ((deletion_level.f k a0_0 l0_1 l0_2 a2).bind fun bt906=>(if bt906.1=0 then (some (1,(([a1]:List Int)),([]:List (S32)))) else (some (bt906.1,bt906.2.1,bt906.2.2)))) else ((deletion_copied.f a0_0 l0_1 l0_2).bind fun bt917=>(some (bt917.1,bt917.2.1,bt917.2.2)))))=some (r1,r2,r3):=h
 clear h
 replace H:=Option.bind_eq_some_iff.mp H
 obtain ⟨t905,A40,H⟩:=H
 try dsimp only at H
 have A4:=Z A40
 clear A40
 by_cases c5:t905=true
 ·subst c5
  rw [if_pos rfl] at H
  replace H:=Option.bind_eq_some_iff.mp H
  obtain ⟨⟨t906,t907,t910⟩,A60,H⟩:=H
  try dsimp only at H
  have A6:=Z A60
  clear A60
  by_cases c7:t906=0
  ·rw [if_pos c7] at H
   have c7b0:(t906 == 0)=true:=beq_iff_eq.mpr c7
   have c7b1:(t906 != 0)=false:=bne_eq_false_iff_eq.mpr c7
   clear c7
   obtain ⟨y914,hy914⟩:∃ y_:List Int,y_=(([a1]:List Int)):=⟨_,rfl⟩
   first|rw [← hy914] at H|(replace H:=(Option.bind_some _ _).symm.trans H;rw [← hy914] at H)
   have Ny914:=Z hy914
   clear hy914
   simp only [Option.some.injEq,Prod.mk.injEq] at H
   obtain ⟨rfl,rfl,rfl⟩:=H
   go_enter Try.func122,Try.ntmps122
   go_wp2_with (first|((with_reducible refine gate_dst (N:=3) rfl ?_);refine box_event ?hg (N:=3) ?hd (cs:=#[.int .i64 a0_0,.slice A0_1 l0_1.length c0_1,.slice A0_2 l0_2.length c0_2]) (t:=32) ?hr ?_;(case hd=>rfl);(case hg=>rfl);(case hr=>first|(go_simp;done)|(go_simp;rfl));intro gb903 hg w8 hbox hb;have n0_:=Z (below_step pB hb);have n1_:=Z (hbox);have n2_:=Z ((pT hg:w.heap.size≤gb903));have n3_:=Z ((pT hg:w.heap.size≤gb903));clear HB;have HB:=n0_;have BK903:=n1_;have GW903:=n2_;have GE903:=n3_;clear n0_ n1_ n2_ n3_;clear hb hbox hg)|((with_reducible refine gate_dst (N:=6) rfl ?_);refine box_event ?hg (N:=6) ?hd (cs:=#[.int .i64 0,.slice none 0 0,.slice none 0 0]) (t:=32) ?hr ?_;(case hd=>rfl);(case hg=>rfl);(case hr=>first|(go_simp;done)|(go_simp;rfl));intro gb904 hg w9 hbox hb;have n0_:=Z (blk_below (g:=gb903) (o:=.cells #[.int .i64 a0_0,.slice A0_1 l0_1.length c0_1,.slice A0_2 l0_2.length c0_2] 32 (0,0)) (pK BK903) hb);have n1_:=Z (below_step pB hb);have n2_:=Z (hbox);have n3_:=Z ((pT hg:w.heap.size≤gb904));have n4_:=Z ((pT hg:w.heap.size≤gb904));have n5_:=Z ((pL hg (pK BK903):gb903 ≠ gb904));have n6_:=Z ((pM hg (pK BK903):gb904 ≠ gb903));clear BK903;clear HB;have BK903:=n0_;have HB:=n1_;have BK904:=n2_;have GW904:=n3_;have GE904:=n4_;have NB903_904:=n5_;have NB904_903:=n6_;clear n0_ n1_ n2_ n3_ n4_ n5_ n6_;clear hb hbox hg)|((with_reducible refine gate_callee (f:=59) rfl ?_);refine goesL_ (some 9) rfl rfl Try.func59 (by kernel_rfl) rfl #[.int .i64 a2] rfl pG ?_;(with_reducible refine (nodeset_Valid.calls a2 true _ A4.out).mono ?_);rintro e w' ⟨rfl,⟨nd,rfl⟩⟩;refine ⟨_,rfl,?_⟩;(try (rw [drewN_self w9];generalize hq_:World.drewN w9 _=w9;have n0_:Aside0 (w9.heap[gb903]?=some (.cells #[.int .i64 a0_0,.slice A0_1 l0_1.length c0_1,.slice A0_2 l0_2.length c0_2] 32 (0,0))):=⟨by rw [← hq_];exact (pK BK903)⟩;have n1_:Aside0 (w9.heap[gb904]?=some (.cells #[.int .i64 0,.slice none 0 0,.slice none 0 0] 32 (0,0))):=⟨by rw [← hq_];exact (pK BK904)⟩;have n2_:Aside0 (Below w.heap.size w w9):=⟨by rw [← hq_];exact pB⟩;clear BK903 BK904 HB hq_;have BK903:=n0_;have BK904:=n1_;have HB:=n2_;clear n0_ n1_ n2_));have hnb10:=NB903_904.out;have hnc10:=NB904_903.out;have hcz11_0:w9.cell? ⟨gb903,0,none⟩=some (.int .i64 a0_0):=(kC BK903.out 0).trans rfl;have hcz11_1:w9.cell? ⟨gb903,1,none⟩=some (.slice A0_1 l0_1.length c0_1):=(kC BK903.out 1).trans rfl;have hcz11_2:w9.cell? ⟨gb903,2,none⟩=some (.slice A0_2 l0_2.length c0_2):=(kC BK903.out 2).trans rfl;have hfz11_0:=kF BK903.out 0;have hfz11_1:=kF BK903.out 1;have hfz11_2:=kF BK903.out 2)|((with_reducible refine gate_callee (f:=143) rfl ?_);refine goesL_ (some 15) rfl rfl Try.func143 (by kernel_rfl) rfl #[.agg #[.int .i64 a0_0,.slice A0_1 l0_1.length c0_1,.slice A0_2 l0_2.length c0_2],.int .i64 a2] rfl pG ?_;(with_reducible refine (deletion_level.calls k a0_0 _ _ l0_1 _ _ l0_2 a2 t906 t907 t910 _ ?side1 ?side2 ?side3 ?side4 A6.out).mono ?_);(case side1=>repeat (first|exact (Kd.C_below HR0_1.out HB.out)|(with_reducible refine Kd.C_alloc ?_ _)|(with_reducible refine Kd.C_drewN ?_ _)|(with_reducible refine Kd.C_drew ?_)));(case side2=>exact HC0_1.out);(case side3=>repeat (first|exact (Kd.C_below HR0_2.out HB.out)|(with_reducible refine Kd.C_alloc ?_ _)|(with_reducible refine Kd.C_drewN ?_ _)|(with_reducible refine Kd.C_drew ?_)));(case side4=>exact HC0_2.out);rintro e w12 ⟨v908,v911,rfl,ho0,ho1,hb⟩;refine ⟨_,rfl,?_⟩;have n0_:=Z (Kd.R_lower ho0 (below_size pB));have n1_:=Z (Kd.R_lower (Kd.R_newB (Kd.R_newB ho1 (g:=gb903) (o:=.cells #[.int .i64 a0_0,.slice A0_1 l0_1.length c0_1,.slice A0_2 l0_2.length c0_2] 32 (0,0)) (pK BK903)) (g:=gb904) (o:=.cells #[.int .i64 0,.slice none 0 0,.slice none 0 0] 32 (0,0)) (pK BK904)) (below_size pB));have n2_:=Z (blk_below (g:=gb903) (o:=.cells #[.int .i64 a0_0,.slice A0_1 l0_1.length c0_1,.slice A0_2 l0_2.length c0_2] 32 (0,0)) (pK BK903) hb);have n3_:=Z (blk_below (g:=gb904) (o:=.cells #[.int .i64 0,.slice none 0 0,.slice none 0 0] 32 (0,0)) (pK BK904) hb);have n4_:=Z (below_step pB hb);clear BK903;clear BK904;clear HB;have HO909:=n0_;have HO912:=n1_;have BK903:=n2_;have BK904:=n3_;have HB:=n4_;clear n0_ n1_ n2_ n3_ n4_;(try clear hb);(try clear hb2);(try clear hk);(try clear hi);(try clear ho0);(try clear ho1))|((with_reducible refine gate_dst (N:=7) rfl ?_);refine box_event ?hg (N:=7) ?hd (cs:=#[.int .i64 0,.slice none 0 0,.slice none 0 0]) (t:=32) ?hr ?_;(case hd=>rfl);(case hg=>rfl);(case hr=>first|(go_simp;done)|(go_simp;rfl));intro gb913 hg w13 hbox hb;have n0_:=Z (Kd.R_below (pR HO909) hb);have n1_:=Z (Kd.R_below (Kd.R_elderB (pR HO912) gb913 (Nat.le_of_eq hg.symm)) hb);have n2_:=Z (blk_below (g:=gb903) (o:=.cells #[.int .i64 a0_0,.slice A0_1 l0_1.length c0_1,.slice A0_2 l0_2.length c0_2] 32 (0,0)) (pK BK903) hb);have n3_:=Z (blk_below (g:=gb904) (o:=.cells #[.int .i64 0,.slice none 0 0,.slice none 0 0] 32 (0,0)) (pK BK904) hb);have n4_:=Z (below_step pB hb);have n5_:=Z (hbox);have n6_:=Z ((pT hg:w.heap.size≤gb913));have n7_:=Z ((pT hg:w.heap.size≤gb913));have n8_:=Z ((pL hg (pK BK903):gb903 ≠ gb913));have n9_:=Z ((pM hg (pK BK903):gb913 ≠ gb903));have n10_:=Z ((pL hg (pK BK904):gb904 ≠ gb913));have n11_:=Z ((pM hg (pK BK904):gb913 ≠ gb904));clear HO909;clear HO912;clear BK903;clear BK904;clear HB;have HO909:=n0_;have HO912:=n1_;have BK903:=n2_;have BK904:=n3_;have HB:=n4_;have BK913:=n5_;have GW913:=n6_;have GE913:=n7_;have NB903_913:=n8_;have NB913_903:=n9_;have NB904_913:=n10_;have NB913_904:=n11_;clear n0_ n1_ n2_ n3_ n4_ n5_ n6_ n7_ n8_ n9_ n10_ n11_;clear hb hbox hg;have hnb14:=NB913_903.out;have hnc14:=NB903_913.out;have hnb15:=NB913_904.out;have hnc15:=NB904_913.out;have hcz16_0:w13.cell? ⟨gb913,0,none⟩=some (.int .i64 0):=(kC BK913.out 0).trans rfl;have hcz16_1:w13.cell? ⟨gb913,1,none⟩=some (.slice none 0 0):=(kC BK913.out 1).trans rfl;have hcz16_2:w13.cell? ⟨gb913,2,none⟩=some (.slice none 0 0):=(kC BK913.out 2).trans rfl;have hfz16_0:=kF BK913.out 0;have hfz16_1:=kF BK913.out 1;have hfz16_2:=kF BK913.out 2;obtain ⟨Ao17,co17,eo17⟩:=Kd.R_slice HO909.out;subst eo17;obtain ⟨Ao18,co18,eo18⟩:=Kd.R_slice HO912.out;subst eo18)|((with_reducible refine gate_dst (N:=20) rfl ?_);refine Kd.R_lit (Kd.int .i64) _ 3 ?hg (N:=20) ?hd (xs:=([a1]:List Int)) (inner:=[.int .i64 a1]) (ok:=fun _=>True) (okp:=fun _=>True) ?hr ?hp (fun _ hk=>hk) trivial (Below.refl _ _) (Nat.le_refl _) (by simp) ?_;(case hd=>rfl);(case hg=>rfl);(case hr=>first|(go_simp;done)|(go_simp;rfl));(case hp=>exact (Reps.one (show Kd.M (Kd.int .i64) _ _ _ a1 [.int .i64 a1] from rfl) (Reps.none _ _)));intro v915 w19 ho20 hb hg_ hnew_;clear hg_ hnew_;(first|rw [← Ny914.out] at ho20|(simp only [Int.reduceToNat] at ho20;rw [← Ny914.out] at ho20));have n0_:=Z (Kd.R_elder' (by (with_reducible repeat (first|apply Kd.R_alloc|apply Kd.R_drewN|apply Kd.R_drew));exact (Kd.R_mono (Kd.R_far (p:=⟨gb913,2,none⟩) (Kd.R_far (p:=⟨gb913,1,none⟩) (Kd.R_far (p:=⟨gb913,0,none⟩) (Kd.R_types HO909.out BK913.out (by decide)) (fun _ hk=>hk.2) (.int .i64 t906)) (fun _ hk=>hk.2) (.slice Ao17 t907.length co17)) (fun _ hk=>hk.2) (.slice Ao18 t910.length co18)) (fun _ h_=>h_.1))) (Kd.R_base ho20) hb);have n1_:=Z (Kd.R_elder' (by (with_reducible repeat (first|apply Kd.R_alloc|apply Kd.R_drewN|apply Kd.R_drew));exact (Kd.R_mono (Kd.R_far (p:=⟨gb913,2,none⟩) (Kd.R_far (p:=⟨gb913,1,none⟩) (Kd.R_far (p:=⟨gb913,0,none⟩) (Kd.R_mono HO912.out (fun k_ hk=>(⟨hk,hk.2⟩:_∧k_ ≠ gb913))) (fun _ hk=>hk.2) (.int .i64 t906)) (fun _ hk=>hk.2) (.slice Ao17 t907.length co17)) (fun _ hk=>hk.2) (.slice Ao18 t910.length co18)) (fun _ h_=>h_.1))) (Kd.R_base ho20) hb);have n2_:=Z (Kd.R_lower (Kd.R_new' ho20 (Kd.R_lt (by (with_reducible repeat (first|apply Kd.R_alloc|apply Kd.R_drewN|apply Kd.R_drew));exact (Kd.R_mono (Kd.R_far (p:=⟨gb913,2,none⟩) (Kd.R_far (p:=⟨gb913,1,none⟩) (Kd.R_far (p:=⟨gb913,0,none⟩) (Kd.R_types HO909.out BK913.out (by decide)) (fun _ hk=>hk.2) (.int .i64 t906)) (fun _ hk=>hk.2) (.slice Ao17 t907.length co17)) (fun _ hk=>hk.2) (.slice Ao18 t910.length co18)) (fun _ h_=>h_.1))))) (below_size pB));have n3_:=Z (blk_below (g:=gb903) (o:=.cells #[.int .i64 a0_0,.slice A0_1 l0_1.length c0_1,.slice A0_2 l0_2.length c0_2] 32 (0,0)) (by (with_reducible repeat (first|refine kN ?_ _|refine kD ?_|refine kA ?_ _));refine blk_far ?_ NB903_913.out _;(with_reducible repeat (first|refine kN ?_ _|refine kD ?_|refine kA ?_ _));refine blk_far ?_ NB903_913.out _;(with_reducible repeat (first|refine kN ?_ _|refine kD ?_|refine kA ?_ _));refine blk_far ?_ NB903_913.out _;(with_reducible repeat (first|refine kN ?_ _|refine kD ?_|refine kA ?_ _));exact BK903.out) hb);have n4_:=Z (blk_below (g:=gb904) (o:=.cells #[.int .i64 0,.slice none 0 0,.slice none 0 0] 32 (0,0)) (by (with_reducible repeat (first|refine kN ?_ _|refine kD ?_|refine kA ?_ _));refine blk_far ?_ NB904_913.out _;(with_reducible repeat (first|refine kN ?_ _|refine kD ?_|refine kA ?_ _));refine blk_far ?_ NB904_913.out _;(with_reducible repeat (first|refine kN ?_ _|refine kD ?_|refine kA ?_ _));refine blk_far ?_ NB904_913.out _;(with_reducible repeat (first|refine kN ?_ _|refine kD ?_|refine kA ?_ _));exact BK904.out) hb);have n5_:=Z (blk_below (g:=gb913) (o:=.cells #[.int .i64 t906,.slice Ao17 t907.length co17,.slice Ao18 t910.length co18] 32 (0,0)) (by (with_reducible repeat (first|refine kN ?_ _|refine kD ?_|refine kA ?_ _));refine blk_put (cs:=#[.int .i64 t906,.slice Ao17 t907.length co17,.slice none 0 0]) ?_ 2 _ rfl;(with_reducible repeat (first|refine kN ?_ _|refine kD ?_|refine kA ?_ _));refine blk_put (cs:=#[.int .i64 t906,.slice none 0 0,.slice none 0 0]) ?_ 1 _ rfl;(with_reducible repeat (first|refine kN ?_ _|refine kD ?_|refine kA ?_ _));refine blk_put (cs:=#[.int .i64 0,.slice none 0 0,.slice none 0 0]) ?_ 0 _ rfl;(with_reducible repeat (first|refine kN ?_ _|refine kD ?_|refine kA ?_ _));exact BK913.out) hb);have n6_:=Z (below_step pB hb);clear HO909;clear HO912;clear BK903;clear BK904;clear BK913;clear HB;have HO909:=n0_;have HO912:=n1_;have HO916:=n2_;have BK903:=n3_;have BK904:=n4_;have BK913:=n5_;have HB:=n6_;clear n0_ n1_ n2_ n3_ n4_ n5_ n6_;clear hb ho20;obtain ⟨Ao21,co21,eo21⟩:=Kd.R_slice HO916.out;subst eo21;have hcz22_0:w19.cell? ⟨gb904,0,none⟩=some (.int .i64 0):=(kC BK904.out 0).trans rfl;have hcz22_1:w19.cell? ⟨gb904,1,none⟩=some (.slice none 0 0):=(kC BK904.out 1).trans rfl;have hcz22_2:w19.cell? ⟨gb904,2,none⟩=some (.slice none 0 0):=(kC BK904.out 2).trans rfl;have hfz22_0:=kF BK904.out 0;have hfz22_1:=kF BK904.out 1;have hfz22_2:=kF BK904.out 2))
   refine bodyPost_ret (results_cell_row rfl _ _ gb904 32 #[.int .i64 1,.slice Ao21 y914.length co21,.slice none 0 0] (0,0) _ rfl (by (with_reducible repeat (first|refine kN ?_ _|refine kD ?_|refine kA ?_ _));refine blk_put (cs:=#[.int .i64 1,.slice Ao21 y914.length co21,.slice none 0 0]) ?_ 2 _ rfl;(with_reducible repeat (first|refine kN ?_ _|refine kD ?_|refine kA ?_ _));refine blk_put (cs:=#[.int .i64 1,.slice none 0 0,.slice none 0 0]) ?_ 1 _ rfl;(with_reducible repeat (first|refine kN ?_ _|refine kD ?_|refine kA ?_ _));refine blk_put (cs:=#[.int .i64 0,.slice none 0 0,.slice none 0 0]) ?_ 0 _ rfl;(with_reducible repeat (first|refine kN ?_ _|refine kD ?_|refine kA ?_ _));exact BK904.out) Try.underlying32 rfl (by kernel_rfl)) rfl ?_
   exact ⟨_,_,pF,by (with_reducible repeat (first|apply Kd.R_alloc|apply Kd.R_drewN|apply Kd.R_drew));exact Kd.R_mono (Kd.R_far (p:=⟨gb904,2,none⟩) (Kd.R_far (p:=⟨gb904,1,none⟩) (Kd.R_far (p:=⟨gb904,0,none⟩) (Kd.R_types HO916.out BK904.out (by decide)) (fun _ hk=>hk.2) (.int .i64 1)) (fun _ hk=>hk.2) (.slice Ao21 y914.length co21)) (fun _ hk=>hk.2) (.slice none 0 0)) (fun _ hk=>trivial),pN,pB⟩
  ·rw [if_neg c7] at H
   have c7b0:(t906 == 0)=false:=beq_eq_false_iff_ne.mpr c7
   have c7b1:(t906 != 0)=true:=bne_iff_ne.mpr c7
   simp only [Option.some.injEq,Prod.mk.injEq] at H
   obtain ⟨rfl,rfl,rfl⟩:=H
   go_enter Try.func122,Try.ntmps122
   go_wp2_with (first|((with_reducible refine gate_dst (N:=3) rfl ?_);refine box_event ?hg (N:=3) ?hd (cs:=#[.int .i64 a0_0,.slice A0_1 l0_1.length c0_1,.slice A0_2 l0_2.length c0_2]) (t:=32) ?hr ?_;(case hd=>rfl);(case hg=>rfl);(case hr=>first|(go_simp;done)|(go_simp;rfl));intro gb903 hg w23 hbox hb;have n0_:=Z (below_step pB hb);have n1_:=Z (hbox);have n2_:=Z ((pT hg:w.heap.size≤gb903));have n3_:=Z ((pT hg:w.heap.size≤gb903));clear HB;have HB:=n0_;have BK903:=n1_;have GW903:=n2_;have GE903:=n3_;clear n0_ n1_ n2_ n3_;clear hb hbox hg)|((with_reducible refine gate_dst (N:=6) rfl ?_);refine box_event ?hg (N:=6) ?hd (cs:=#[.int .i64 0,.slice none 0 0,.slice none 0 0]) (t:=32) ?hr ?_;(case hd=>rfl);(case hg=>rfl);(case hr=>first|(go_simp;done)|(go_simp;rfl));intro gb904 hg w24 hbox hb;have n0_:=Z (blk_below (g:=gb903) (o:=.cells #[.int .i64 a0_0,.slice A0_1 l0_1.length c0_1,.slice A0_2 l0_2.length c0_2] 32 (0,0)) (pK BK903) hb);have n1_:=Z (below_step pB hb);have n2_:=Z (hbox);have n3_:=Z ((pT hg:w.heap.size≤gb904));have n4_:=Z ((pT hg:w.heap.size≤gb904));have n5_:=Z ((pL hg (pK BK903):gb903 ≠ gb904));have n6_:=Z ((pM hg (pK BK903):gb904 ≠ gb903));clear BK903;clear HB;have BK903:=n0_;have HB:=n1_;have BK904:=n2_;have GW904:=n3_;have GE904:=n4_;have NB903_904:=n5_;have NB904_903:=n6_;clear n0_ n1_ n2_ n3_ n4_ n5_ n6_;clear hb hbox hg)|((with_reducible refine gate_callee (f:=59) rfl ?_);refine goesL_ (some 9) rfl rfl Try.func59 (by kernel_rfl) rfl #[.int .i64 a2] rfl pG ?_;(with_reducible refine (nodeset_Valid.calls a2 true _ A4.out).mono ?_);rintro e w' ⟨rfl,⟨nd,rfl⟩⟩;refine ⟨_,rfl,?_⟩;(try (rw [drewN_self w24];generalize hq_:World.drewN w24 _=w24;have n0_:Aside0 (w24.heap[gb903]?=some (.cells #[.int .i64 a0_0,.slice A0_1 l0_1.length c0_1,.slice A0_2 l0_2.length c0_2] 32 (0,0))):=⟨by rw [← hq_];exact (pK BK903)⟩;have n1_:Aside0 (w24.heap[gb904]?=some (.cells #[.int .i64 0,.slice none 0 0,.slice none 0 0] 32 (0,0))):=⟨by rw [← hq_];exact (pK BK904)⟩;have n2_:Aside0 (Below w.heap.size w w24):=⟨by rw [← hq_];exact pB⟩;clear BK903 BK904 HB hq_;have BK903:=n0_;have BK904:=n1_;have HB:=n2_;clear n0_ n1_ n2_));have hnb25:=NB903_904.out;have hnc25:=NB904_903.out;have hcz26_0:w24.cell? ⟨gb903,0,none⟩=some (.int .i64 a0_0):=(kC BK903.out 0).trans rfl;have hcz26_1:w24.cell? ⟨gb903,1,none⟩=some (.slice A0_1 l0_1.length c0_1):=(kC BK903.out 1).trans rfl;have hcz26_2:w24.cell? ⟨gb903,2,none⟩=some (.slice A0_2 l0_2.length c0_2):=(kC BK903.out 2).trans rfl;have hfz26_0:=kF BK903.out 0;have hfz26_1:=kF BK903.out 1;have hfz26_2:=kF BK903.out 2)|((with_reducible refine gate_callee (f:=143) rfl ?_);refine goesL_ (some 15) rfl rfl Try.func143 (by kernel_rfl) rfl #[.agg #[.int .i64 a0_0,.slice A0_1 l0_1.length c0_1,.slice A0_2 l0_2.length c0_2],.int .i64 a2] rfl pG ?_;(with_reducible refine (deletion_level.calls k a0_0 _ _ l0_1 _ _ l0_2 a2 t906 t907 t910 _ ?side1 ?side2 ?side3 ?side4 A6.out).mono ?_);(case side1=>repeat (first|exact (Kd.C_below HR0_1.out HB.out)|(with_reducible refine Kd.C_alloc ?_ _)|(with_reducible refine Kd.C_drewN ?_ _)|(with_reducible refine Kd.C_drew ?_)));(case side2=>exact HC0_1.out);(case side3=>repeat (first|exact (Kd.C_below HR0_2.out HB.out)|(with_reducible refine Kd.C_alloc ?_ _)|(with_reducible refine Kd.C_drewN ?_ _)|(with_reducible refine Kd.C_drew ?_)));(case side4=>exact HC0_2.out);rintro e w27 ⟨v908,v911,rfl,ho0,ho1,hb⟩;refine ⟨_,rfl,?_⟩;have n0_:=Z (Kd.R_lower ho0 (below_size pB));have n1_:=Z (Kd.R_lower (Kd.R_newB (Kd.R_newB ho1 (g:=gb903) (o:=.cells #[.int .i64 a0_0,.slice A0_1 l0_1.length c0_1,.slice A0_2 l0_2.length c0_2] 32 (0,0)) (pK BK903)) (g:=gb904) (o:=.cells #[.int .i64 0,.slice none 0 0,.slice none 0 0] 32 (0,0)) (pK BK904)) (below_size pB));have n2_:=Z (blk_below (g:=gb903) (o:=.cells #[.int .i64 a0_0,.slice A0_1 l0_1.length c0_1,.slice A0_2 l0_2.length c0_2] 32 (0,0)) (pK BK903) hb);have n3_:=Z (blk_below (g:=gb904) (o:=.cells #[.int .i64 0,.slice none 0 0,.slice none 0 0] 32 (0,0)) (pK BK904) hb);have n4_:=Z (below_step pB hb);clear BK903;clear BK904;clear HB;have HO909:=n0_;have HO912:=n1_;have BK903:=n2_;have BK904:=n3_;have HB:=n4_;clear n0_ n1_ n2_ n3_ n4_;(try clear hb);(try clear hb2);(try clear hk);(try clear hi);(try clear ho0);(try clear ho1))|((with_reducible refine gate_dst (N:=7) rfl ?_);refine box_event ?hg (N:=7) ?hd (cs:=#[.int .i64 0,.slice none 0 0,.slice none 0 0]) (t:=32) ?hr ?_;(case hd=>rfl);(case hg=>rfl);(case hr=>first|(go_simp;done)|(go_simp;rfl));intro gb913 hg w28 hbox hb;have n0_:=Z (Kd.R_below (pR HO909) hb);have n1_:=Z (Kd.R_below (Kd.R_elderB (pR HO912) gb913 (Nat.le_of_eq hg.symm)) hb);have n2_:=Z (blk_below (g:=gb903) (o:=.cells #[.int .i64 a0_0,.slice A0_1 l0_1.length c0_1,.slice A0_2 l0_2.length c0_2] 32 (0,0)) (pK BK903) hb);have n3_:=Z (blk_below (g:=gb904) (o:=.cells #[.int .i64 0,.slice none 0 0,.slice none 0 0] 32 (0,0)) (pK BK904) hb);have n4_:=Z (below_step pB hb);have n5_:=Z (hbox);have n6_:=Z ((pT hg:w.heap.size≤gb913));have n7_:=Z ((pT hg:w.heap.size≤gb913));have n8_:=Z ((pL hg (pK BK903):gb903 ≠ gb913));have n9_:=Z ((pM hg (pK BK903):gb913 ≠ gb903));have n10_:=Z ((pL hg (pK BK904):gb904 ≠ gb913));have n11_:=Z ((pM hg (pK BK904):gb913 ≠ gb904));clear HO909;clear HO912;clear BK903;clear BK904;clear HB;have HO909:=n0_;have HO912:=n1_;have BK903:=n2_;have BK904:=n3_;have HB:=n4_;have BK913:=n5_;have GW913:=n6_;have GE913:=n7_;have NB903_913:=n8_;have NB913_903:=n9_;have NB904_913:=n10_;have NB913_904:=n11_;clear n0_ n1_ n2_ n3_ n4_ n5_ n6_ n7_ n8_ n9_ n10_ n11_;clear hb hbox hg;have hnb29:=NB913_903.out;have hnc29:=NB903_913.out;have hnb30:=NB913_904.out;have hnc30:=NB904_913.out;have hcz31_0:w28.cell? ⟨gb913,0,none⟩=some (.int .i64 0):=(kC BK913.out 0).trans rfl;have hcz31_1:w28.cell? ⟨gb913,1,none⟩=some (.slice none 0 0):=(kC BK913.out 1).trans rfl;have hcz31_2:w28.cell? ⟨gb913,2,none⟩=some (.slice none 0 0):=(kC BK913.out 2).trans rfl;have hfz31_0:=kF BK913.out 0;have hfz31_1:=kF BK913.out 1;have hfz31_2:=kF BK913.out 2;obtain ⟨Ao32,co32,eo32⟩:=Kd.R_slice HO909.out;subst eo32;obtain ⟨Ao33,co33,eo33⟩:=Kd.R_slice HO912.out;subst eo33;have hcz34_0:w28.cell? ⟨gb904,0,none⟩=some (.int .i64 0):=(kC BK904.out 0).trans rfl;have hcz34_1:w28.cell? ⟨gb904,1,none⟩=some (.slice none 0 0):=(kC BK904.out 1).trans rfl;have hcz34_2:w28.cell? ⟨gb904,2,none⟩=some (.slice none 0 0):=(kC BK904.out 2).trans rfl;have hfz34_0:=kF BK904.out 0;have hfz34_1:=kF BK904.out 1;have hfz34_2:=kF BK904.out 2))
   refine bodyPost_ret (results_cell_row rfl _ _ gb904 32 #[.int .i64 t906,.slice Ao32 t907.length co32,.slice Ao33 t910.length co33] (0,0) _ rfl (by (with_reducible repeat (first|refine kN ?_ _|refine kD ?_|refine kA ?_ _));refine blk_put (cs:=#[.int .i64 t906,.slice Ao32 t907.length co32,.slice none 0 0]) ?_ 2 _ rfl;(with_reducible repeat (first|refine kN ?_ _|refine kD ?_|refine kA ?_ _));refine blk_put (cs:=#[.int .i64 t906,.slice none 0 0,.slice none 0 0]) ?_ 1 _ rfl;(with_reducible repeat (first|refine kN ?_ _|refine kD ?_|refine kA ?_ _));refine blk_put (cs:=#[.int .i64 0,.slice none 0 0,.slice none 0 0]) ?_ 0 _ rfl;(with_reducible repeat (first|refine kN ?_ _|refine kD ?_|refine kA ?_ _));refine blk_far ?_ NB904_913.out _;(with_reducible repeat (first|refine kN ?_ _|refine kD ?_|refine kA ?_ _));refine blk_far ?_ NB904_913.out _;(with_reducible repeat (first|refine kN ?_ _|refine kD ?_|refine kA ?_ _));refine blk_far ?_ NB904_913.out _;(with_reducible repeat (first|refine kN ?_ _|refine kD ?_|refine kA ?_ _));exact BK904.out) Try.underlying32 rfl (by kernel_rfl)) rfl ?_
   exact ⟨_,_,pF,by (with_reducible repeat (first|apply Kd.R_alloc|apply Kd.R_drewN|apply Kd.R_drew));exact Kd.R_mono (Kd.R_far (p:=⟨gb904,2,none⟩) (Kd.R_far (p:=⟨gb904,1,none⟩) (Kd.R_far (p:=⟨gb904,0,none⟩) (Kd.R_far (p:=⟨gb913,2,none⟩) (Kd.R_far (p:=⟨gb913,1,none⟩) (Kd.R_far (p:=⟨gb913,0,none⟩) (Kd.R_types (Kd.R_types HO909.out BK913.out (by decide)) BK904.out (by decide)) (fun _ hk=>hk.1.2) (.int .i64 t906)) (fun _ hk=>hk.1.2) (.slice Ao32 t907.length co32)) (fun _ hk=>hk.1.2) (.slice Ao33 t910.length co33)) (fun _ hk=>hk.2) (.int .i64 t906)) (fun _ hk=>hk.2) (.slice Ao32 t907.length co32)) (fun _ hk=>hk.2) (.slice Ao33 t910.length co33)) (fun _ hk=>trivial),by (with_reducible repeat (first|apply Kd.R_alloc|apply Kd.R_drewN|apply Kd.R_drew));exact Kd.R_mono (Kd.R_far (p:=⟨gb904,2,none⟩) (Kd.R_far (p:=⟨gb904,1,none⟩) (Kd.R_far (p:=⟨gb904,0,none⟩) (Kd.R_far (p:=⟨gb913,2,none⟩) (Kd.R_far (p:=⟨gb913,1,none⟩) (Kd.R_far (p:=⟨gb913,0,none⟩) (Kd.R_mono (Kd.R_mono HO912.out (fun k_ hk=>(⟨hk,hk.2⟩:_∧k_ ≠ gb913))) (fun k_ hk=>(⟨hk,hk.1.1.2⟩:_∧k_ ≠ gb904))) (fun _ hk=>hk.1.2) (.int .i64 t906)) (fun _ hk=>hk.1.2) (.slice Ao32 t907.length co32)) (fun _ hk=>hk.1.2) (.slice Ao33 t910.length co33)) (fun _ hk=>hk.2) (.int .i64 t906)) (fun _ hk=>hk.2) (.slice Ao32 t907.length co32)) (fun _ hk=>hk.2) (.slice Ao33 t910.length co33)) (fun _ hk=>hk.1.1.1.1.1),pB⟩
 ·replace c5:=Bool.eq_false_iff.mpr c5
  subst c5
  rw [if_neg (show ¬ (false=true) by decide)] at H
  replace H:=Option.bind_eq_some_iff.mp H
  obtain ⟨⟨t917,t918,t921⟩,A350,H⟩:=H
  try dsimp only at H
  have A35:=Z A350
  clear A350
  simp only [Option.some.injEq,Prod.mk.injEq] at H
  obtain ⟨rfl,rfl,rfl⟩:=H
  go_enter Try.func122,Try.ntmps122
  go_wp2_with (first|((with_reducible refine gate_dst (N:=3) rfl ?_);refine box_event ?hg (N:=3) ?hd (cs:=#[.int .i64 a0_0,.slice A0_1 l0_1.length c0_1,.slice A0_2 l0_2.length c0_2]) (t:=32) ?hr ?_;(case hd=>rfl);(case hg=>rfl);(case hr=>first|(go_simp;done)|(go_simp;rfl));intro gb903 hg w36 hbox hb;have n0_:=Z (below_step pB hb);have n1_:=Z (hbox);have n2_:=Z ((pT hg:w.heap.size≤gb903));have n3_:=Z ((pT hg:w.heap.size≤gb903));clear HB;have HB:=n0_;have BK903:=n1_;have GW903:=n2_;have GE903:=n3_;clear n0_ n1_ n2_ n3_;clear hb hbox hg)|((with_reducible refine gate_dst (N:=6) rfl ?_);refine box_event ?hg (N:=6) ?hd (cs:=#[.int .i64 0,.slice none 0 0,.slice none 0 0]) (t:=32) ?hr ?_;(case hd=>rfl);(case hg=>rfl);(case hr=>first|(go_simp;done)|(go_simp;rfl));intro gb904 hg w37 hbox hb;have n0_:=Z (blk_below (g:=gb903) (o:=.cells #[.int .i64 a0_0,.slice A0_1 l0_1.length c0_1,.slice A0_2 l0_2.length c0_2] 32 (0,0)) (pK BK903) hb);have n1_:=Z (below_step pB hb);have n2_:=Z (hbox);have n3_:=Z ((pT hg:w.heap.size≤gb904));have n4_:=Z ((pT hg:w.heap.size≤gb904));have n5_:=Z ((pL hg (pK BK903):gb903 ≠ gb904));have n6_:=Z ((pM hg (pK BK903):gb904 ≠ gb903));clear BK903;clear HB;have BK903:=n0_;have HB:=n1_;have BK904:=n2_;have GW904:=n3_;have GE904:=n4_;have NB903_904:=n5_;have NB904_903:=n6_;clear n0_ n1_ n2_ n3_ n4_ n5_ n6_;clear hb hbox hg)|((with_reducible refine gate_callee (f:=59) rfl ?_);refine goesL_ (some 9) rfl rfl Try.func59 (by kernel_rfl) rfl #[.int .i64 a2] rfl pG ?_;(with_reducible refine (nodeset_Valid.calls a2 false _ A4.out).mono ?_);rintro e w' ⟨rfl,⟨nd,rfl⟩⟩;refine ⟨_,rfl,?_⟩;(try (rw [drewN_self w37];generalize hq_:World.drewN w37 _=w37;have n0_:Aside0 (w37.heap[gb903]?=some (.cells #[.int .i64 a0_0,.slice A0_1 l0_1.length c0_1,.slice A0_2 l0_2.length c0_2] 32 (0,0))):=⟨by rw [← hq_];exact (pK BK903)⟩;have n1_:Aside0 (w37.heap[gb904]?=some (.cells #[.int .i64 0,.slice none 0 0,.slice none 0 0] 32 (0,0))):=⟨by rw [← hq_];exact (pK BK904)⟩;have n2_:Aside0 (Below w.heap.size w w37):=⟨by rw [← hq_];exact pB⟩;clear BK903 BK904 HB hq_;have BK903:=n0_;have BK904:=n1_;have HB:=n2_;clear n0_ n1_ n2_));have hnb38:=NB903_904.out;have hnc38:=NB904_903.out;have hcz39_0:w37.cell? ⟨gb903,0,none⟩=some (.int .i64 a0_0):=(kC BK903.out 0).trans rfl;have hcz39_1:w37.cell? ⟨gb903,1,none⟩=some (.slice A0_1 l0_1.length c0_1):=(kC BK903.out 1).trans rfl;have hcz39_2:w37.cell? ⟨gb903,2,none⟩=some (.slice A0_2 l0_2.length c0_2):=(kC BK903.out 2).trans rfl;have hfz39_0:=kF BK903.out 0;have hfz39_1:=kF BK903.out 1;have hfz39_2:=kF BK903.out 2)|((with_reducible refine gate_callee (f:=123) rfl ?_);refine goesL_ (some 12) rfl rfl Try.func123 (by kernel_rfl) rfl #[.agg #[.int .i64 a0_0,.slice A0_1 l0_1.length c0_1,.slice A0_2 l0_2.length c0_2]] rfl pG ?_;(with_reducible refine (deletion_copied.calls a0_0 _ _ l0_1 _ _ l0_2 t917 t918 t921 _ ?side1 ?side2 ?side3 ?side4 A35.out).mono ?_);(case side1=>repeat (first|exact (Kd.C_below HR0_1.out HB.out)|(with_reducible refine Kd.C_alloc ?_ _)|(with_reducible refine Kd.C_drewN ?_ _)|(with_reducible refine Kd.C_drew ?_)));(case side2=>exact HC0_1.out);(case side3=>repeat (first|exact (Kd.C_below HR0_2.out HB.out)|(with_reducible refine Kd.C_alloc ?_ _)|(with_reducible refine Kd.C_drewN ?_ _)|(with_reducible refine Kd.C_drew ?_)));(case side4=>exact HC0_2.out);rintro e w40 ⟨v919,v922,rfl,ho0,ho1,hb⟩;refine ⟨_,rfl,?_⟩;have n0_:=Z (Kd.R_lower ho0 (below_size pB));have n1_:=Z (Kd.R_lower (Kd.R_newB (Kd.R_newB ho1 (g:=gb903) (o:=.cells #[.int .i64 a0_0,.slice A0_1 l0_1.length c0_1,.slice A0_2 l0_2.length c0_2] 32 (0,0)) (pK BK903)) (g:=gb904) (o:=.cells #[.int .i64 0,.slice none 0 0,.slice none 0 0] 32 (0,0)) (pK BK904)) (below_size pB));have n2_:=Z (blk_below (g:=gb903) (o:=.cells #[.int .i64 a0_0,.slice A0_1 l0_1.length c0_1,.slice A0_2 l0_2.length c0_2] 32 (0,0)) (pK BK903) hb);have n3_:=Z (blk_below (g:=gb904) (o:=.cells #[.int .i64 0,.slice none 0 0,.slice none 0 0] 32 (0,0)) (pK BK904) hb);have n4_:=Z (below_step pB hb);clear BK903;clear BK904;clear HB;have HO920:=n0_;have HO923:=n1_;have BK903:=n2_;have BK904:=n3_;have HB:=n4_;clear n0_ n1_ n2_ n3_ n4_;(try clear hb);(try clear hb2);(try clear hk);(try clear hi);(try clear ho0);(try clear ho1);have hcz41_0:w40.cell? ⟨gb904,0,none⟩=some (.int .i64 0):=(kC BK904.out 0).trans rfl;have hcz41_1:w40.cell? ⟨gb904,1,none⟩=some (.slice none 0 0):=(kC BK904.out 1).trans rfl;have hcz41_2:w40.cell? ⟨gb904,2,none⟩=some (.slice none 0 0):=(kC BK904.out 2).trans rfl;have hfz41_0:=kF BK904.out 0;have hfz41_1:=kF BK904.out 1;have hfz41_2:=kF BK904.out 2;obtain ⟨Ao42,co42,eo42⟩:=Kd.R_slice HO920.out;subst eo42;obtain ⟨Ao43,co43,eo43⟩:=Kd.R_slice HO923.out;subst eo43))
  refine bodyPost_ret (results_cell_row rfl _ _ gb904 32 #[.int .i64 t917,.slice Ao42 t918.length co42,.slice Ao43 t921.length co43] (0,0) _ rfl (by (with_reducible repeat (first|refine kN ?_ _|refine kD ?_|refine kA ?_ _));refine blk_put (cs:=#[.int .i64 t917,.slice Ao42 t918.length co42,.slice none 0 0]) ?_ 2 _ rfl;(with_reducible repeat (first|refine kN ?_ _|refine kD ?_|refine kA ?_ _));refine blk_put (cs:=#[.int .i64 t917,.slice none 0 0,.slice none 0 0]) ?_ 1 _ rfl;(with_reducible repeat (first|refine kN ?_ _|refine kD ?_|refine kA ?_ _));refine blk_put (cs:=#[.int .i64 0,.slice none 0 0,.slice none 0 0]) ?_ 0 _ rfl;(with_reducible repeat (first|refine kN ?_ _|refine kD ?_|refine kA ?_ _));exact BK904.out) Try.underlying32 rfl (by kernel_rfl)) rfl ?_
  exact ⟨_,_,pF,by (with_reducible repeat (first|apply Kd.R_alloc|apply Kd.R_drewN|apply Kd.R_drew));exact Kd.R_mono (Kd.R_far (p:=⟨gb904,2,none⟩) (Kd.R_far (p:=⟨gb904,1,none⟩) (Kd.R_far (p:=⟨gb904,0,none⟩) (Kd.R_types HO920.out BK904.out (by decide)) (fun _ hk=>hk.2) (.int .i64 t917)) (fun _ hk=>hk.2) (.slice Ao42 t918.length co42)) (fun _ hk=>hk.2) (.slice Ao43 t921.length co43)) (fun _ hk=>trivial),by (with_reducible repeat (first|apply Kd.R_alloc|apply Kd.R_drewN|apply Kd.R_drew));exact Kd.R_mono (Kd.R_far (p:=⟨gb904,2,none⟩) (Kd.R_far (p:=⟨gb904,1,none⟩) (Kd.R_far (p:=⟨gb904,0,none⟩) (Kd.R_mono HO923.out (fun k_ hk=>(⟨hk,hk.2⟩:_∧k_ ≠ gb904))) (fun _ hk=>hk.2) (.int .i64 t917)) (fun _ hk=>hk.2) (.slice Ao42 t918.length co42)) (fun _ hk=>hk.2) (.slice Ao43 t921.length co43)) (fun _ hk=>hk.1.1.1),pB⟩
theorem wpList_fresh {P:Program} {ops:Array Oper} {rest:List Oper} {a:Act} {Q:Exit→Act→World→Prop} {W:World} (F:World→Prop) (hF:F W) (h:∀ W1,F W1→wpList P ops Q rest a W1):wpList P ops Q rest a W:=h W hF
def deletion_Delete.l0:Nat→Int→List (S34)→Int→Int→List (S34)→Option ((List (S34)))
 | 0,_,_,_,_,_=>none
 | k+1,x1,x9,x10,x11,x927000=>if x11 < x10 then (if 0≤x11 then (if x11 < (x9.length:Int) then ((nodeset_Has.f x1 x11).bind fun t929=>(if t929=true then (if x927000.length < 2199023255552 then (deletion_Delete.l0 k x1 x9 x10 (wrap64 (x11+1)) (x927000++[(⟨false,(⟨0,([]:List Int),([]:List (S32))⟩:S32)⟩:S34)])) else (none)) else (if (rd_T34 x9 x11).f0=true then ((deletion_Trust.f k ((rd_T34 x9 x11).f1.f0) ((rd_T34 x9 x11).f1.f1) ((rd_T34 x9 x11).f1.f2) x11 x1).bind fun bt933=>(if x927000.length < 2199023255552 then (deletion_Delete.l0 k x1 x9 x10 (wrap64 (x11+1)) (x927000++[(⟨(rd_T34 x9 x11).f0,(⟨bt933.1,bt933.2.1,bt933.2.2⟩:S32)⟩:S34)])) else (none))) else ((deletion_copied.f ((rd_T34 x9 x11).f1.f0) ((rd_T34 x9 x11).f1.f1) ((rd_T34 x9 x11).f1.f2)).bind fun bt943=>(if x927000.length < 2199023255552 then (deletion_Delete.l0 k x1 x9 x10 (wrap64 (x11+1)) (x927000++[(⟨(rd_T34 x9 x11).f0,(⟨bt943.1,bt943.2.1,bt943.2.2⟩:S32)⟩:S34)])) else (none)))))) else (none)) else (none)) else (some x927000)
def deletion_Delete.f (k:Nat) (l0_0:List (S34)) (a1:Int):Option ((List (S34))):=deletion_Delete.l0 k a1 l0_0 (l0_0.length:Int) 0 ([]:List (S34))
set_option maxHeartbeats 8000000 in
set_option maxRecDepth 100000 in
theorem deletion_Delete.calls (k:Nat) (A0_0:Option Addr) (c0_0:Nat) (l0_0:List (S34)) (a1:Int) (r:List (S34)) (w:World) (hr0_0:Kd.C k34 w A0_0 l0_0.length l0_0) (hc0_0:l0_0.length≤c0_0) (h:deletion_Delete.f k l0_0 a1=some r) :
  Calls Try.prog 106 #[.agg #[.slice A0_0 l0_0.length c0_0],.int .i64 a1] w fun e w'=>∃ v0_:Value,e=.returned (.agg #[v0_])∧Kd.R k34 34 w' w.heap.size (fun _=>True) v0_ r∧Below w.heap.size w w':=by
 have hu27:=Try.underlying27
 have hu34:=Try.underlying34
 have hu32:=Try.underlying32
 have HR0_0:=Z hr0_0
 have HC0_0:=Z hc0_0
 clear hr0_0 hc0_0
 have HB:=Z (Below.refl w.heap.size w)
 have H:(deletion_Delete.l0 k a1 l0_0 (l0_0.length:Int) 0 ([]:List (S34)))=some r:=h
 clear h
 have H':=Z H
 clear H
 go_enter Try.func106,Try.ntmps106
 go_wp2_with (first|((with_reducible refine gate_dst (N:=2) rfl ?_);refine box_event ?hg (N:=2) ?hd (cs:=#[.slice A0_0 l0_0.length c0_0]) (t:=27) ?hr ?_;(case hd=>rfl);(case hg=>rfl);(case hr=>first|(go_simp;done)|(go_simp;rfl));intro gb924 hg w3 hbox hb;have n0_:=Z (below_step pB hb);have n1_:=Z (hbox);have n2_:=Z ((pT hg:w.heap.size≤gb924));have n3_:=Z ((pT hg:w.heap.size≤gb924));clear HB;have HB:=n0_;have BK924:=n1_;have GW924:=n2_;have GE924:=n3_;clear n0_ n1_ n2_ n3_;clear hb hbox hg)|((with_reducible refine gate_dst (N:=4) rfl ?_);refine box_event ?hg (N:=4) ?hd (cs:=#[.slice none 0 0]) (t:=27) ?hr ?_;(case hd=>rfl);(case hg=>rfl);(case hr=>first|(go_simp;done)|(go_simp;rfl));intro gb925 hg w4 hbox hb;have n0_:=Z (blk_below (g:=gb924) (o:=.cells #[.slice A0_0 l0_0.length c0_0] 27 (0,0)) (pK BK924) hb);have n1_:=Z (below_step pB hb);have n2_:=Z (hbox);have n3_:=Z ((pT hg:w.heap.size≤gb925));have n4_:=Z ((pT hg:w.heap.size≤gb925));have n5_:=Z ((pL hg (pK BK924):gb924 ≠ gb925));have n6_:=Z ((pM hg (pK BK924):gb925 ≠ gb924));clear BK924;clear HB;have BK924:=n0_;have HB:=n1_;have BK925:=n2_;have GW925:=n3_;have GE925:=n4_;have NB924_925:=n5_;have NB925_924:=n6_;clear n0_ n1_ n2_ n3_ n4_ n5_ n6_;clear hb hbox hg)|((with_reducible refine gate_dst (N:=5) rfl ?_);refine box_event ?hg (N:=5) ?hd (cs:=#[.slice none 0 0]) (t:=27) ?hr ?_;(case hd=>rfl);(case hg=>rfl);(case hr=>first|(go_simp;done)|(go_simp;rfl));intro gb926 hg w5 hbox hb;have n0_:=Z (blk_below (g:=gb924) (o:=.cells #[.slice A0_0 l0_0.length c0_0] 27 (0,0)) (pK BK924) hb);have n1_:=Z (blk_below (g:=gb925) (o:=.cells #[.slice none 0 0] 27 (0,0)) (pK BK925) hb);have n2_:=Z (below_step pB hb);have n3_:=Z (hbox);have n4_:=Z ((pT hg:w.heap.size≤gb926));have n5_:=Z ((pT hg:w.heap.size≤gb926));have n6_:=Z ((pL hg (pK BK924):gb924 ≠ gb926));have n7_:=Z ((pM hg (pK BK924):gb926 ≠ gb924));have n8_:=Z ((pL hg (pK BK925):gb925 ≠ gb926));have n9_:=Z ((pM hg (pK BK925):gb926 ≠ gb925));clear BK924;clear BK925;clear HB;have BK924:=n0_;have BK925:=n1_;have HB:=n2_;have BK926:=n3_;have GW926:=n4_;have GE926:=n5_;have NB924_926:=n6_;have NB926_924:=n7_;have NB925_926:=n8_;have NB926_925:=n9_;clear n0_ n1_ n2_ n3_ n4_ n5_ n6_ n7_ n8_ n9_;clear hb hbox hg;have hnb6:=NB924_925.out;have hnc6:=NB925_924.out;have hnb7:=NB924_926.out;have hnc7:=NB926_924.out;have hcz8_0:w5.cell? ⟨gb924,0,none⟩=some (.slice A0_0 l0_0.length c0_0):=(kC BK924.out 0).trans rfl;have hfz8_0:=kF BK924.out 0))
 go_loopg [11] k (fun kq v11 w'=>∃ (x11_1:Int) (x927000_1:List (S34)) (u927000:Value),v11=.int .i64 x11_1∧Aside0 (deletion_Delete.l0 kq a1 l0_0 (l0_0.length:Int) x11_1 x927000_1=some r)∧Aside0 (kq≤k)∧Aside0 (Kd.R k34 34 w' w.heap.size (fun _=>True) u927000 x927000_1)∧Aside0 (w'.heap[gb924]?=some (.cells #[(.slice A0_0 l0_0.length c0_0)] 27 (0,0)))∧Aside0 (w'.heap[gb925]?=some (.cells #[(.slice none 0 0)] 27 (0,0)))∧Aside0 (w'.heap[gb926]?=some (.cells #[u927000] 27 (0,0)))∧Aside0 (Below w.heap.size w w'))
 case atStart=>exact ⟨(0),(([]:List (S34))),(.slice none 0 0),pE,H',⟨Nat.le_refl _⟩,⟨pN⟩,⟨pK BK924⟩,⟨pK BK925⟩,⟨pK BK926⟩,⟨pB⟩⟩
 case round =>
  clear H'
  try clear c1
  try clear p2
  try clear c6
  try clear c7
  try clear hcz8_0
  try clear hfz8_0
  obtain ⟨x11_1,x927000_1,u927000,rfl,HA,HK1,HO_927000,BK924,BK925,BK926,HB⟩:=hrel
  cases gk with
  | zero=>exact absurd HA.out (by simp [deletion_Delete.l0])
  | succ k1 =>
   have H:=HA.out
   clear HA
   simp only [deletion_Delete.l0] at H
   by_cases c9:x11_1 < (l0_0.length:Int)
   ·rw [if_pos c9] at H
    have c9b0:decide (x11_1 < (l0_0.length:Int))=true:=decide_eq_true c9
    clear c9
    by_cases c10:0≤x11_1
    ·rw [if_pos c10] at H
     have c10b0:decide (0≤x11_1)=true:=decide_eq_true c10
     clear c10
     by_cases c11:x11_1 < (l0_0.length:Int)
     ·rw [if_pos c11] at H
      have c11b0:decide (x11_1 < (l0_0.length:Int))=true:=decide_eq_true c11
      clear c11
      replace H:=Option.bind_eq_some_iff.mp H
      obtain ⟨t929,A120,H⟩:=H
      try dsimp only at H
      have A12:=Z A120
      clear A120
      by_cases c13:t929=true
      ·subst c13
       rw [if_pos rfl] at H
       by_cases c14:x927000_1.length < 2199023255552
       ·rw [if_pos c14] at H
        have LMc14:=Z c14
        clear c14
        obtain ⟨y930,hy930⟩:∃ y_:List (S34),y_=(x927000_1++[(⟨false,(⟨0,([]:List Int),([]:List (S32))⟩:S32)⟩:S34)]):=⟨_,rfl⟩
        first|rw [← hy930] at H|(replace H:=(Option.bind_some _ _).symm.trans H;rw [← hy930] at H)
        have Ny930:=Z hy930
        clear hy930
        have H':=Z H
        clear H
        have p927:0≤(x11_1:Int):=of_decide_eq_true (by first|(with_reducible assumption)|assumption)
        have q927:x11_1 < (l0_0.length:Int):=of_decide_eq_true (by first|(with_reducible assumption)|assumption)
        obtain ⟨ad927,A927_2,c927_2,A927_3,c927_3,e927,hx927_0,hx927_1,hx927_2,hx927_3,hl927_2,hi927_2,hl927_3,hi927_3⟩:=at_T34 HR0_0.out x11_1 p927 q927
        cases e927
        replace hx927_0:=(HB.out.cell (World.block_lt_of_cell? w _ hx927_0)).trans hx927_0
        replace hx927_1:=(HB.out.cell (World.block_lt_of_cell? w _ hx927_1)).trans hx927_1
        replace hx927_2:=(HB.out.cell (World.block_lt_of_cell? w _ hx927_2)).trans hx927_2
        replace hx927_3:=(HB.out.cell (World.block_lt_of_cell? w _ hx927_3)).trans hx927_3
        have HR927_2:=Z hi927_2
        have HC927_2:=Z hl927_2
        clear hi927_2 hl927_2
        have HR927_3:=Z hi927_3
        have HC927_3:=Z hl927_3
        clear hi927_3 hl927_3
        replace p927:=eq_true p927
        replace q927:=eq_true q927
        go_wp2_with (first|((with_reducible refine gate_dst (N:=7) rfl ?_);refine box_event ?hg (N:=7) ?hd (cs:=#[.bool false,.int .i64 0,.slice none 0 0,.slice none 0 0]) (t:=34) ?hr ?_;(case hd=>rfl);(case hg=>rfl);(case hr=>first|(go_simp;done)|(go_simp;rfl));intro gb928 hg w15 hbox hb;have n0_:=Z (Kd.R_below (Kd.R_elderB (pR HO_927000) gb928 (Nat.le_of_eq hg.symm)) hb);have n1_:=Z (blk_below (g:=gb924) (o:=.cells #[.slice (some ad927) l0_0.length c0_0] 27 (0,0)) (pK BK924) hb);have n2_:=Z (blk_below (g:=gb925) (o:=.cells #[.slice none 0 0] 27 (0,0)) (pK BK925) hb);have n3_:=Z (blk_below (g:=gb926) (o:=.cells #[u927000] 27 (0,0)) (pK BK926) hb);have n4_:=Z (below_step pB hb);have n5_:=Z (hbox);have n6_:=Z ((pT hg:w.heap.size≤gb928));have n7_:=Z ((pT hg:w.heap.size≤gb928));have n8_:=Z ((pL hg (pK BK924):gb924 ≠ gb928));have n9_:=Z ((pM hg (pK BK924):gb928 ≠ gb924));have n10_:=Z ((pL hg (pK BK925):gb925 ≠ gb928));have n11_:=Z ((pM hg (pK BK925):gb928 ≠ gb925));have n12_:=Z ((pL hg (pK BK926):gb926 ≠ gb928));have n13_:=Z ((pM hg (pK BK926):gb928 ≠ gb926));clear HO_927000;clear BK924;clear BK925;clear BK926;clear HB;have HO_927000:=n0_;have BK924:=n1_;have BK925:=n2_;have BK926:=n3_;have HB:=n4_;have BK928:=n5_;have GW928:=n6_;have GE928:=n7_;have NB924_928:=n8_;have NB928_924:=n9_;have NB925_928:=n10_;have NB928_925:=n11_;have NB926_928:=n12_;have NB928_926:=n13_;clear n0_ n1_ n2_ n3_ n4_ n5_ n6_ n7_ n8_ n9_ n10_ n11_ n12_ n13_;clear hb hbox hg;have hnb16:=NB928_924.out;have hnc16:=NB924_928.out;have hnb17:=NB928_925.out;have hnc17:=NB925_928.out;have hnb18:=NB928_926.out;have hnc18:=NB926_928.out;have hcz19_0:w15.cell? ⟨gb928,0,none⟩=some (.bool false):=(kC BK928.out 0).trans rfl;have hcz19_1:w15.cell? ⟨gb928,1,none⟩=some (.int .i64 0):=(kC BK928.out 1).trans rfl;have hcz19_2:w15.cell? ⟨gb928,2,none⟩=some (.slice none 0 0):=(kC BK928.out 2).trans rfl;have hcz19_3:w15.cell? ⟨gb928,3,none⟩=some (.slice none 0 0):=(kC BK928.out 3).trans rfl;have hfz19_0:=kF BK928.out 0;have hfz19_1:=kF BK928.out 1;have hfz19_2:=kF BK928.out 2;have hfz19_3:=kF BK928.out 3)|((with_reducible refine gate_callee (f:=60) rfl ?_);refine goesL_ (some 23) rfl rfl Try.func60 (by kernel_rfl) rfl #[.int .i64 a1,.int .i64 x11_1] rfl pG ?_;(with_reducible refine (nodeset_Has.calls a1 x11_1 true _ A12.out).mono ?_);rintro e w' ⟨rfl,⟨nd,rfl⟩⟩;refine ⟨_,rfl,?_⟩;refine wpList_fresh (fun W1=>W1.heap[gb924]?=some (.cells #[.slice (some ad927) l0_0.length c0_0] 27 (0,0))∧W1.heap[gb925]?=some (.cells #[.slice none 0 0] 27 (0,0))∧W1.heap[gb926]?=some (.cells #[u927000] 27 (0,0))∧W1.heap[gb928]?=some (.cells #[.bool ((rd_T34 l0_0 x11_1).f0),.int .i64 ((rd_T34 l0_0 x11_1).f1.f0),.slice A927_2 ((rd_T34 l0_0 x11_1).f1.f1).length c927_2,.slice A927_3 ((rd_T34 l0_0 x11_1).f1.f2).length c927_3] 34 (0,0))∧Kd.R k34 34 W1 w.heap.size (fun k_=>True∧k_ ≠ gb928) u927000 x927000_1∧Below w.heap.size w W1) ⟨by (with_reducible repeat (first|refine kN ?_ _|refine kD ?_|refine kA ?_ _));refine blk_far ?_ NB924_928.out _;(with_reducible repeat (first|refine kN ?_ _|refine kD ?_|refine kA ?_ _));refine blk_far ?_ NB924_928.out _;(with_reducible repeat (first|refine kN ?_ _|refine kD ?_|refine kA ?_ _));refine blk_far ?_ NB924_928.out _;(with_reducible repeat (first|refine kN ?_ _|refine kD ?_|refine kA ?_ _));refine blk_far ?_ NB924_928.out _;(with_reducible repeat (first|refine kN ?_ _|refine kD ?_|refine kA ?_ _));exact BK924.out,by (with_reducible repeat (first|refine kN ?_ _|refine kD ?_|refine kA ?_ _));refine blk_far ?_ NB925_928.out _;(with_reducible repeat (first|refine kN ?_ _|refine kD ?_|refine kA ?_ _));refine blk_far ?_ NB925_928.out _;(with_reducible repeat (first|refine kN ?_ _|refine kD ?_|refine kA ?_ _));refine blk_far ?_ NB925_928.out _;(with_reducible repeat (first|refine kN ?_ _|refine kD ?_|refine kA ?_ _));refine blk_far ?_ NB925_928.out _;(with_reducible repeat (first|refine kN ?_ _|refine kD ?_|refine kA ?_ _));exact BK925.out,by (with_reducible repeat (first|refine kN ?_ _|refine kD ?_|refine kA ?_ _));refine blk_far ?_ NB926_928.out _;(with_reducible repeat (first|refine kN ?_ _|refine kD ?_|refine kA ?_ _));refine blk_far ?_ NB926_928.out _;(with_reducible repeat (first|refine kN ?_ _|refine kD ?_|refine kA ?_ _));refine blk_far ?_ NB926_928.out _;(with_reducible repeat (first|refine kN ?_ _|refine kD ?_|refine kA ?_ _));refine blk_far ?_ NB926_928.out _;(with_reducible repeat (first|refine kN ?_ _|refine kD ?_|refine kA ?_ _));exact BK926.out,by (with_reducible repeat (first|refine kN ?_ _|refine kD ?_|refine kA ?_ _));refine blk_put (cs:=#[.bool ((rd_T34 l0_0 x11_1).f0),.int .i64 ((rd_T34 l0_0 x11_1).f1.f0),.slice A927_2 ((rd_T34 l0_0 x11_1).f1.f1).length c927_2,.slice none 0 0]) ?_ 3 _ rfl;(with_reducible repeat (first|refine kN ?_ _|refine kD ?_|refine kA ?_ _));refine blk_put (cs:=#[.bool ((rd_T34 l0_0 x11_1).f0),.int .i64 ((rd_T34 l0_0 x11_1).f1.f0),.slice none 0 0,.slice none 0 0]) ?_ 2 _ rfl;(with_reducible repeat (first|refine kN ?_ _|refine kD ?_|refine kA ?_ _));refine blk_put (cs:=#[.bool ((rd_T34 l0_0 x11_1).f0),.int .i64 0,.slice none 0 0,.slice none 0 0]) ?_ 1 _ rfl;(with_reducible repeat (first|refine kN ?_ _|refine kD ?_|refine kA ?_ _));refine blk_put (cs:=#[.bool false,.int .i64 0,.slice none 0 0,.slice none 0 0]) ?_ 0 _ rfl;(with_reducible repeat (first|refine kN ?_ _|refine kD ?_|refine kA ?_ _));exact BK928.out,by (with_reducible repeat (first|apply Kd.R_alloc|apply Kd.R_drewN|apply Kd.R_drew));exact Kd.R_mono (Kd.R_far (p:=⟨gb928,3,none⟩) (Kd.R_far (p:=⟨gb928,2,none⟩) (Kd.R_far (p:=⟨gb928,1,none⟩) (Kd.R_far (p:=⟨gb928,0,none⟩) (Kd.R_mono HO_927000.out (fun k_ hk=>(⟨hk,hk.2⟩:_∧k_ ≠ gb928))) (fun _ hk=>hk.2) (.bool ((rd_T34 l0_0 x11_1).f0))) (fun _ hk=>hk.2) (.int .i64 ((rd_T34 l0_0 x11_1).f1.f0))) (fun _ hk=>hk.2) (.slice A927_2 ((rd_T34 l0_0 x11_1).f1.f1).length c927_2)) (fun _ hk=>hk.2) (.slice A927_3 ((rd_T34 l0_0 x11_1).f1.f2).length c927_3)) (fun _ hk=>hk.1),pB⟩ ?_;rintro W1 ⟨hb924,hb925,hb926,hb928,hR1,hB1⟩;have nb924:=Z hb924;have nb925:=Z hb925;have nb926:=Z hb926;have nb928:=Z hb928;have nO:=Z (Kd.R_mono hR1 (fun k_ hk=>(⟨trivial,hk.2⟩:True∧k_ ≠ gb928)));have nB:=Z hB1;clear BK924 BK925 BK926 BK928 HO_927000 HB hb924 hb925 hb926 hb928 hR1 hB1;have BK924:=nb924;have BK925:=nb925;have BK926:=nb926;have BK928:=nb928;have HO_927000:=nO;have HB:=nB;clear nO nB nb924 nb925 nb926 nb928;clear hcz19_0;clear hcz19_1;clear hcz19_2;clear hcz19_3;clear hfz19_0;clear hfz19_1;clear hfz19_2;clear hfz19_3;have hcz19_0:W1.cell? ⟨gb928,0,none⟩=some (.bool ((rd_T34 l0_0 x11_1).f0)):=(kC BK928.out 0).trans rfl;have hcz19_1:W1.cell? ⟨gb928,1,none⟩=some (.int .i64 ((rd_T34 l0_0 x11_1).f1.f0)):=(kC BK928.out 1).trans rfl;have hcz19_2:W1.cell? ⟨gb928,2,none⟩=some (.slice A927_2 ((rd_T34 l0_0 x11_1).f1.f1).length c927_2):=(kC BK928.out 2).trans rfl;have hcz19_3:W1.cell? ⟨gb928,3,none⟩=some (.slice A927_3 ((rd_T34 l0_0 x11_1).f1.f2).length c927_3):=(kC BK928.out 3).trans rfl;have hfz19_0:=kF BK928.out 0;have hfz19_1:=kF BK928.out 1;have hfz19_2:=kF BK928.out 2;have hfz19_3:=kF BK928.out 3;have hnb20:=NB926_924.out;have hnc20:=NB924_926.out;have hnb21:=NB926_925.out;have hnc21:=NB925_926.out;have hcz22_0:W1.cell? ⟨gb926,0,none⟩=some (u927000):=(kC BK926.out 0).trans rfl;have hfz22_0:=kF BK926.out 0)|((with_reducible refine gate_builtin (b:=.append) (xs:=#[.tmp 35,.tmp 37]) rfl ?_);at_builtin;refine Kd.R_append k34 (w0:=w) w.heap.size rfl (.tmp 35) (.tmp 37) 25 34 (.agg #[(.bool false),(.int .i64 0),(.slice none 0 0),(.slice none 0 0)]) 64 rfl Try.underlying25 info34 rfl (by decide) (by omega) u927000 x927000_1 (⟨false,(⟨0,([]:List Int),([]:List (S32))⟩:S32)⟩:S34) [.bool false,.int .i64 0,.slice none 0 0,.slice none 0 0] (fun k_=>k_ ≠ gb928) (fun k_=>((fun k_=>k_ ≠ gb928)) k_∧some k_ ≠ (u927000:Value).ownBlock) rfl (by first|(go_simp;done)|(go_simp;rfl)) ?aP (fun _ hk=>hk) ?aF ?aO ?aB ?aS ?aL ?_;(case aP=>exact k34_mkM _ _ _ (⟨false,(⟨0,([]:List Int),([]:List (S32))⟩:S32)⟩:S34) (Kd.R_nil _ _ _ _ _) (Kd.R_nil _ _ _ _ _));(case aB=>exact pB);(case aF=>exact (fun k_ hk=>Kd.freshB (g:=gb928) (o:=.cells #[.bool false,.int .i64 0,.slice none 0 0,.slice none 0 0] 34 (0,0)) (by (with_reducible repeat (first|refine kN ?_ _|refine kD ?_|refine kA ?_ _));refine blk_put (cs:=#[.bool false,.int .i64 0,.slice none 0 0,.slice A927_3 ((rd_T34 l0_0 x11_1).f1.f2).length c927_3]) ?_ 3 _ rfl;(with_reducible repeat (first|refine kN ?_ _|refine kD ?_|refine kA ?_ _));refine blk_put (cs:=#[.bool false,.int .i64 0,.slice A927_2 ((rd_T34 l0_0 x11_1).f1.f1).length c927_2,.slice A927_3 ((rd_T34 l0_0 x11_1).f1.f2).length c927_3]) ?_ 2 _ rfl;(with_reducible repeat (first|refine kN ?_ _|refine kD ?_|refine kA ?_ _));refine blk_put (cs:=#[.bool false,.int .i64 ((rd_T34 l0_0 x11_1).f1.f0),.slice A927_2 ((rd_T34 l0_0 x11_1).f1.f1).length c927_2,.slice A927_3 ((rd_T34 l0_0 x11_1).f1.f2).length c927_3]) ?_ 1 _ rfl;(with_reducible repeat (first|refine kN ?_ _|refine kD ?_|refine kA ?_ _));refine blk_put (cs:=#[.bool ((rd_T34 l0_0 x11_1).f0),.int .i64 ((rd_T34 l0_0 x11_1).f1.f0),.slice A927_2 ((rd_T34 l0_0 x11_1).f1.f1).length c927_2,.slice A927_3 ((rd_T34 l0_0 x11_1).f1.f2).length c927_3]) ?_ 0 _ rfl;(with_reducible repeat (first|refine kN ?_ _|refine kD ?_|refine kA ?_ _));exact BK928.out) k_ hk));(case aO=>exact (by (with_reducible repeat (first|apply Kd.R_alloc|apply Kd.R_drewN|apply Kd.R_drew));exact Kd.R_mono (Kd.R_far (p:=⟨gb928,3,none⟩) (Kd.R_far (p:=⟨gb928,2,none⟩) (Kd.R_far (p:=⟨gb928,1,none⟩) (Kd.R_far (p:=⟨gb928,0,none⟩) (Kd.R_mono HO_927000.out (fun k_ hk=>(⟨hk,hk.2⟩:_∧k_ ≠ gb928))) (fun _ hk=>hk.2) (.bool false)) (fun _ hk=>hk.2) (.int .i64 0)) (fun _ hk=>hk.2) (.slice none 0 0)) (fun _ hk=>hk.2) (.slice none 0 0)) (fun _ hk=>hk.1.2)));(case aS=>exact (below_size pB));(case aL=>have:=LMc14.out;omega);intro v931 w23 ho hb hg hat;rw [← Ny930.out] at ho;have n0_:=Z (blk_grown (g:=gb924) (o:=.cells #[.slice (some ad927) l0_0.length c0_0] 27 (0,0)) (by (with_reducible repeat (first|refine kN ?_ _|refine kD ?_|refine kA ?_ _));refine blk_far ?_ NB924_928.out _;(with_reducible repeat (first|refine kN ?_ _|refine kD ?_|refine kA ?_ _));refine blk_far ?_ NB924_928.out _;(with_reducible repeat (first|refine kN ?_ _|refine kD ?_|refine kA ?_ _));refine blk_far ?_ NB924_928.out _;(with_reducible repeat (first|refine kN ?_ _|refine kD ?_|refine kA ?_ _));refine blk_far ?_ NB924_928.out _;(with_reducible repeat (first|refine kN ?_ _|refine kD ?_|refine kA ?_ _));exact BK924.out) hg (Kd.R_ne HO_927000.out BK924.out (by decide)));have n1_:=Z (blk_grown (g:=gb925) (o:=.cells #[.slice none 0 0] 27 (0,0)) (by (with_reducible repeat (first|refine kN ?_ _|refine kD ?_|refine kA ?_ _));refine blk_far ?_ NB925_928.out _;(with_reducible repeat (first|refine kN ?_ _|refine kD ?_|refine kA ?_ _));refine blk_far ?_ NB925_928.out _;(with_reducible repeat (first|refine kN ?_ _|refine kD ?_|refine kA ?_ _));refine blk_far ?_ NB925_928.out _;(with_reducible repeat (first|refine kN ?_ _|refine kD ?_|refine kA ?_ _));refine blk_far ?_ NB925_928.out _;(with_reducible repeat (first|refine kN ?_ _|refine kD ?_|refine kA ?_ _));exact BK925.out) hg (Kd.R_ne HO_927000.out BK925.out (by decide)));have n2_:=Z (blk_grown (g:=gb926) (o:=.cells #[u927000] 27 (0,0)) (by (with_reducible repeat (first|refine kN ?_ _|refine kD ?_|refine kA ?_ _));refine blk_far ?_ NB926_928.out _;(with_reducible repeat (first|refine kN ?_ _|refine kD ?_|refine kA ?_ _));refine blk_far ?_ NB926_928.out _;(with_reducible repeat (first|refine kN ?_ _|refine kD ?_|refine kA ?_ _));refine blk_far ?_ NB926_928.out _;(with_reducible repeat (first|refine kN ?_ _|refine kD ?_|refine kA ?_ _));refine blk_far ?_ NB926_928.out _;(with_reducible repeat (first|refine kN ?_ _|refine kD ?_|refine kA ?_ _));exact BK926.out) hg (Kd.R_ne HO_927000.out BK926.out (by decide)));have n3_:=Z (blk_grown (g:=gb928) (o:=.cells #[.bool false,.int .i64 0,.slice none 0 0,.slice none 0 0] 34 (0,0)) (by (with_reducible repeat (first|refine kN ?_ _|refine kD ?_|refine kA ?_ _));refine blk_put (cs:=#[.bool false,.int .i64 0,.slice none 0 0,.slice A927_3 ((rd_T34 l0_0 x11_1).f1.f2).length c927_3]) ?_ 3 _ rfl;(with_reducible repeat (first|refine kN ?_ _|refine kD ?_|refine kA ?_ _));refine blk_put (cs:=#[.bool false,.int .i64 0,.slice A927_2 ((rd_T34 l0_0 x11_1).f1.f1).length c927_2,.slice A927_3 ((rd_T34 l0_0 x11_1).f1.f2).length c927_3]) ?_ 2 _ rfl;(with_reducible repeat (first|refine kN ?_ _|refine kD ?_|refine kA ?_ _));refine blk_put (cs:=#[.bool false,.int .i64 ((rd_T34 l0_0 x11_1).f1.f0),.slice A927_2 ((rd_T34 l0_0 x11_1).f1.f1).length c927_2,.slice A927_3 ((rd_T34 l0_0 x11_1).f1.f2).length c927_3]) ?_ 1 _ rfl;(with_reducible repeat (first|refine kN ?_ _|refine kD ?_|refine kA ?_ _));refine blk_put (cs:=#[.bool ((rd_T34 l0_0 x11_1).f0),.int .i64 ((rd_T34 l0_0 x11_1).f1.f0),.slice A927_2 ((rd_T34 l0_0 x11_1).f1.f1).length c927_2,.slice A927_3 ((rd_T34 l0_0 x11_1).f1.f2).length c927_3]) ?_ 0 _ rfl;(with_reducible repeat (first|refine kN ?_ _|refine kD ?_|refine kA ?_ _));exact BK928.out) hg (Kd.R_away HO_927000.out (fun _ hk=>hk.2)));have n4_:=Z (hb);have n5_:=Z (ho);clear BK924;clear BK925;clear BK926;clear BK928;clear HB;clear HO_927000;have BK924:=n0_;have BK925:=n1_;have BK926:=n2_;have BK928:=n3_;have HB:=n4_;have HO932:=n5_;clear n0_ n1_ n2_ n3_ n4_ n5_;clear ho hb hg hat;obtain ⟨Ao24,co24,eo24⟩:=Kd.R_slice HO932.out;subst eo24;have hcz25_0:w23.cell? ⟨gb926,0,none⟩=some (u927000):=(kC BK926.out 0).trans rfl;have hfz25_0:=kF BK926.out 0))
        go_roundg k1
        case measure=>have:=HK1.out;omega
        case rel=>exact ⟨(wrap64 (x11_1+1)),(y930),(.slice Ao24 y930.length co24),pE,H',⟨by have:=HK1.out;omega⟩,⟨by (with_reducible repeat (first|apply Kd.R_alloc|apply Kd.R_drewN|apply Kd.R_drew));exact Kd.R_mono (Kd.R_far (p:=⟨gb926,0,none⟩) (Kd.R_types HO932.out BK926.out (by decide)) (fun _ hk=>hk.2) (.slice Ao24 y930.length co24)) (fun _ hk=>trivial)⟩,⟨by (with_reducible repeat (first|refine kN ?_ _|refine kD ?_|refine kA ?_ _));refine blk_far ?_ NB924_926.out _;(with_reducible repeat (first|refine kN ?_ _|refine kD ?_|refine kA ?_ _));exact BK924.out⟩,⟨by (with_reducible repeat (first|refine kN ?_ _|refine kD ?_|refine kA ?_ _));refine blk_far ?_ NB925_926.out _;(with_reducible repeat (first|refine kN ?_ _|refine kD ?_|refine kA ?_ _));exact BK925.out⟩,⟨by (with_reducible repeat (first|refine kN ?_ _|refine kD ?_|refine kA ?_ _));refine blk_put (cs:=#[u927000]) ?_ 0 _ rfl;(with_reducible repeat (first|refine kN ?_ _|refine kD ?_|refine kA ?_ _));exact BK926.out⟩,⟨pB⟩⟩
       ·rw [if_neg c14] at H
        exact absurd H (by simp)
      ·replace c13:=Bool.eq_false_iff.mpr c13
       subst c13
       rw [if_neg (show ¬ (false=true) by decide)] at H
       obtain ⟨bq26,hbq26⟩:∃ b_:Bool,b_=((rd_T34 l0_0 x11_1).f0):=⟨_,rfl⟩
       replace H:(if bq26=true then ((deletion_Trust.f k1 ((rd_T34 l0_0 x11_1).f1.f0) ((rd_T34 l0_0 x11_1).f1.f1) ((rd_T34 l0_0 x11_1).f1.f2) x11_1 a1).bind fun bt933=>(if x927000_1.length < 2199023255552 then (deletion_Delete.l0 k1 a1 l0_0 (l0_0.length:Int) (wrap64 (x11_1+1)) (x927000_1++[(⟨bq26,(⟨bt933.1,bt933.2.1,bt933.2.2⟩:S32)⟩:S34)])) else (none))) else ((deletion_copied.f ((rd_T34 l0_0 x11_1).f1.f0) ((rd_T34 l0_0 x11_1).f1.f1) ((rd_T34 l0_0 x11_1).f1.f2)).bind fun bt943=>(if x927000_1.length < 2199023255552 then (deletion_Delete.l0 k1 a1 l0_0 (l0_0.length:Int) (wrap64 (x11_1+1)) (x927000_1++[(⟨bq26,(⟨bt943.1,bt943.2.1,bt943.2.2⟩:S32)⟩:S34)])) else (none))))=some r:=by rw [← hbq26] at H;exact H
       have Nbq26:=Z hbq26
       clear hbq26
       by_cases c27:bq26=true
       ·subst c27
        rw [if_pos rfl] at H
        replace H:=Option.bind_eq_some_iff.mp H
        obtain ⟨⟨t933,t934,t937⟩,A280,H⟩:=H
        try dsimp only at H
        have A28:=Z A280
        clear A280
        by_cases c29:x927000_1.length < 2199023255552
        ·rw [if_pos c29] at H
         have LMc29:=Z c29
         clear c29
         obtain ⟨y940,hy940⟩:∃ y_:List (S34),y_=(x927000_1++[(⟨true,(⟨t933,t934,t937⟩:S32)⟩:S34)]):=⟨_,rfl⟩
         first|rw [← hy940] at H|(replace H:=(Option.bind_some _ _).symm.trans H;rw [← hy940] at H)
         have Ny940:=Z hy940
         clear hy940
         have H':=Z H
         clear H
         have p927:0≤(x11_1:Int):=of_decide_eq_true (by first|(with_reducible assumption)|assumption)
         have q927:x11_1 < (l0_0.length:Int):=of_decide_eq_true (by first|(with_reducible assumption)|assumption)
         obtain ⟨ad927,A927_2,c927_2,A927_3,c927_3,e927,hx927_0,hx927_1,hx927_2,hx927_3,hl927_2,hi927_2,hl927_3,hi927_3⟩:=at_T34 HR0_0.out x11_1 p927 q927
         (try rw [← Nbq26.out] at hx927_0)
         cases e927
         replace hx927_0:=(HB.out.cell (World.block_lt_of_cell? w _ hx927_0)).trans hx927_0
         replace hx927_1:=(HB.out.cell (World.block_lt_of_cell? w _ hx927_1)).trans hx927_1
         replace hx927_2:=(HB.out.cell (World.block_lt_of_cell? w _ hx927_2)).trans hx927_2
         replace hx927_3:=(HB.out.cell (World.block_lt_of_cell? w _ hx927_3)).trans hx927_3
         have HR927_2:=Z hi927_2
         have HC927_2:=Z hl927_2
         clear hi927_2 hl927_2
         have HR927_3:=Z hi927_3
         have HC927_3:=Z hl927_3
         clear hi927_3 hl927_3
         replace p927:=eq_true p927
         replace q927:=eq_true q927
         go_wp2_with (first|((with_reducible refine gate_dst (N:=7) rfl ?_);refine box_event ?hg (N:=7) ?hd (cs:=#[.bool false,.int .i64 0,.slice none 0 0,.slice none 0 0]) (t:=34) ?hr ?_;(case hd=>rfl);(case hg=>rfl);(case hr=>first|(go_simp;done)|(go_simp;rfl));intro gb928 hg w30 hbox hb;have n0_:=Z (Kd.R_below (Kd.R_elderB (pR HO_927000) gb928 (Nat.le_of_eq hg.symm)) hb);have n1_:=Z (blk_below (g:=gb924) (o:=.cells #[.slice (some ad927) l0_0.length c0_0] 27 (0,0)) (pK BK924) hb);have n2_:=Z (blk_below (g:=gb925) (o:=.cells #[.slice none 0 0] 27 (0,0)) (pK BK925) hb);have n3_:=Z (blk_below (g:=gb926) (o:=.cells #[u927000] 27 (0,0)) (pK BK926) hb);have n4_:=Z (below_step pB hb);have n5_:=Z (hbox);have n6_:=Z ((pT hg:w.heap.size≤gb928));have n7_:=Z ((pT hg:w.heap.size≤gb928));have n8_:=Z ((pL hg (pK BK924):gb924 ≠ gb928));have n9_:=Z ((pM hg (pK BK924):gb928 ≠ gb924));have n10_:=Z ((pL hg (pK BK925):gb925 ≠ gb928));have n11_:=Z ((pM hg (pK BK925):gb928 ≠ gb925));have n12_:=Z ((pL hg (pK BK926):gb926 ≠ gb928));have n13_:=Z ((pM hg (pK BK926):gb928 ≠ gb926));clear HO_927000;clear BK924;clear BK925;clear BK926;clear HB;have HO_927000:=n0_;have BK924:=n1_;have BK925:=n2_;have BK926:=n3_;have HB:=n4_;have BK928:=n5_;have GW928:=n6_;have GE928:=n7_;have NB924_928:=n8_;have NB928_924:=n9_;have NB925_928:=n10_;have NB928_925:=n11_;have NB926_928:=n12_;have NB928_926:=n13_;clear n0_ n1_ n2_ n3_ n4_ n5_ n6_ n7_ n8_ n9_ n10_ n11_ n12_ n13_;clear hb hbox hg;have hnb31:=NB928_924.out;have hnc31:=NB924_928.out;have hnb32:=NB928_925.out;have hnc32:=NB925_928.out;have hnb33:=NB928_926.out;have hnc33:=NB926_928.out;have hcz34_0:w30.cell? ⟨gb928,0,none⟩=some (.bool false):=(kC BK928.out 0).trans rfl;have hcz34_1:w30.cell? ⟨gb928,1,none⟩=some (.int .i64 0):=(kC BK928.out 1).trans rfl;have hcz34_2:w30.cell? ⟨gb928,2,none⟩=some (.slice none 0 0):=(kC BK928.out 2).trans rfl;have hcz34_3:w30.cell? ⟨gb928,3,none⟩=some (.slice none 0 0):=(kC BK928.out 3).trans rfl;have hfz34_0:=kF BK928.out 0;have hfz34_1:=kF BK928.out 1;have hfz34_2:=kF BK928.out 2;have hfz34_3:=kF BK928.out 3)|((with_reducible refine gate_callee (f:=60) rfl ?_);refine goesL_ (some 23) rfl rfl Try.func60 (by kernel_rfl) rfl #[.int .i64 a1,.int .i64 x11_1] rfl pG ?_;(with_reducible refine (nodeset_Has.calls a1 x11_1 false _ A12.out).mono ?_);rintro e w' ⟨rfl,⟨nd,rfl⟩⟩;refine ⟨_,rfl,?_⟩)|((with_reducible refine gate_callee (f:=122) rfl ?_);refine goesL_ (some 32) rfl rfl Try.func122 (by kernel_rfl) rfl #[.agg #[.int .i64 ((rd_T34 l0_0 x11_1).f1.f0),.slice A927_2 ((rd_T34 l0_0 x11_1).f1.f1).length c927_2,.slice A927_3 ((rd_T34 l0_0 x11_1).f1.f2).length c927_3],.int .i64 x11_1,.int .i64 a1] rfl pG ?_;(with_reducible refine (deletion_Trust.calls k1 ((rd_T34 l0_0 x11_1).f1.f0) _ _ ((rd_T34 l0_0 x11_1).f1.f1) _ _ ((rd_T34 l0_0 x11_1).f1.f2) x11_1 a1 t933 t934 t937 _ ?side1 ?side2 ?side3 ?side4 A28.out).mono ?_);(case side1=>exact Kd.C_below HR927_2.out pB);(case side2=>exact HC927_2.out);(case side3=>exact Kd.C_below HR927_3.out pB);(case side4=>exact HC927_3.out);rintro e w35 ⟨v935,v938,rfl,ho0,ho1,hb⟩;refine ⟨_,rfl,?_⟩;have n0_:=Z (Kd.R_mono (Kd.R_told (Kd.R_told (Kd.R_old (by (with_reducible repeat (first|apply Kd.R_alloc|apply Kd.R_drewN|apply Kd.R_drew));exact (Kd.R_mono (Kd.R_far (p:=⟨gb928,3,none⟩) (Kd.R_far (p:=⟨gb928,2,none⟩) (Kd.R_far (p:=⟨gb928,1,none⟩) (Kd.R_far (p:=⟨gb928,0,none⟩) (Kd.R_mono HO_927000.out (fun k_ hk=>(⟨hk,hk.2⟩:_∧k_ ≠ gb928))) (fun _ hk=>hk.2) (.bool true)) (fun _ hk=>hk.2) (.int .i64 ((rd_T34 l0_0 x11_1).f1.f0))) (fun _ hk=>hk.2) (.slice A927_2 ((rd_T34 l0_0 x11_1).f1.f1).length c927_2)) (fun _ hk=>hk.2) (.slice A927_3 ((rd_T34 l0_0 x11_1).f1.f2).length c927_3)) (fun _ h_=>h_.1))) hb) (Kd.R_base ho0)) (Kd.R_base ho1)) (fun _ h_=>h_.1));have n1_:=Z (Kd.R_lower ho0 (below_size pB));have n2_:=Z (Kd.R_lower ho1 (below_size pB));have n3_:=Z (blk_below (g:=gb924) (o:=.cells #[.slice (some ad927) l0_0.length c0_0] 27 (0,0)) (by (with_reducible repeat (first|refine kN ?_ _|refine kD ?_|refine kA ?_ _));refine blk_far ?_ NB924_928.out _;(with_reducible repeat (first|refine kN ?_ _|refine kD ?_|refine kA ?_ _));refine blk_far ?_ NB924_928.out _;(with_reducible repeat (first|refine kN ?_ _|refine kD ?_|refine kA ?_ _));refine blk_far ?_ NB924_928.out _;(with_reducible repeat (first|refine kN ?_ _|refine kD ?_|refine kA ?_ _));refine blk_far ?_ NB924_928.out _;(with_reducible repeat (first|refine kN ?_ _|refine kD ?_|refine kA ?_ _));exact BK924.out) hb);have n4_:=Z (blk_below (g:=gb925) (o:=.cells #[.slice none 0 0] 27 (0,0)) (by (with_reducible repeat (first|refine kN ?_ _|refine kD ?_|refine kA ?_ _));refine blk_far ?_ NB925_928.out _;(with_reducible repeat (first|refine kN ?_ _|refine kD ?_|refine kA ?_ _));refine blk_far ?_ NB925_928.out _;(with_reducible repeat (first|refine kN ?_ _|refine kD ?_|refine kA ?_ _));refine blk_far ?_ NB925_928.out _;(with_reducible repeat (first|refine kN ?_ _|refine kD ?_|refine kA ?_ _));refine blk_far ?_ NB925_928.out _;(with_reducible repeat (first|refine kN ?_ _|refine kD ?_|refine kA ?_ _));exact BK925.out) hb);have n5_:=Z (blk_below (g:=gb926) (o:=.cells #[u927000] 27 (0,0)) (by (with_reducible repeat (first|refine kN ?_ _|refine kD ?_|refine kA ?_ _));refine blk_far ?_ NB926_928.out _;(with_reducible repeat (first|refine kN ?_ _|refine kD ?_|refine kA ?_ _));refine blk_far ?_ NB926_928.out _;(with_reducible repeat (first|refine kN ?_ _|refine kD ?_|refine kA ?_ _));refine blk_far ?_ NB926_928.out _;(with_reducible repeat (first|refine kN ?_ _|refine kD ?_|refine kA ?_ _));refine blk_far ?_ NB926_928.out _;(with_reducible repeat (first|refine kN ?_ _|refine kD ?_|refine kA ?_ _));exact BK926.out) hb);have n6_:=Z (blk_below (g:=gb928) (o:=.cells #[.bool true,.int .i64 ((rd_T34 l0_0 x11_1).f1.f0),.slice A927_2 ((rd_T34 l0_0 x11_1).f1.f1).length c927_2,.slice A927_3 ((rd_T34 l0_0 x11_1).f1.f2).length c927_3] 34 (0,0)) (by (with_reducible repeat (first|refine kN ?_ _|refine kD ?_|refine kA ?_ _));refine blk_put (cs:=#[.bool true,.int .i64 ((rd_T34 l0_0 x11_1).f1.f0),.slice A927_2 ((rd_T34 l0_0 x11_1).f1.f1).length c927_2,.slice none 0 0]) ?_ 3 _ rfl;(with_reducible repeat (first|refine kN ?_ _|refine kD ?_|refine kA ?_ _));refine blk_put (cs:=#[.bool true,.int .i64 ((rd_T34 l0_0 x11_1).f1.f0),.slice none 0 0,.slice none 0 0]) ?_ 2 _ rfl;(with_reducible repeat (first|refine kN ?_ _|refine kD ?_|refine kA ?_ _));refine blk_put (cs:=#[.bool true,.int .i64 0,.slice none 0 0,.slice none 0 0]) ?_ 1 _ rfl;(with_reducible repeat (first|refine kN ?_ _|refine kD ?_|refine kA ?_ _));refine blk_put (cs:=#[.bool false,.int .i64 0,.slice none 0 0,.slice none 0 0]) ?_ 0 _ rfl;(with_reducible repeat (first|refine kN ?_ _|refine kD ?_|refine kA ?_ _));exact BK928.out) hb);have n7_:=Z (below_step pB hb);clear HO_927000;clear BK924;clear BK925;clear BK926;clear BK928;clear HB;have HO_927000:=n0_;have HO936:=n1_;have HO939:=n2_;have BK924:=n3_;have BK925:=n4_;have BK926:=n5_;have BK928:=n6_;have HB:=n7_;clear n0_ n1_ n2_ n3_ n4_ n5_ n6_ n7_;(try clear hb);(try clear hb2);(try clear hk);(try clear hi);(try clear ho0);(try clear ho1);have hcz36_0:w35.cell? ⟨gb928,0,none⟩=some (.bool true):=(kC BK928.out 0).trans rfl;have hcz36_1:w35.cell? ⟨gb928,1,none⟩=some (.int .i64 ((rd_T34 l0_0 x11_1).f1.f0)):=(kC BK928.out 1).trans rfl;have hcz36_2:w35.cell? ⟨gb928,2,none⟩=some (.slice A927_2 ((rd_T34 l0_0 x11_1).f1.f1).length c927_2):=(kC BK928.out 2).trans rfl;have hcz36_3:w35.cell? ⟨gb928,3,none⟩=some (.slice A927_3 ((rd_T34 l0_0 x11_1).f1.f2).length c927_3):=(kC BK928.out 3).trans rfl;have hfz36_0:=kF BK928.out 0;have hfz36_1:=kF BK928.out 1;have hfz36_2:=kF BK928.out 2;have hfz36_3:=kF BK928.out 3;obtain ⟨Ao37,co37,eo37⟩:=Kd.R_slice HO936.out;subst eo37;obtain ⟨Ao38,co38,eo38⟩:=Kd.R_slice HO939.out;subst eo38)|((with_reducible refine gate_store (t:=32) (p:=33) rfl ?_);refine store_event (t:=32) (p:=33) (v:=?vo_w39) (w1:=(((w35.setCell ⟨gb928,1,none⟩ (.int .i64 t933)).setCell ⟨gb928,2,none⟩ (.slice Ao37 t934.length co37)).setCell ⟨gb928,3,none⟩ (.slice Ao38 t937.length co38))) ?hg ?ho ?hn ?hr ?_;(case ho=>rfl);(case hg=>rfl);(case hn=>rfl);(case hr=>first|(go_simp;done)|(go_simp;rfl));intro w39 hw;have n0_:Aside0 (Kd.R k34 34 w39 w.heap.size (fun k_=>some k_ ≠ (.slice Ao37 t934.length co37:Value).ownBlock∧some k_ ≠ (.slice Ao38 t937.length co38:Value).ownBlock∧k_ ≠ gb928) u927000 x927000_1):=⟨(by rw [hw];exact (by (with_reducible repeat (first|apply Kd.R_alloc|apply Kd.R_drewN|apply Kd.R_drew));exact Kd.R_mono (Kd.R_far (p:=⟨gb928,3,none⟩) (Kd.R_far (p:=⟨gb928,2,none⟩) (Kd.R_far (p:=⟨gb928,1,none⟩) (Kd.R_mono HO_927000.out (fun k_ hk=>(⟨hk,hk.1.1.2⟩:_∧k_ ≠ gb928))) (fun _ hk=>hk.2) (.int .i64 t933)) (fun _ hk=>hk.2) (.slice Ao37 t934.length co37)) (fun _ hk=>hk.2) (.slice Ao38 t937.length co38)) (fun _ hk=>⟨hk.1.1.2,⟨hk.1.2,hk.1.1.1.2⟩⟩)))⟩;have n1_:Aside0 (Kd.R (Kd.int .i64) 3 w39 w.heap.size (fun _=>True) (.slice Ao37 t934.length co37) t934):=⟨(by rw [hw];exact (by (with_reducible repeat (first|apply Kd.R_alloc|apply Kd.R_drewN|apply Kd.R_drew));exact Kd.R_mono (Kd.R_far (p:=⟨gb928,3,none⟩) (Kd.R_far (p:=⟨gb928,2,none⟩) (Kd.R_far (p:=⟨gb928,1,none⟩) (Kd.R_types HO936.out BK928.out (by decide)) (fun _ hk=>hk.2) (.int .i64 t933)) (fun _ hk=>hk.2) (.slice Ao37 t934.length co37)) (fun _ hk=>hk.2) (.slice Ao38 t937.length co38)) (fun _ hk=>trivial)))⟩;have n2_:Aside0 (Kd.R k32 32 w39 w.heap.size (fun k_=>some k_ ≠ (.slice Ao37 t934.length co37:Value).ownBlock) (.slice Ao38 t937.length co38) t937):=⟨(by rw [hw];exact (by (with_reducible repeat (first|apply Kd.R_alloc|apply Kd.R_drewN|apply Kd.R_drew));exact Kd.R_mono (Kd.R_far (p:=⟨gb928,3,none⟩) (Kd.R_far (p:=⟨gb928,2,none⟩) (Kd.R_far (p:=⟨gb928,1,none⟩) (Kd.R_types HO939.out BK928.out (by decide)) (fun _ hk=>hk.2) (.int .i64 t933)) (fun _ hk=>hk.2) (.slice Ao37 t934.length co37)) (fun _ hk=>hk.2) (.slice Ao38 t937.length co38)) (fun _ hk=>hk.1)))⟩;have n3_:Aside0 (w39.heap[gb924]?=some (.cells #[.slice (some ad927) l0_0.length c0_0] 27 (0,0))):=⟨(by rw [hw];exact (by (with_reducible repeat (first|refine kN ?_ _|refine kD ?_|refine kA ?_ _));refine blk_far ?_ NB924_928.out _;(with_reducible repeat (first|refine kN ?_ _|refine kD ?_|refine kA ?_ _));refine blk_far ?_ NB924_928.out _;(with_reducible repeat (first|refine kN ?_ _|refine kD ?_|refine kA ?_ _));refine blk_far ?_ NB924_928.out _;(with_reducible repeat (first|refine kN ?_ _|refine kD ?_|refine kA ?_ _));exact BK924.out))⟩;have n4_:Aside0 (w39.heap[gb925]?=some (.cells #[.slice none 0 0] 27 (0,0))):=⟨(by rw [hw];exact (by (with_reducible repeat (first|refine kN ?_ _|refine kD ?_|refine kA ?_ _));refine blk_far ?_ NB925_928.out _;(with_reducible repeat (first|refine kN ?_ _|refine kD ?_|refine kA ?_ _));refine blk_far ?_ NB925_928.out _;(with_reducible repeat (first|refine kN ?_ _|refine kD ?_|refine kA ?_ _));refine blk_far ?_ NB925_928.out _;(with_reducible repeat (first|refine kN ?_ _|refine kD ?_|refine kA ?_ _));exact BK925.out))⟩;have n5_:Aside0 (w39.heap[gb926]?=some (.cells #[u927000] 27 (0,0))):=⟨(by rw [hw];exact (by (with_reducible repeat (first|refine kN ?_ _|refine kD ?_|refine kA ?_ _));refine blk_far ?_ NB926_928.out _;(with_reducible repeat (first|refine kN ?_ _|refine kD ?_|refine kA ?_ _));refine blk_far ?_ NB926_928.out _;(with_reducible repeat (first|refine kN ?_ _|refine kD ?_|refine kA ?_ _));refine blk_far ?_ NB926_928.out _;(with_reducible repeat (first|refine kN ?_ _|refine kD ?_|refine kA ?_ _));exact BK926.out))⟩;have n6_:Aside0 (w39.heap[gb928]?=some (.cells #[.bool true,.int .i64 t933,.slice Ao37 t934.length co37,.slice Ao38 t937.length co38] 34 (0,0))):=⟨(by rw [hw];exact (by (with_reducible repeat (first|refine kN ?_ _|refine kD ?_|refine kA ?_ _));refine blk_put (cs:=#[.bool true,.int .i64 t933,.slice Ao37 t934.length co37,.slice A927_3 ((rd_T34 l0_0 x11_1).f1.f2).length c927_3]) ?_ 3 _ rfl;(with_reducible repeat (first|refine kN ?_ _|refine kD ?_|refine kA ?_ _));refine blk_put (cs:=#[.bool true,.int .i64 t933,.slice A927_2 ((rd_T34 l0_0 x11_1).f1.f1).length c927_2,.slice A927_3 ((rd_T34 l0_0 x11_1).f1.f2).length c927_3]) ?_ 2 _ rfl;(with_reducible repeat (first|refine kN ?_ _|refine kD ?_|refine kA ?_ _));refine blk_put (cs:=#[.bool true,.int .i64 ((rd_T34 l0_0 x11_1).f1.f0),.slice A927_2 ((rd_T34 l0_0 x11_1).f1.f1).length c927_2,.slice A927_3 ((rd_T34 l0_0 x11_1).f1.f2).length c927_3]) ?_ 1 _ rfl;(with_reducible repeat (first|refine kN ?_ _|refine kD ?_|refine kA ?_ _));exact BK928.out))⟩;have n7_:Aside0 (Below w.heap.size w w39):=⟨(by rw [hw];exact pB)⟩;clear hw;clear HO_927000;clear HO936;clear HO939;clear BK924;clear BK925;clear BK926;clear BK928;clear HB;have HO_927000:=n0_;have HO936:=n1_;have HO939:=n2_;have BK924:=n3_;have BK925:=n4_;have BK926:=n5_;have BK928:=n6_;have HB:=n7_;clear n0_ n1_ n2_ n3_ n4_ n5_ n6_ n7_;have hnb40:=NB926_924.out;have hnc40:=NB924_926.out;have hnb41:=NB926_925.out;have hnc41:=NB925_926.out;have hcz42_0:w39.cell? ⟨gb926,0,none⟩=some (u927000):=(kC BK926.out 0).trans rfl;have hfz42_0:=kF BK926.out 0;have hcz43_0:w39.cell? ⟨gb928,0,none⟩=some (.bool true):=(kC BK928.out 0).trans rfl;have hcz43_1:w39.cell? ⟨gb928,1,none⟩=some (.int .i64 t933):=(kC BK928.out 1).trans rfl;have hcz43_2:w39.cell? ⟨gb928,2,none⟩=some (.slice Ao37 t934.length co37):=(kC BK928.out 2).trans rfl;have hcz43_3:w39.cell? ⟨gb928,3,none⟩=some (.slice Ao38 t937.length co38):=(kC BK928.out 3).trans rfl;have hfz43_0:=kF BK928.out 0;have hfz43_1:=kF BK928.out 1;have hfz43_2:=kF BK928.out 2;have hfz43_3:=kF BK928.out 3)|((with_reducible refine gate_builtin (b:=.append) (xs:=#[.tmp 35,.tmp 37]) rfl ?_);at_builtin;refine Kd.R_append k34 (w0:=w) w.heap.size rfl (.tmp 35) (.tmp 37) 25 34 (.agg #[(.bool false),(.int .i64 0),(.slice none 0 0),(.slice none 0 0)]) 64 rfl Try.underlying25 info34 rfl (by decide) (by omega) u927000 x927000_1 (⟨true,(⟨t933,t934,t937⟩:S32)⟩:S34) [.bool true,.int .i64 t933,.slice Ao37 t934.length co37,.slice Ao38 t937.length co38] (fun k_=>k_ ≠ gb928) (fun k_=>((fun k_=>k_ ≠ gb928)) k_∧some k_ ≠ (u927000:Value).ownBlock) rfl rfl ?aP (fun _ hk=>hk) ?aF ?aO ?aB ?aS ?aL ?_;(case aP=>exact k34_mkM _ _ _ (⟨true,(⟨t933,t934,t937⟩:S32)⟩:S34) (Kd.R_mono (Kd.R_types (Kd.R_apart' (HO936.out) (Kd.R_typed HO_927000.out) (by decide)) BK928.out (by decide)) (fun k_ hk=>⟨hk.2,hk.1.2⟩)) (Kd.R_mono (Kd.R_types (Kd.R_apart' (HO939.out) (Kd.R_typed HO_927000.out) (by decide)) BK928.out (by decide)) (fun k_ hk=>⟨hk.2,hk.1.2⟩)));(case aB=>exact pB);(case aF=>exact (fun k_ hk=>Kd.freshB (g:=gb928) (o:=.cells #[.bool true,.int .i64 t933,.slice Ao37 t934.length co37,.slice Ao38 t937.length co38] 34 (0,0)) (pK BK928) k_ hk));(case aO=>exact (by (with_reducible repeat (first|apply Kd.R_alloc|apply Kd.R_drewN|apply Kd.R_drew));exact Kd.R_mono HO_927000.out (fun _ hk=>hk.2.2)));(case aS=>exact (below_size pB));(case aL=>have:=LMc29.out;omega);intro v941 w44 ho hb hg hat;rw [← Ny940.out] at ho;have n0_:=Z (blk_grown (g:=gb924) (o:=.cells #[.slice (some ad927) l0_0.length c0_0] 27 (0,0)) (pK BK924) hg (Kd.R_ne HO_927000.out BK924.out (by decide)));have n1_:=Z (blk_grown (g:=gb925) (o:=.cells #[.slice none 0 0] 27 (0,0)) (pK BK925) hg (Kd.R_ne HO_927000.out BK925.out (by decide)));have n2_:=Z (blk_grown (g:=gb926) (o:=.cells #[u927000] 27 (0,0)) (pK BK926) hg (Kd.R_ne HO_927000.out BK926.out (by decide)));have n3_:=Z (blk_grown (g:=gb928) (o:=.cells #[.bool true,.int .i64 t933,.slice Ao37 t934.length co37,.slice Ao38 t937.length co38] 34 (0,0)) (pK BK928) hg (Kd.R_away HO_927000.out (fun _ hk=>hk.2.2)));have n4_:=Z (hb);have n5_:=Z (ho);clear BK924;clear BK925;clear BK926;clear BK928;clear HB;clear HO_927000;clear HO936;clear HO939;have BK924:=n0_;have BK925:=n1_;have BK926:=n2_;have BK928:=n3_;have HB:=n4_;have HO942:=n5_;clear n0_ n1_ n2_ n3_ n4_ n5_;clear ho hb hg hat;obtain ⟨Ao45,co45,eo45⟩:=Kd.R_slice HO942.out;subst eo45;have hcz46_0:w44.cell? ⟨gb926,0,none⟩=some (u927000):=(kC BK926.out 0).trans rfl;have hfz46_0:=kF BK926.out 0))
         go_roundg k1
         case measure=>have:=HK1.out;omega
         case rel=>exact ⟨(wrap64 (x11_1+1)),(y940),(.slice Ao45 y940.length co45),pE,H',⟨by have:=HK1.out;omega⟩,⟨by (with_reducible repeat (first|apply Kd.R_alloc|apply Kd.R_drewN|apply Kd.R_drew));exact Kd.R_mono (Kd.R_far (p:=⟨gb926,0,none⟩) (Kd.R_types HO942.out BK926.out (by decide)) (fun _ hk=>hk.2) (.slice Ao45 y940.length co45)) (fun _ hk=>trivial)⟩,⟨by (with_reducible repeat (first|refine kN ?_ _|refine kD ?_|refine kA ?_ _));refine blk_far ?_ NB924_926.out _;(with_reducible repeat (first|refine kN ?_ _|refine kD ?_|refine kA ?_ _));exact BK924.out⟩,⟨by (with_reducible repeat (first|refine kN ?_ _|refine kD ?_|refine kA ?_ _));refine blk_far ?_ NB925_926.out _;(with_reducible repeat (first|refine kN ?_ _|refine kD ?_|refine kA ?_ _));exact BK925.out⟩,⟨by (with_reducible repeat (first|refine kN ?_ _|refine kD ?_|refine kA ?_ _));refine blk_put (cs:=#[u927000]) ?_ 0 _ rfl;(with_reducible repeat (first|refine kN ?_ _|refine kD ?_|refine kA ?_ _));exact BK926.out⟩,⟨pB⟩⟩
        ·rw [if_neg c29] at H
         exact absurd H (by simp)
       ·replace c27:=Bool.eq_false_iff.mpr c27
        subst c27
        rw [if_neg (show ¬ (false=true) by decide)] at H
        replace H:=Option.bind_eq_some_iff.mp H
        obtain ⟨⟨t943,t944,t947⟩,A470,H⟩:=H
        try dsimp only at H
        have A47:=Z A470
        clear A470
        by_cases c48:x927000_1.length < 2199023255552
        ·rw [if_pos c48] at H
         have LMc48:=Z c48
         clear c48
         obtain ⟨y950,hy950⟩:∃ y_:List (S34),y_=(x927000_1++[(⟨false,(⟨t943,t944,t947⟩:S32)⟩:S34)]):=⟨_,rfl⟩
         first|rw [← hy950] at H|(replace H:=(Option.bind_some _ _).symm.trans H;rw [← hy950] at H)
         have Ny950:=Z hy950
         clear hy950
         have H':=Z H
         clear H
         have p927:0≤(x11_1:Int):=of_decide_eq_true (by first|(with_reducible assumption)|assumption)
         have q927:x11_1 < (l0_0.length:Int):=of_decide_eq_true (by first|(with_reducible assumption)|assumption)
         obtain ⟨ad927,A927_2,c927_2,A927_3,c927_3,e927,hx927_0,hx927_1,hx927_2,hx927_3,hl927_2,hi927_2,hl927_3,hi927_3⟩:=at_T34 HR0_0.out x11_1 p927 q927
         (try rw [← Nbq26.out] at hx927_0)
         cases e927
         replace hx927_0:=(HB.out.cell (World.block_lt_of_cell? w _ hx927_0)).trans hx927_0
         replace hx927_1:=(HB.out.cell (World.block_lt_of_cell? w _ hx927_1)).trans hx927_1
         replace hx927_2:=(HB.out.cell (World.block_lt_of_cell? w _ hx927_2)).trans hx927_2
         replace hx927_3:=(HB.out.cell (World.block_lt_of_cell? w _ hx927_3)).trans hx927_3
         have HR927_2:=Z hi927_2
         have HC927_2:=Z hl927_2
         clear hi927_2 hl927_2
         have HR927_3:=Z hi927_3
         have HC927_3:=Z hl927_3
         clear hi927_3 hl927_3
         replace p927:=eq_true p927
         replace q927:=eq_true q927
         go_wp2_with (first|((with_reducible refine gate_dst (N:=7) rfl ?_);refine box_event ?hg (N:=7) ?hd (cs:=#[.bool false,.int .i64 0,.slice none 0 0,.slice none 0 0]) (t:=34) ?hr ?_;(case hd=>rfl);(case hg=>rfl);(case hr=>first|(go_simp;done)|(go_simp;rfl));intro gb928 hg w49 hbox hb;have n0_:=Z (Kd.R_below (Kd.R_elderB (pR HO_927000) gb928 (Nat.le_of_eq hg.symm)) hb);have n1_:=Z (blk_below (g:=gb924) (o:=.cells #[.slice (some ad927) l0_0.length c0_0] 27 (0,0)) (pK BK924) hb);have n2_:=Z (blk_below (g:=gb925) (o:=.cells #[.slice none 0 0] 27 (0,0)) (pK BK925) hb);have n3_:=Z (blk_below (g:=gb926) (o:=.cells #[u927000] 27 (0,0)) (pK BK926) hb);have n4_:=Z (below_step pB hb);have n5_:=Z (hbox);have n6_:=Z ((pT hg:w.heap.size≤gb928));have n7_:=Z ((pT hg:w.heap.size≤gb928));have n8_:=Z ((pL hg (pK BK924):gb924 ≠ gb928));have n9_:=Z ((pM hg (pK BK924):gb928 ≠ gb924));have n10_:=Z ((pL hg (pK BK925):gb925 ≠ gb928));have n11_:=Z ((pM hg (pK BK925):gb928 ≠ gb925));have n12_:=Z ((pL hg (pK BK926):gb926 ≠ gb928));have n13_:=Z ((pM hg (pK BK926):gb928 ≠ gb926));clear HO_927000;clear BK924;clear BK925;clear BK926;clear HB;have HO_927000:=n0_;have BK924:=n1_;have BK925:=n2_;have BK926:=n3_;have HB:=n4_;have BK928:=n5_;have GW928:=n6_;have GE928:=n7_;have NB924_928:=n8_;have NB928_924:=n9_;have NB925_928:=n10_;have NB928_925:=n11_;have NB926_928:=n12_;have NB928_926:=n13_;clear n0_ n1_ n2_ n3_ n4_ n5_ n6_ n7_ n8_ n9_ n10_ n11_ n12_ n13_;clear hb hbox hg;have hnb50:=NB928_924.out;have hnc50:=NB924_928.out;have hnb51:=NB928_925.out;have hnc51:=NB925_928.out;have hnb52:=NB928_926.out;have hnc52:=NB926_928.out;have hcz53_0:w49.cell? ⟨gb928,0,none⟩=some (.bool false):=(kC BK928.out 0).trans rfl;have hcz53_1:w49.cell? ⟨gb928,1,none⟩=some (.int .i64 0):=(kC BK928.out 1).trans rfl;have hcz53_2:w49.cell? ⟨gb928,2,none⟩=some (.slice none 0 0):=(kC BK928.out 2).trans rfl;have hcz53_3:w49.cell? ⟨gb928,3,none⟩=some (.slice none 0 0):=(kC BK928.out 3).trans rfl;have hfz53_0:=kF BK928.out 0;have hfz53_1:=kF BK928.out 1;have hfz53_2:=kF BK928.out 2;have hfz53_3:=kF BK928.out 3)|((with_reducible refine gate_callee (f:=60) rfl ?_);refine goesL_ (some 23) rfl rfl Try.func60 (by kernel_rfl) rfl #[.int .i64 a1,.int .i64 x11_1] rfl pG ?_;(with_reducible refine (nodeset_Has.calls a1 x11_1 false _ A12.out).mono ?_);rintro e w' ⟨rfl,⟨nd,rfl⟩⟩;refine ⟨_,rfl,?_⟩)|((with_reducible refine gate_callee (f:=123) rfl ?_);refine goesL_ (some 18) rfl rfl Try.func123 (by kernel_rfl) rfl #[.agg #[.int .i64 ((rd_T34 l0_0 x11_1).f1.f0),.slice A927_2 ((rd_T34 l0_0 x11_1).f1.f1).length c927_2,.slice A927_3 ((rd_T34 l0_0 x11_1).f1.f2).length c927_3]] rfl pG ?_;(with_reducible refine (deletion_copied.calls ((rd_T34 l0_0 x11_1).f1.f0) _ _ ((rd_T34 l0_0 x11_1).f1.f1) _ _ ((rd_T34 l0_0 x11_1).f1.f2) t943 t944 t947 _ ?side1 ?side2 ?side3 ?side4 A47.out).mono ?_);(case side1=>exact Kd.C_below HR927_2.out pB);(case side2=>exact HC927_2.out);(case side3=>exact Kd.C_below HR927_3.out pB);(case side4=>exact HC927_3.out);rintro e w54 ⟨v945,v948,rfl,ho0,ho1,hb⟩;refine ⟨_,rfl,?_⟩;have n0_:=Z (Kd.R_mono (Kd.R_told (Kd.R_told (Kd.R_old (by (with_reducible repeat (first|apply Kd.R_alloc|apply Kd.R_drewN|apply Kd.R_drew));exact (Kd.R_mono (Kd.R_far (p:=⟨gb928,3,none⟩) (Kd.R_far (p:=⟨gb928,2,none⟩) (Kd.R_far (p:=⟨gb928,1,none⟩) (Kd.R_far (p:=⟨gb928,0,none⟩) (Kd.R_mono HO_927000.out (fun k_ hk=>(⟨hk,hk.2⟩:_∧k_ ≠ gb928))) (fun _ hk=>hk.2) (.bool false)) (fun _ hk=>hk.2) (.int .i64 ((rd_T34 l0_0 x11_1).f1.f0))) (fun _ hk=>hk.2) (.slice A927_2 ((rd_T34 l0_0 x11_1).f1.f1).length c927_2)) (fun _ hk=>hk.2) (.slice A927_3 ((rd_T34 l0_0 x11_1).f1.f2).length c927_3)) (fun _ h_=>h_.1))) hb) (Kd.R_base ho0)) (Kd.R_base ho1)) (fun _ h_=>h_.1));have n1_:=Z (Kd.R_lower ho0 (below_size pB));have n2_:=Z (Kd.R_lower ho1 (below_size pB));have n3_:=Z (blk_below (g:=gb924) (o:=.cells #[.slice (some ad927) l0_0.length c0_0] 27 (0,0)) (by (with_reducible repeat (first|refine kN ?_ _|refine kD ?_|refine kA ?_ _));refine blk_far ?_ NB924_928.out _;(with_reducible repeat (first|refine kN ?_ _|refine kD ?_|refine kA ?_ _));refine blk_far ?_ NB924_928.out _;(with_reducible repeat (first|refine kN ?_ _|refine kD ?_|refine kA ?_ _));refine blk_far ?_ NB924_928.out _;(with_reducible repeat (first|refine kN ?_ _|refine kD ?_|refine kA ?_ _));refine blk_far ?_ NB924_928.out _;(with_reducible repeat (first|refine kN ?_ _|refine kD ?_|refine kA ?_ _));exact BK924.out) hb);have n4_:=Z (blk_below (g:=gb925) (o:=.cells #[.slice none 0 0] 27 (0,0)) (by (with_reducible repeat (first|refine kN ?_ _|refine kD ?_|refine kA ?_ _));refine blk_far ?_ NB925_928.out _;(with_reducible repeat (first|refine kN ?_ _|refine kD ?_|refine kA ?_ _));refine blk_far ?_ NB925_928.out _;(with_reducible repeat (first|refine kN ?_ _|refine kD ?_|refine kA ?_ _));refine blk_far ?_ NB925_928.out _;(with_reducible repeat (first|refine kN ?_ _|refine kD ?_|refine kA ?_ _));refine blk_far ?_ NB925_928.out _;(with_reducible repeat (first|refine kN ?_ _|refine kD ?_|refine kA ?_ _));exact BK925.out) hb);have n5_:=Z (blk_below (g:=gb926) (o:=.cells #[u927000] 27 (0,0)) (by (with_reducible repeat (first|refine kN ?_ _|refine kD ?_|refine kA ?_ _));refine blk_far ?_ NB926_928.out _;(with_reducible repeat (first|refine kN ?_ _|refine kD ?_|refine kA ?_ _));refine blk_far ?_ NB926_928.out _;(with_reducible repeat (first|refine kN ?_ _|refine kD ?_|refine kA ?_ _));refine blk_far ?_ NB926_928.out _;(with_reducible repeat (first|refine kN ?_ _|refine kD ?_|refine kA ?_ _));refine blk_far ?_ NB926_928.out _;(with_reducible repeat (first|refine kN ?_ _|refine kD ?_|refine kA ?_ _));exact BK926.out) hb);have n6_:=Z (blk_below (g:=gb928) (o:=.cells #[.bool false,.int .i64 ((rd_T34 l0_0 x11_1).f1.f0),.slice A927_2 ((rd_T34 l0_0 x11_1).f1.f1).length c927_2,.slice A927_3 ((rd_T34 l0_0 x11_1).f1.f2).length c927_3] 34 (0,0)) (by (with_reducible repeat (first|refine kN ?_ _|refine kD ?_|refine kA ?_ _));refine blk_put (cs:=#[.bool false,.int .i64 ((rd_T34 l0_0 x11_1).f1.f0),.slice A927_2 ((rd_T34 l0_0 x11_1).f1.f1).length c927_2,.slice none 0 0]) ?_ 3 _ rfl;(with_reducible repeat (first|refine kN ?_ _|refine kD ?_|refine kA ?_ _));refine blk_put (cs:=#[.bool false,.int .i64 ((rd_T34 l0_0 x11_1).f1.f0),.slice none 0 0,.slice none 0 0]) ?_ 2 _ rfl;(with_reducible repeat (first|refine kN ?_ _|refine kD ?_|refine kA ?_ _));refine blk_put (cs:=#[.bool false,.int .i64 0,.slice none 0 0,.slice none 0 0]) ?_ 1 _ rfl;(with_reducible repeat (first|refine kN ?_ _|refine kD ?_|refine kA ?_ _));refine blk_put (cs:=#[.bool false,.int .i64 0,.slice none 0 0,.slice none 0 0]) ?_ 0 _ rfl;(with_reducible repeat (first|refine kN ?_ _|refine kD ?_|refine kA ?_ _));exact BK928.out) hb);have n7_:=Z (below_step pB hb);clear HO_927000;clear BK924;clear BK925;clear BK926;clear BK928;clear HB;have HO_927000:=n0_;have HO946:=n1_;have HO949:=n2_;have BK924:=n3_;have BK925:=n4_;have BK926:=n5_;have BK928:=n6_;have HB:=n7_;clear n0_ n1_ n2_ n3_ n4_ n5_ n6_ n7_;(try clear hb);(try clear hb2);(try clear hk);(try clear hi);(try clear ho0);(try clear ho1);have hcz55_0:w54.cell? ⟨gb928,0,none⟩=some (.bool false):=(kC BK928.out 0).trans rfl;have hcz55_1:w54.cell? ⟨gb928,1,none⟩=some (.int .i64 ((rd_T34 l0_0 x11_1).f1.f0)):=(kC BK928.out 1).trans rfl;have hcz55_2:w54.cell? ⟨gb928,2,none⟩=some (.slice A927_2 ((rd_T34 l0_0 x11_1).f1.f1).length c927_2):=(kC BK928.out 2).trans rfl;have hcz55_3:w54.cell? ⟨gb928,3,none⟩=some (.slice A927_3 ((rd_T34 l0_0 x11_1).f1.f2).length c927_3):=(kC BK928.out 3).trans rfl;have hfz55_0:=kF BK928.out 0;have hfz55_1:=kF BK928.out 1;have hfz55_2:=kF BK928.out 2;have hfz55_3:=kF BK928.out 3;obtain ⟨Ao56,co56,eo56⟩:=Kd.R_slice HO946.out;subst eo56;obtain ⟨Ao57,co57,eo57⟩:=Kd.R_slice HO949.out;subst eo57)|((with_reducible refine gate_store (t:=32) (p:=19) rfl ?_);refine store_event (t:=32) (p:=19) (v:=?vo_w58) (w1:=(((w54.setCell ⟨gb928,1,none⟩ (.int .i64 t943)).setCell ⟨gb928,2,none⟩ (.slice Ao56 t944.length co56)).setCell ⟨gb928,3,none⟩ (.slice Ao57 t947.length co57))) ?hg ?ho ?hn ?hr ?_;(case ho=>rfl);(case hg=>rfl);(case hn=>rfl);(case hr=>first|(go_simp;done)|(go_simp;rfl));intro w58 hw;have n0_:Aside0 (Kd.R k34 34 w58 w.heap.size (fun k_=>some k_ ≠ (.slice Ao56 t944.length co56:Value).ownBlock∧some k_ ≠ (.slice Ao57 t947.length co57:Value).ownBlock∧k_ ≠ gb928) u927000 x927000_1):=⟨(by rw [hw];exact (by (with_reducible repeat (first|apply Kd.R_alloc|apply Kd.R_drewN|apply Kd.R_drew));exact Kd.R_mono (Kd.R_far (p:=⟨gb928,3,none⟩) (Kd.R_far (p:=⟨gb928,2,none⟩) (Kd.R_far (p:=⟨gb928,1,none⟩) (Kd.R_mono HO_927000.out (fun k_ hk=>(⟨hk,hk.1.1.2⟩:_∧k_ ≠ gb928))) (fun _ hk=>hk.2) (.int .i64 t943)) (fun _ hk=>hk.2) (.slice Ao56 t944.length co56)) (fun _ hk=>hk.2) (.slice Ao57 t947.length co57)) (fun _ hk=>⟨hk.1.1.2,⟨hk.1.2,hk.1.1.1.2⟩⟩)))⟩;have n1_:Aside0 (Kd.R (Kd.int .i64) 3 w58 w.heap.size (fun _=>True) (.slice Ao56 t944.length co56) t944):=⟨(by rw [hw];exact (by (with_reducible repeat (first|apply Kd.R_alloc|apply Kd.R_drewN|apply Kd.R_drew));exact Kd.R_mono (Kd.R_far (p:=⟨gb928,3,none⟩) (Kd.R_far (p:=⟨gb928,2,none⟩) (Kd.R_far (p:=⟨gb928,1,none⟩) (Kd.R_types HO946.out BK928.out (by decide)) (fun _ hk=>hk.2) (.int .i64 t943)) (fun _ hk=>hk.2) (.slice Ao56 t944.length co56)) (fun _ hk=>hk.2) (.slice Ao57 t947.length co57)) (fun _ hk=>trivial)))⟩;have n2_:Aside0 (Kd.R k32 32 w58 w.heap.size (fun k_=>some k_ ≠ (.slice Ao56 t944.length co56:Value).ownBlock) (.slice Ao57 t947.length co57) t947):=⟨(by rw [hw];exact (by (with_reducible repeat (first|apply Kd.R_alloc|apply Kd.R_drewN|apply Kd.R_drew));exact Kd.R_mono (Kd.R_far (p:=⟨gb928,3,none⟩) (Kd.R_far (p:=⟨gb928,2,none⟩) (Kd.R_far (p:=⟨gb928,1,none⟩) (Kd.R_types HO949.out BK928.out (by decide)) (fun _ hk=>hk.2) (.int .i64 t943)) (fun _ hk=>hk.2) (.slice Ao56 t944.length co56)) (fun _ hk=>hk.2) (.slice Ao57 t947.length co57)) (fun _ hk=>hk.1)))⟩;have n3_:Aside0 (w58.heap[gb924]?=some (.cells #[.slice (some ad927) l0_0.length c0_0] 27 (0,0))):=⟨(by rw [hw];exact (by (with_reducible repeat (first|refine kN ?_ _|refine kD ?_|refine kA ?_ _));refine blk_far ?_ NB924_928.out _;(with_reducible repeat (first|refine kN ?_ _|refine kD ?_|refine kA ?_ _));refine blk_far ?_ NB924_928.out _;(with_reducible repeat (first|refine kN ?_ _|refine kD ?_|refine kA ?_ _));refine blk_far ?_ NB924_928.out _;(with_reducible repeat (first|refine kN ?_ _|refine kD ?_|refine kA ?_ _));exact BK924.out))⟩;have n4_:Aside0 (w58.heap[gb925]?=some (.cells #[.slice none 0 0] 27 (0,0))):=⟨(by rw [hw];exact (by (with_reducible repeat (first|refine kN ?_ _|refine kD ?_|refine kA ?_ _));refine blk_far ?_ NB925_928.out _;(with_reducible repeat (first|refine kN ?_ _|refine kD ?_|refine kA ?_ _));refine blk_far ?_ NB925_928.out _;(with_reducible repeat (first|refine kN ?_ _|refine kD ?_|refine kA ?_ _));refine blk_far ?_ NB925_928.out _;(with_reducible repeat (first|refine kN ?_ _|refine kD ?_|refine kA ?_ _));exact BK925.out))⟩;have n5_:Aside0 (w58.heap[gb926]?=some (.cells #[u927000] 27 (0,0))):=⟨(by rw [hw];exact (by (with_reducible repeat (first|refine kN ?_ _|refine kD ?_|refine kA ?_ _));refine blk_far ?_ NB926_928.out _;(with_reducible repeat (first|refine kN ?_ _|refine kD ?_|refine kA ?_ _));refine blk_far ?_ NB926_928.out _;(with_reducible repeat (first|refine kN ?_ _|refine kD ?_|refine kA ?_ _));refine blk_far ?_ NB926_928.out _;(with_reducible repeat (first|refine kN ?_ _|refine kD ?_|refine kA ?_ _));exact BK926.out))⟩;have n6_:Aside0 (w58.heap[gb928]?=some (.cells #[.bool false,.int .i64 t943,.slice Ao56 t944.length co56,.slice Ao57 t947.length co57] 34 (0,0))):=⟨(by rw [hw];exact (by (with_reducible repeat (first|refine kN ?_ _|refine kD ?_|refine kA ?_ _));refine blk_put (cs:=#[.bool false,.int .i64 t943,.slice Ao56 t944.length co56,.slice A927_3 ((rd_T34 l0_0 x11_1).f1.f2).length c927_3]) ?_ 3 _ rfl;(with_reducible repeat (first|refine kN ?_ _|refine kD ?_|refine kA ?_ _));refine blk_put (cs:=#[.bool false,.int .i64 t943,.slice A927_2 ((rd_T34 l0_0 x11_1).f1.f1).length c927_2,.slice A927_3 ((rd_T34 l0_0 x11_1).f1.f2).length c927_3]) ?_ 2 _ rfl;(with_reducible repeat (first|refine kN ?_ _|refine kD ?_|refine kA ?_ _));refine blk_put (cs:=#[.bool false,.int .i64 ((rd_T34 l0_0 x11_1).f1.f0),.slice A927_2 ((rd_T34 l0_0 x11_1).f1.f1).length c927_2,.slice A927_3 ((rd_T34 l0_0 x11_1).f1.f2).length c927_3]) ?_ 1 _ rfl;(with_reducible repeat (first|refine kN ?_ _|refine kD ?_|refine kA ?_ _));exact BK928.out))⟩;have n7_:Aside0 (Below w.heap.size w w58):=⟨(by rw [hw];exact pB)⟩;clear hw;clear HO_927000;clear HO946;clear HO949;clear BK924;clear BK925;clear BK926;clear BK928;clear HB;have HO_927000:=n0_;have HO946:=n1_;have HO949:=n2_;have BK924:=n3_;have BK925:=n4_;have BK926:=n5_;have BK928:=n6_;have HB:=n7_;clear n0_ n1_ n2_ n3_ n4_ n5_ n6_ n7_;have hnb59:=NB926_924.out;have hnc59:=NB924_926.out;have hnb60:=NB926_925.out;have hnc60:=NB925_926.out;have hcz61_0:w58.cell? ⟨gb926,0,none⟩=some (u927000):=(kC BK926.out 0).trans rfl;have hfz61_0:=kF BK926.out 0;have hcz62_0:w58.cell? ⟨gb928,0,none⟩=some (.bool false):=(kC BK928.out 0).trans rfl;have hcz62_1:w58.cell? ⟨gb928,1,none⟩=some (.int .i64 t943):=(kC BK928.out 1).trans rfl;have hcz62_2:w58.cell? ⟨gb928,2,none⟩=some (.slice Ao56 t944.length co56):=(kC BK928.out 2).trans rfl;have hcz62_3:w58.cell? ⟨gb928,3,none⟩=some (.slice Ao57 t947.length co57):=(kC BK928.out 3).trans rfl;have hfz62_0:=kF BK928.out 0;have hfz62_1:=kF BK928.out 1;have hfz62_2:=kF BK928.out 2;have hfz62_3:=kF BK928.out 3)|((with_reducible refine gate_builtin (b:=.append) (xs:=#[.tmp 35,.tmp 37]) rfl ?_);at_builtin;refine Kd.R_append k34 (w0:=w) w.heap.size rfl (.tmp 35) (.tmp 37) 25 34 (.agg #[(.bool false),(.int .i64 0),(.slice none 0 0),(.slice none 0 0)]) 64 rfl Try.underlying25 info34 rfl (by decide) (by omega) u927000 x927000_1 (⟨false,(⟨t943,t944,t947⟩:S32)⟩:S34) [.bool false,.int .i64 t943,.slice Ao56 t944.length co56,.slice Ao57 t947.length co57] (fun k_=>k_ ≠ gb928) (fun k_=>((fun k_=>k_ ≠ gb928)) k_∧some k_ ≠ (u927000:Value).ownBlock) rfl rfl ?aP (fun _ hk=>hk) ?aF ?aO ?aB ?aS ?aL ?_;(case aP=>exact k34_mkM _ _ _ (⟨false,(⟨t943,t944,t947⟩:S32)⟩:S34) (Kd.R_mono (Kd.R_types (Kd.R_apart' (HO946.out) (Kd.R_typed HO_927000.out) (by decide)) BK928.out (by decide)) (fun k_ hk=>⟨hk.2,hk.1.2⟩)) (Kd.R_mono (Kd.R_types (Kd.R_apart' (HO949.out) (Kd.R_typed HO_927000.out) (by decide)) BK928.out (by decide)) (fun k_ hk=>⟨hk.2,hk.1.2⟩)));(case aB=>exact pB);(case aF=>exact (fun k_ hk=>Kd.freshB (g:=gb928) (o:=.cells #[.bool false,.int .i64 t943,.slice Ao56 t944.length co56,.slice Ao57 t947.length co57] 34 (0,0)) (pK BK928) k_ hk));(case aO=>exact (by (with_reducible repeat (first|apply Kd.R_alloc|apply Kd.R_drewN|apply Kd.R_drew));exact Kd.R_mono HO_927000.out (fun _ hk=>hk.2.2)));(case aS=>exact (below_size pB));(case aL=>have:=LMc48.out;omega);intro v951 w63 ho hb hg hat;rw [← Ny950.out] at ho;have n0_:=Z (blk_grown (g:=gb924) (o:=.cells #[.slice (some ad927) l0_0.length c0_0] 27 (0,0)) (pK BK924) hg (Kd.R_ne HO_927000.out BK924.out (by decide)));have n1_:=Z (blk_grown (g:=gb925) (o:=.cells #[.slice none 0 0] 27 (0,0)) (pK BK925) hg (Kd.R_ne HO_927000.out BK925.out (by decide)));have n2_:=Z (blk_grown (g:=gb926) (o:=.cells #[u927000] 27 (0,0)) (pK BK926) hg (Kd.R_ne HO_927000.out BK926.out (by decide)));have n3_:=Z (blk_grown (g:=gb928) (o:=.cells #[.bool false,.int .i64 t943,.slice Ao56 t944.length co56,.slice Ao57 t947.length co57] 34 (0,0)) (pK BK928) hg (Kd.R_away HO_927000.out (fun _ hk=>hk.2.2)));have n4_:=Z (hb);have n5_:=Z (ho);clear BK924;clear BK925;clear BK926;clear BK928;clear HB;clear HO_927000;clear HO946;clear HO949;have BK924:=n0_;have BK925:=n1_;have BK926:=n2_;have BK928:=n3_;have HB:=n4_;have HO952:=n5_;clear n0_ n1_ n2_ n3_ n4_ n5_;clear ho hb hg hat;obtain ⟨Ao64,co64,eo64⟩:=Kd.R_slice HO952.out;subst eo64;have hcz65_0:w63.cell? ⟨gb926,0,none⟩=some (u927000):=(kC BK926.out 0).trans rfl;have hfz65_0:=kF BK926.out 0))
         go_roundg k1
         case measure=>have:=HK1.out;omega
         case rel=>exact ⟨(wrap64 (x11_1+1)),(y950),(.slice Ao64 y950.length co64),pE,H',⟨by have:=HK1.out;omega⟩,⟨by (with_reducible repeat (first|apply Kd.R_alloc|apply Kd.R_drewN|apply Kd.R_drew));exact Kd.R_mono (Kd.R_far (p:=⟨gb926,0,none⟩) (Kd.R_types HO952.out BK926.out (by decide)) (fun _ hk=>hk.2) (.slice Ao64 y950.length co64)) (fun _ hk=>trivial)⟩,⟨by (with_reducible repeat (first|refine kN ?_ _|refine kD ?_|refine kA ?_ _));refine blk_far ?_ NB924_926.out _;(with_reducible repeat (first|refine kN ?_ _|refine kD ?_|refine kA ?_ _));exact BK924.out⟩,⟨by (with_reducible repeat (first|refine kN ?_ _|refine kD ?_|refine kA ?_ _));refine blk_far ?_ NB925_926.out _;(with_reducible repeat (first|refine kN ?_ _|refine kD ?_|refine kA ?_ _));exact BK925.out⟩,⟨by (with_reducible repeat (first|refine kN ?_ _|refine kD ?_|refine kA ?_ _));refine blk_put (cs:=#[u927000]) ?_ 0 _ rfl;(with_reducible repeat (first|refine kN ?_ _|refine kD ?_|refine kA ?_ _));exact BK926.out⟩,⟨pB⟩⟩
        ·rw [if_neg c48] at H
         exact absurd H (by simp)
     ·rw [if_neg c11] at H
      exact absurd H (by simp)
    ·rw [if_neg c10] at H
     exact absurd H (by simp)
   ·rw [if_neg c9] at H
    have c9b0:decide (x11_1 < (l0_0.length:Int))=false:=decide_eq_false c9
    clear c9
    obtain rfl:=Option.some.inj H
    have hnb66:=NB926_924.out
    have hnc66:=NB924_926.out
    have hnb67:=NB926_925.out
    have hnc67:=NB925_926.out
    have hcz68_0:wr.cell? ⟨gb926,0,none⟩=some (u927000):=(kC BK926.out 0).trans rfl
    have hfz68_0:=kF BK926.out 0
    obtain ⟨Ao69,co69,eo69⟩:=Kd.R_slice HO_927000.out
    subst eo69
    have hnb70:=NB925_924.out
    have hnc70:=NB924_925.out
    have hcz71_0:wr.cell? ⟨gb925,0,none⟩=some (.slice none 0 0):=(kC BK925.out 0).trans rfl
    have hfz71_0:=kF BK925.out 0
    go_wp2
    refine bodyPost_ret (results_cell_row rfl _ _ gb925 27 #[.slice Ao69 x927000_1.length co69] (0,0) _ rfl (by (with_reducible repeat (first|refine kN ?_ _|refine kD ?_|refine kA ?_ _));refine blk_put (cs:=#[.slice none 0 0]) ?_ 0 _ rfl;(with_reducible repeat (first|refine kN ?_ _|refine kD ?_|refine kA ?_ _));exact BK925.out) Try.underlying27 rfl (by kernel_rfl)) rfl ?_
    exact ⟨_,pF,by (with_reducible repeat (first|apply Kd.R_alloc|apply Kd.R_drewN|apply Kd.R_drew));exact Kd.R_mono (Kd.R_far (p:=⟨gb925,0,none⟩) (Kd.R_types HO_927000.out BK925.out (by decide)) (fun _ hk=>hk.2) (.slice Ao69 x927000_1.length co69)) (fun _ hk=>trivial),pB⟩
def nodeset_rank.f (a0:Int):Option (Int):=(nodeset_Valid.f a0).bind fun t288=>(if t288=true then ((nodeset_Size.f a0).bind fun t289=>(some t289)) else (some (-1)))
set_option maxHeartbeats 8000000 in
set_option maxRecDepth 100000 in
theorem nodeset_rank.calls (a0:Int) (r:Int) (w:World) (h:nodeset_rank.f a0=some r) :
  Calls Try.prog 116 #[.int .i64 a0] w fun e w'=>e=.returned (.int .i64 r)∧Drawn0 w w':=by
 have H:((nodeset_Valid.f a0).bind fun t288=>(if t288=true then ((nodeset_Size.f a0).bind fun t289=>(some t289)) else (some (-1))))=some r:=h
 clear h
 replace H:=Option.bind_eq_some_iff.mp H
 obtain ⟨t288,A20,H⟩:=H
 try dsimp only at H
 have A2:=Z A20
 clear A20
 by_cases c3:t288=true
 ·subst c3
  rw [if_pos rfl] at H
  replace H:=Option.bind_eq_some_iff.mp H
  obtain ⟨t289,A40,H⟩:=H
  try dsimp only at H
  have A4:=Z A40
  clear A40
  obtain rfl:=Option.some.inj H
  go_enter Try.func116,Try.ntmps116
  go_wp2_with (first|((with_reducible refine gate_callee (f:=59) rfl ?_);refine goesL_ (some 4) rfl rfl Try.func59 (by kernel_rfl) rfl #[.int .i64 a0] rfl pG ?_;(with_reducible refine (nodeset_Valid.calls a0 true _ A2.out).mono ?_);rintro e w' ⟨rfl,⟨nd,rfl⟩⟩;refine ⟨_,rfl,?_⟩)|((with_reducible refine gate_callee (f:=108) rfl ?_);refine goesL_ (some 7) rfl rfl Try.func108 (by kernel_rfl) rfl #[.int .i64 a0] rfl pG ?_;(with_reducible refine (nodeset_Size.calls a0 t289 _ A4.out).mono ?_);rintro e w' ⟨rfl,⟨nd,rfl⟩⟩;refine ⟨_,rfl,?_⟩))
  go_ret
  exact ⟨by first|rfl|(simp;done)|(simp [*];done),by repeat (first|exact Drawn0.refl _|apply Drawn0.step)⟩
 ·replace c3:=Bool.eq_false_iff.mpr c3
  subst c3
  rw [if_neg (show ¬ (false=true) by decide)] at H
  obtain rfl:=Option.some.inj H
  go_enter Try.func116,Try.ntmps116
  go_wp2_with (first|((with_reducible refine gate_callee (f:=59) rfl ?_);refine goesL_ (some 4) rfl rfl Try.func59 (by kernel_rfl) rfl #[.int .i64 a0] rfl pG ?_;(with_reducible refine (nodeset_Valid.calls a0 false _ A2.out).mono ?_);rintro e w' ⟨rfl,⟨nd,rfl⟩⟩;refine ⟨_,rfl,?_⟩))
  go_ret
  exact ⟨by first|rfl|(simp;done)|(simp [*];done),by repeat (first|exact Drawn0.refl _|apply Drawn0.step)⟩
def cmp_isNaN_int.f (a0:Int):Option (Bool):=some (a0 != a0)
set_option maxHeartbeats 8000000 in
set_option maxRecDepth 100000 in
theorem cmp_isNaN_int.calls (a0:Int) (r:Bool) (w:World) (h:cmp_isNaN_int.f a0=some r) :
  Calls Try.prog 139 #[.int .i64 a0] w fun e w'=>e=.returned (.bool r)∧Drawn0 w w':=by
 have H:(some (a0 != a0))=some r:=h
 clear h
 obtain rfl:=Option.some.inj H
 go_enter Try.func139,Try.ntmps139
 go_wp2
 go_ret
 exact ⟨by first|rfl|(simp;done)|(simp [*];done),by repeat (first|exact Drawn0.refl _|apply Drawn0.step)⟩
def cmp_Compare_int.f (a0:Int) (a1:Int):Option (Int):=(cmp_isNaN_int.f a0).bind fun t290=>((cmp_isNaN_int.f a1).bind fun t291=>(if t290=true then (if t291=true then (some 0) else (some (-1))) else (if t291=true then (some 1) else (if a0 < a1 then (some (-1)) else (if a0 > a1 then (some 1) else (some 0))))))
set_option maxHeartbeats 8000000 in
set_option maxRecDepth 100000 in
theorem cmp_Compare_int.calls (a0:Int) (a1:Int) (r:Int) (w:World) (h:cmp_Compare_int.f a0 a1=some r) :
  Calls Try.prog 115 #[.int .i64 a0,.int .i64 a1] w fun e w'=>e=.returned (.int .i64 r)∧Drawn0 w w':=by
 have H:((cmp_isNaN_int.f a0).bind fun t290=>((cmp_isNaN_int.f a1).bind fun t291=>(if t290=true then (if t291=true then (some 0) else (some (-1))) else (if t291=true then (some 1) else (if a0 < a1 then (some (-1)) else (if a0 > a1 then (some 1) else (some 0)))))))=some r:=h
 clear h
 replace H:=Option.bind_eq_some_iff.mp H
 obtain ⟨t290,A30,H⟩:=H
 try dsimp only at H
 have A3:=Z A30
 clear A30
 replace H:=Option.bind_eq_some_iff.mp H
 obtain ⟨t291,A40,H⟩:=H
 try dsimp only at H
 have A4:=Z A40
 clear A40
 by_cases c5:t290=true
 ·subst c5
  rw [if_pos rfl] at H
  by_cases c6:t291=true
  ·subst c6
   rw [if_pos rfl] at H
   obtain rfl:=Option.some.inj H
   go_enter Try.func115,Try.ntmps115
   go_wp2_with (first|((with_reducible refine gate_callee (f:=139) rfl ?_);refine goesL_ (some 8) rfl rfl Try.func139 (by kernel_rfl) rfl #[.int .i64 a0] rfl pG ?_;(with_reducible refine (cmp_isNaN_int.calls a0 true _ A3.out).mono ?_);rintro e w' ⟨rfl,⟨nd,rfl⟩⟩;refine ⟨_,rfl,?_⟩)|((with_reducible refine gate_callee (f:=139) rfl ?_);refine goesL_ (some 10) rfl rfl Try.func139 (by kernel_rfl) rfl #[.int .i64 a1] rfl pG ?_;(with_reducible refine (cmp_isNaN_int.calls a1 true _ A4.out).mono ?_);rintro e w' ⟨rfl,⟨nd,rfl⟩⟩;refine ⟨_,rfl,?_⟩))
   go_ret
   exact ⟨by first|rfl|(simp;done)|(simp [*];done),by repeat (first|exact Drawn0.refl _|apply Drawn0.step)⟩
  ·replace c6:=Bool.eq_false_iff.mpr c6
   subst c6
   rw [if_neg (show ¬ (false=true) by decide)] at H
   obtain rfl:=Option.some.inj H
   go_enter Try.func115,Try.ntmps115
   go_wp2_with (first|((with_reducible refine gate_callee (f:=139) rfl ?_);refine goesL_ (some 8) rfl rfl Try.func139 (by kernel_rfl) rfl #[.int .i64 a0] rfl pG ?_;(with_reducible refine (cmp_isNaN_int.calls a0 true _ A3.out).mono ?_);rintro e w' ⟨rfl,⟨nd,rfl⟩⟩;refine ⟨_,rfl,?_⟩)|((with_reducible refine gate_callee (f:=139) rfl ?_);refine goesL_ (some 10) rfl rfl Try.func139 (by kernel_rfl) rfl #[.int .i64 a1] rfl pG ?_;(with_reducible refine (cmp_isNaN_int.calls a1 false _ A4.out).mono ?_);rintro e w' ⟨rfl,⟨nd,rfl⟩⟩;refine ⟨_,rfl,?_⟩))
   go_ret
   exact ⟨by first|rfl|(simp;done)|(simp [*];done),by repeat (first|exact Drawn0.refl _|apply Drawn0.step)⟩
 ·replace c5:=Bool.eq_false_iff.mpr c5
  subst c5
  rw [if_neg (show ¬ (false=true) by decide)] at H
  by_cases c7:t291=true
  ·subst c7
   rw [if_pos rfl] at H
   obtain rfl:=Option.some.inj H
   go_enter Try.func115,Try.ntmps115
   go_wp2_with (first|((with_reducible refine gate_callee (f:=139) rfl ?_);refine goesL_ (some 8) rfl rfl Try.func139 (by kernel_rfl) rfl #[.int .i64 a0] rfl pG ?_;(with_reducible refine (cmp_isNaN_int.calls a0 false _ A3.out).mono ?_);rintro e w' ⟨rfl,⟨nd,rfl⟩⟩;refine ⟨_,rfl,?_⟩)|((with_reducible refine gate_callee (f:=139) rfl ?_);refine goesL_ (some 10) rfl rfl Try.func139 (by kernel_rfl) rfl #[.int .i64 a1] rfl pG ?_;(with_reducible refine (cmp_isNaN_int.calls a1 true _ A4.out).mono ?_);rintro e w' ⟨rfl,⟨nd,rfl⟩⟩;refine ⟨_,rfl,?_⟩))
   go_ret
   exact ⟨by first|rfl|(simp;done)|(simp [*];done),by repeat (first|exact Drawn0.refl _|apply Drawn0.step)⟩
  ·replace c7:=Bool.eq_false_iff.mpr c7
   subst c7
   rw [if_neg (show ¬ (false=true) by decide)] at H
   by_cases c8:a0 < a1
   ·rw [if_pos c8] at H
    have c8b0:decide (a0 < a1)=true:=decide_eq_true c8
    clear c8
    obtain rfl:=Option.some.inj H
    go_enter Try.func115,Try.ntmps115
    go_wp2_with (first|((with_reducible refine gate_callee (f:=139) rfl ?_);refine goesL_ (some 8) rfl rfl Try.func139 (by kernel_rfl) rfl #[.int .i64 a0] rfl pG ?_;(with_reducible refine (cmp_isNaN_int.calls a0 false _ A3.out).mono ?_);rintro e w' ⟨rfl,⟨nd,rfl⟩⟩;refine ⟨_,rfl,?_⟩)|((with_reducible refine gate_callee (f:=139) rfl ?_);refine goesL_ (some 10) rfl rfl Try.func139 (by kernel_rfl) rfl #[.int .i64 a1] rfl pG ?_;(with_reducible refine (cmp_isNaN_int.calls a1 false _ A4.out).mono ?_);rintro e w' ⟨rfl,⟨nd,rfl⟩⟩;refine ⟨_,rfl,?_⟩))
    go_ret
    exact ⟨by first|rfl|(simp;done)|(simp [*];done),by repeat (first|exact Drawn0.refl _|apply Drawn0.step)⟩
   ·rw [if_neg c8] at H
    have c8b0:decide (a0 < a1)=false:=decide_eq_false c8
    clear c8
    by_cases c9:a0 > a1
    ·rw [if_pos c9] at H
     have c9b0:decide (a1 < a0)=true:=decide_eq_true c9
     clear c9
     obtain rfl:=Option.some.inj H
     go_enter Try.func115,Try.ntmps115
     go_wp2_with (first|((with_reducible refine gate_callee (f:=139) rfl ?_);refine goesL_ (some 8) rfl rfl Try.func139 (by kernel_rfl) rfl #[.int .i64 a0] rfl pG ?_;(with_reducible refine (cmp_isNaN_int.calls a0 false _ A3.out).mono ?_);rintro e w' ⟨rfl,⟨nd,rfl⟩⟩;refine ⟨_,rfl,?_⟩)|((with_reducible refine gate_callee (f:=139) rfl ?_);refine goesL_ (some 10) rfl rfl Try.func139 (by kernel_rfl) rfl #[.int .i64 a1] rfl pG ?_;(with_reducible refine (cmp_isNaN_int.calls a1 false _ A4.out).mono ?_);rintro e w' ⟨rfl,⟨nd,rfl⟩⟩;refine ⟨_,rfl,?_⟩))
     go_ret
     exact ⟨by first|rfl|(simp;done)|(simp [*];done),by repeat (first|exact Drawn0.refl _|apply Drawn0.step)⟩
    ·rw [if_neg c9] at H
     have c9b0:decide (a1 < a0)=false:=decide_eq_false c9
     clear c9
     obtain rfl:=Option.some.inj H
     go_enter Try.func115,Try.ntmps115
     go_wp2_with (first|((with_reducible refine gate_callee (f:=139) rfl ?_);refine goesL_ (some 8) rfl rfl Try.func139 (by kernel_rfl) rfl #[.int .i64 a0] rfl pG ?_;(with_reducible refine (cmp_isNaN_int.calls a0 false _ A3.out).mono ?_);rintro e w' ⟨rfl,⟨nd,rfl⟩⟩;refine ⟨_,rfl,?_⟩)|((with_reducible refine gate_callee (f:=139) rfl ?_);refine goesL_ (some 10) rfl rfl Try.func139 (by kernel_rfl) rfl #[.int .i64 a1] rfl pG ?_;(with_reducible refine (cmp_isNaN_int.calls a1 false _ A4.out).mono ?_);rintro e w' ⟨rfl,⟨nd,rfl⟩⟩;refine ⟨_,rfl,?_⟩))
     go_ret
     exact ⟨by first|rfl|(simp;done)|(simp [*];done),by repeat (first|exact Drawn0.refl _|apply Drawn0.step)⟩
def cmp_Or_int.l0:Nat→Int→List Int→Int→Int→Option (Int)
 | 0,_,_,_,_=>none
 | k+1,x3,x6,x7,x8=>if x8 < x7 then (if 0≤x8 then (if x8 < (x6.length:Int) then (if (rd x6 x8)=x3 then (cmp_Or_int.l0 k x3 x6 x7 (wrap64 (x8+1))) else (some (rd x6 x8))) else (none)) else (none)) else (some x3)
def cmp_Or_int.f (k:Nat) (l0:List Int):Option (Int):=cmp_Or_int.l0 k 0 l0 (l0.length:Int) 0
set_option maxHeartbeats 8000000 in
set_option maxRecDepth 100000 in
theorem cmp_Or_int.calls (k:Nat) (A0:Option Addr) (c0:Nat) (l0:List Int) (r:Int) (w:World) (hr0:Kd.C (Kd.int .i64) w A0 l0.length l0) (hc0:l0.length≤c0) (h:cmp_Or_int.f k l0=some r) :
  Calls Try.prog 114 #[.slice A0 l0.length c0] w fun e w'=>e=.returned (.int .i64 r)∧Drawn0 w w':=by
 have HR0:=Z hr0
 have HC0:=Z hc0
 clear hr0 hc0
 have H:(cmp_Or_int.l0 k 0 l0 (l0.length:Int) 0)=some r:=h
 clear h
 have H':=Z H
 clear H
 go_enter Try.func114,Try.ntmps114
 go_wp2
 go_loopg [8] k (fun kq v8 w'=>∃ (x8_1:Int),v8=.int .i64 x8_1∧Aside0 (cmp_Or_int.l0 kq 0 l0 (l0.length:Int) x8_1=some r)∧Aside0 (kq≤k)∧Drawn0 w w')
 case atStart=>exact ⟨(0),pE,H',⟨Nat.le_refl _⟩,by repeat (first|exact Drawn0.refl _|apply Drawn0.step)⟩
 case round =>
  clear H'
  try clear c1
  obtain ⟨x8_1,rfl,HA,HK1,⟨m1,rfl⟩⟩:=hrel
  cases gk with
  | zero=>exact absurd HA.out (by simp [cmp_Or_int.l0])
  | succ k1 =>
   have H:=HA.out
   clear HA
   simp only [cmp_Or_int.l0] at H
   by_cases c2:x8_1 < (l0.length:Int)
   ·rw [if_pos c2] at H
    have c2b0:decide (x8_1 < (l0.length:Int))=true:=decide_eq_true c2
    clear c2
    by_cases c3:0≤x8_1
    ·rw [if_pos c3] at H
     have c3b0:decide (0≤x8_1)=true:=decide_eq_true c3
     clear c3
     by_cases c4:x8_1 < (l0.length:Int)
     ·rw [if_pos c4] at H
      have c4b0:decide (x8_1 < (l0.length:Int))=true:=decide_eq_true c4
      clear c4
      by_cases c5:(rd l0 x8_1)=0
      ·rw [if_pos c5] at H
       have c5b0:((rd l0 x8_1) == 0)=true:=beq_iff_eq.mpr c5
       have c5b1:((rd l0 x8_1) != 0)=false:=bne_eq_false_iff_eq.mpr c5
       clear c5
       have H':=Z H
       clear H
       have p292:0≤(x8_1:Int):=of_decide_eq_true (by first|(with_reducible assumption)|assumption)
       have q292:x8_1 < (l0.length:Int):=of_decide_eq_true (by first|(with_reducible assumption)|assumption)
       obtain ⟨ad292,e292,hx292_0⟩:=Kd.at_int HR0.out x8_1 p292 q292
       cases e292
       replace p292:=eq_true p292
       replace q292:=eq_true q292
       go_wp2
       go_roundg k1
       case measure=>have:=HK1.out;omega
       case rel=>exact ⟨(wrap64 (x8_1+1)),pE,H',⟨by have:=HK1.out;omega⟩,by repeat (first|exact Drawn0.refl _|apply Drawn0.step)⟩
      ·rw [if_neg c5] at H
       have c5b0:((rd l0 x8_1) == 0)=false:=beq_eq_false_iff_ne.mpr c5
       have c5b1:((rd l0 x8_1) != 0)=true:=bne_iff_ne.mpr c5
       obtain rfl:=Option.some.inj H
       have p292:0≤(x8_1:Int):=of_decide_eq_true (by first|(with_reducible assumption)|assumption)
       have q292:x8_1 < (l0.length:Int):=of_decide_eq_true (by first|(with_reducible assumption)|assumption)
       obtain ⟨ad292,e292,hx292_0⟩:=Kd.at_int HR0.out x8_1 p292 q292
       cases e292
       replace p292:=eq_true p292
       replace q292:=eq_true q292
       go_wp2
       go_ret
       exact ⟨by first|rfl|(simp;done)|(simp [*];done),by repeat (first|exact Drawn0.refl _|apply Drawn0.step)⟩
     ·rw [if_neg c4] at H
      exact absurd H (by simp)
    ·rw [if_neg c3] at H
     exact absurd H (by simp)
   ·rw [if_neg c2] at H
    have c2b0:decide (x8_1 < (l0.length:Int))=false:=decide_eq_false c2
    clear c2
    obtain rfl:=Option.some.inj H
    go_wp2
    go_ret
    exact ⟨by first|rfl|(simp;done)|(simp [*];done),by repeat (first|exact Drawn0.refl _|apply Drawn0.step)⟩
end Go.Proofs.Ytkjlcbfjllpcnaa.X
namespace Go.Proofs.Ytkjlcbfjllpcnaa.X
open Go.RowKit Go.Proofs.YtkjlcbfjllpcnaaW.PrintWords Go.Proofs.YtkjlcbfjllpcnaaW.PrintLast Go.Proofs.YtkjlcbfjllpcnaaW.PrintMore
set_option linter.unusedVariables false
def vld (s : Int) : Bool := decide (0 ≤ s) && decide (s < 1024)
def pcn (n : Nat) : Nat := (List.range 10).countP fun k => n.testBit k
def size (s : Int) : Int := if vld s then (pcn s.toNat : Int) else 0
def rank (s : Int) : Int := if vld s then size s else -1
def cmpI (a b : Int) : Int := if a < b then -1 else if b < a then 1 else 0
def orI (a b : Int) : Int := if a = 0 then b else a
def cmpS (a b : Int) : Int := orI (cmpI (rank a) (rank b)) (cmpI a b)
theorem vld_iff {s : Int} : vld s = true ↔ 0 ≤ s ∧ s < 1024 := by simp [vld]
theorem Valid_eq (s : Int) : nodeset_Valid.f s = some (vld s) := by
  have h : shl .i64 1 10 = 1024 := by decide
  unfold nodeset_Valid.f nodeset_below.f
  by_cases hs : s ≥ 0
  · rw [if_pos hs, if_pos (by decide), h]; simp [vld, hs]
  · rw [if_neg hs]; simp [vld, hs]
def onesOk (n : Nat) : Bool := match bits_OnesCount64.f (n : Int) with
  | some r => r == (pcn n : Int)
  | none => false
theorem ones_all : ∀ n, n < 1024 → onesOk n = true := by
  have h : (List.range 1024).all onesOk = true := by decide +kernel
  intro n hn
  exact List.all_eq_true.1 h n (List.mem_range.2 hn)
theorem ones_eq (n : Nat) (hn : n < 1024) : bits_OnesCount64.f (n : Int) = some (pcn n : Int) := by
  have h := ones_all n hn
  unfold onesOk at h
  split at h
  · rename_i r hr; rw [hr]; congr 1; simpa using h
  · cases h
theorem Size_eq (s : Int) : nodeset_Size.f s = some (size s) := by
  unfold nodeset_Size.f
  rw [Valid_eq]
  simp only [Option.bind_some]
  by_cases hv : vld s = true
  · rw [if_pos hv]
    obtain ⟨h0, h1⟩ := vld_iff.1 hv
    obtain ⟨n, rfl⟩ := Int.eq_ofNat_of_zero_le h0
    have hw : IntKind.u64.wrap (n : Int) = (n : Int) := by
      unfold IntKind.wrap; simp [IntKind.bits, IntKind.signed]; omega
    rw [hw]
    unfold bits_OnesCount.f
    rw [ones_eq n (by omega)]
    simp [size, hv]
  · rw [if_neg hv]; simp [size, hv]
theorem rank_eq (s : Int) : nodeset_rank.f s = some (rank s) := by
  unfold nodeset_rank.f
  rw [Valid_eq]
  simp only [Option.bind_some]
  by_cases hv : vld s = true
  · rw [if_pos hv, Size_eq]; simp [rank, hv]
  · rw [if_neg hv]; simp [rank, hv]
theorem cmpI_eq (a b : Int) : cmp_Compare_int.f a b = some (cmpI a b) := by
  unfold cmp_Compare_int.f cmp_isNaN_int.f
  simp [cmpI]
  split
  · rfl
  · split <;> rfl
theorem or2_eq (a b : Int) : cmp_Or_int.f 4 [a, b] = some (orI a b) := by
  unfold cmp_Or_int.f orI
  simp [cmp_Or_int.l0, rd, wrap64]
  by_cases ha : a = 0
  · subst ha
    by_cases hb : b = 0
    · subst hb; simp
    · simp [hb]
  · simp [ha]
end Go.Proofs.Ytkjlcbfjllpcnaa.X
namespace Go.Proofs.Ytkjlcbfjllpcnaa.X
open Go.RowKit Go.Proofs.YtkjlcbfjllpcnaaW.PrintWords Go.Proofs.YtkjlcbfjllpcnaaW.PrintLast Go.Proofs.YtkjlcbfjllpcnaaW.PrintMore
attribute [local go_sem] max2_int min2_int max_two min_two max_three min_three max_four min_four
set_option linter.unusedVariables false
set_option linter.unusedSimpArgs false
def danger_members.f (l0_0:List (S34)):Option (Int):=some (wrap64 ((shl .i64 1 (l0_0.length:Int)) - 1))
set_option maxHeartbeats 8000000 in
set_option maxRecDepth 100000 in
theorem danger_members.calls (A0_0:Option Addr) (c0_0:Nat) (l0_0:List (S34)) (r:Int) (w:World) (hr0_0:Kd.C k34 w A0_0 l0_0.length l0_0) (hc0_0:l0_0.length≤c0_0) (h:danger_members.f l0_0=some r) :
  Calls Try.prog 104 #[.agg #[.slice A0_0 l0_0.length c0_0]] w fun e w'=>e=.returned (.int .i64 r)∧Below w.heap.size w w':=by
 have hu27:=Try.underlying27
 have HR0_0:=Z hr0_0
 have HC0_0:=Z hc0_0
 clear hr0_0 hc0_0
 have HB:=Z (Below.refl w.heap.size w)
 have H:(some (wrap64 ((shl .i64 1 (l0_0.length:Int)) - 1)))=some r:=h
 clear h
 obtain ⟨ji2,hji2⟩:∃ j_:Int,(shl .i64 1 (l0_0.length:Int))=j_:=⟨_,rfl⟩
 replace H:(some (wrap64 ((ji2) - 1)))=some r:=by first|(rw [hji2] at H;exact H)|(simp only [hji2] at H ⊢;exact H)
 have hji2_:(IntKind.i64.wrap (1 * 2 ^ min (l0_0.length:Int).toNat 64))=ji2:=hji2
 have hji2z:(l0_0.length:Int)≤64→(IntKind.i64.wrap (1 * 2 ^ (l0_0.length:Int).toNat))=ji2:=shl_small hji2
 have hji2p:(IntKind.i64.wrap (1 * 2 ^ min l0_0.length 64))=ji2:=hji2_
 have hji2q:(l0_0.length:Int)≤64→(IntKind.i64.wrap (1 * 2 ^ l0_0.length))=ji2:=hji2z
 have hji2r:(IntKind.i64.wrap (2 ^ min l0_0.length 64))=ji2:=by have h_:=hji2p;rw [Int.one_mul] at h_;exact h_
 have hji2s:(l0_0.length:Int)≤64→(IntKind.i64.wrap (2 ^ l0_0.length))=ji2:=fun hle_=>by have h_:=hji2q hle_;rw [Int.one_mul] at h_;exact h_
 have hji2u:(IntKind.i64.wrap (2 ^ min (l0_0.length:Int).toNat 64))=ji2:=by have h_:=hji2_;rw [Int.one_mul] at h_;exact h_
 have hji2v:(l0_0.length:Int)≤64→(IntKind.i64.wrap (2 ^ (l0_0.length:Int).toNat))=ji2:=fun hle_=>by have h_:=hji2z hle_;rw [Int.one_mul] at h_;exact h_
 have hji2y:(wrap64 (1 * 2 ^ min (l0_0.length:Int).toNat 64))=ji2:=(i64_w _).symm.trans hji2_
 have hji2x:(l0_0.length:Int)≤64→(wrap64 (1 * 2 ^ (l0_0.length:Int).toNat))=ji2:=fun h_=>(i64_w _).symm.trans (hji2z h_)
 obtain rfl:=Option.some.inj H
 go_enter Try.func104,Try.ntmps104
 go_wp2_with (first|((with_reducible refine gate_dst (N:=1) rfl ?_);refine box_event ?hg (N:=1) ?hd (cs:=#[.slice A0_0 l0_0.length c0_0]) (t:=27) ?hr ?_;(case hd=>rfl);(case hg=>rfl);(case hr=>first|(go_simp;done)|(go_simp;rfl));intro gb850 hg w3 hbox hb;have n0_:=Z (below_step pB hb);have n1_:=Z (hbox);have n2_:=Z ((pT hg:w.heap.size≤gb850));have n3_:=Z ((pT hg:w.heap.size≤gb850));clear HB;have HB:=n0_;have BK850:=n1_;have GW850:=n2_;have GE850:=n3_;clear n0_ n1_ n2_ n3_;clear hb hbox hg;have hcz4_0:w3.cell? ⟨gb850,0,none⟩=some (.slice A0_0 l0_0.length c0_0):=(kC BK850.out 0).trans rfl;have hfz4_0:=kF BK850.out 0))
 go_ret
 exact ⟨by first|rfl|(simp [errW_none,errW_some] <;> rfl)|(simp only [← hji2];first|rfl|(simp [errW_none,errW_some] <;> rfl))|(simp [*,errW_none,errW_some] <;> rfl),pB⟩
end Go.Proofs.Ytkjlcbfjllpcnaa.X
namespace Go.Proofs.Ytkjlcbfjllpcnaa.X
open Go.RowKit Go.Proofs.YtkjlcbfjllpcnaaW.PrintWords Go.Proofs.YtkjlcbfjllpcnaaW.PrintLast Go.Proofs.YtkjlcbfjllpcnaaW.PrintMore
set_option linter.unusedVariables false
theorem gate_val {P:Program} {ops:Array Oper} {rest:List Oper} {o:Oper} {a:Act} {Q:Exit→Act→World→Prop} {W:World} {x:Operand} {ags:Array Operand} {ts:Array TypeId} (_ho:o.op=.call { callee:=.value x,args:=ags,argTypes:=ts }) (h:wpList P ops Q (o :: rest) a W):wpList P ops Q (o :: rest) a W:=h
theorem goesV_ {P : Program} {ops : Array Oper} {Q : Exit → Act → World → Prop} {rest : List Oper} {oi : Oper} {a : Act} {w : World} (N : Option Tmp) (hd : oi.dst = N) (hg : oi.guard = none) {x : Operand} {f : FuncId} {fn : Func} {ags : Array Operand} {ts : Array TypeId} (hf : P.funcs[f]? = some fn) (hname : (fn.name == "runtime.NumGoroutine") = false) (hb : fn.body.isSome = true) (args : Array Value)
    (hop : oi.op = .call { callee := .value x, args := ags, argTypes := ts }) (hx : a.eval x = .func (.func f) #[] #[]) (hargs : ags.map a.eval = args)
    (h : Calls P f args w fun e w' => ∃ v, e = .returned v ∧ wpList P ops Q rest (a.put N v) w') : wpList P ops Q (oi :: rest) a w := by
  refine wpList_plain hg fun K hK => ?_
  have he := enters_ hf hname hb args w
  have hrun : (execOp a.eval oi).run P w = .ok (.enter f args) w := by
    unfold execOp
    simp [hop, resolve, Deferred.ofValue, invoke, hargs, he, hx]
  unfold Oper.wp
  rw [hrun, Oper.upon_enter]
  refine h.mono fun e w'' hh => ?_
  obtain ⟨v, rfl, hk⟩ := hh
  subst hd
  exact hK _ _ hk
end Go.Proofs.Ytkjlcbfjllpcnaa.X
