/- Proof of the statement DangerSplitting: part 7 of 9, what it computes and why that answers true. -/
import Derived.Test.YtkjlcbfjllpcnaaGreatQ16
set_option linter.unusedVariables false
set_option linter.unusedSimpArgs false
namespace Go.Proofs.YtkjlcbfjllpcnaaGreat.X
open Go.RowKit Go.Lib Go.Sort YtkjlcbfjllpcnaaGreatW.PrintWords YtkjlcbfjllpcnaaGreatW.PrintLast YtkjlcbfjllpcnaaGreatW.PrintMore
def subsBelow (s:Int) (m:Nat):List Int:=((List.range m).map Int.ofNat).filter fun t=>sub t s
def subsetsS (s:Int):List Int:=if vld s then sortS (subsBelow s (s.toNat+1)) else []
def nodeset_Subsets.f (a0:Int):Option (List Int):=some (subsetsS a0)
theorem subsBelow_le (s:Int) (m:Nat):(subsBelow s m).length≤m:=by
 unfold subsBelow
 have:=List.length_filter_le (fun t=>sub t s) ((List.range m).map Int.ofNat)
 simpa using this
theorem subsBelow_succ (s:Int) (m:Nat):subsBelow s (m+1)=if sub (m:Int) s=true then subsBelow s m++[(m:Int)] else subsBelow s m:=by
 unfold subsBelow
 rw [List.range_succ,List.map_append,List.filter_append]
 split
 ·rename_i h;simp [h]
 ·rename_i h;simp [h]
set_option maxHeartbeats 4000000 in
set_option maxRecDepth 100000 in
theorem nodeset_Subsets.calls (a0 : Int) (r : List Int) (w : World) (h : nodeset_Subsets.f a0 = some r) : Calls Tryz.prog 136 #[.int .i64 a0] w fun e w' => ∃ v0_ : Value, e = .returned (v0_) ∧ Kd.R (Kd.int .i64) 3 w' w.heap.size (fun _ => True) v0_ r ∧ Below w.heap.size w w' := by
  obtain rfl := Option.some.inj h
  clear h
  obtain ⟨b, Hb⟩ : ∃ b, Aside0 (b = vld a0) := ⟨_, ⟨rfl⟩⟩
  unfold subsetsS
  rw [← Hb.out]
  cases b with
  | false =>
    go_enter Tryz.func136, Tryz.ntmps136
    go_wp2
    go_loopw [3, 4] (fun o i wr => o = .slice none 0 0 ∧ i = .int .i64 0 ∧ Aside0 (RowKit.Below w.heap.size w wr)) (fun _ _ _ => 0)
    case atStart => exact ⟨rfl, rfl, ⟨Below.refl _ _⟩⟩
    case round =>
      obtain ⟨rfl, rfl, HB⟩ := hrel
      obtain ⟨ob, rfl⟩ : ∃ ob, ob = wr := ⟨_, rfl⟩
      go_wp2_with (first
        | (go_at_call 160; refine (nodeset_Valid.calls a0 false _ (by rw [Hb.out]; exact Valid_eq a0)).mono ?_; rintro e w1 ⟨rfl, ⟨q, rfl⟩⟩)
        | (go_at_call 161; refine (sort_row (base := w.heap.size) (ok := fun _ => True) (l := []) (Kd.R_nil _ _ _ _ _) (by simp)).mono ?_; rintro e w3 ⟨rfl, h3, hg3⟩))
      go_ret
      exact ⟨_, rfl, Kd.R_nil _ _ _ _ _, (wN HB.out _).grown hg3 (by have := HB.out.size; simpa using this) (by simp [Value.ownBlock])⟩
  | true =>
    simp only [if_true]
    have Hv : Aside0 (0 ≤ a0 ∧ a0 < 1024) := ⟨vld_iff.1 Hb.out.symm⟩
    go_enter Tryz.func136, Tryz.ntmps136
    go_wp2
    go_loopw [3, 4] (fun o i wr => ∃ x : Int, i = .int .i64 x ∧ Aside0 (0 ≤ x ∧ x ≤ a0 + 1) ∧ Aside0 (RI wr w.heap.size (fun _ => True) o (subsBelow a0 x.toNat)) ∧ Aside0 (RowKit.Below w.heap.size w wr)) (fun _ i _ => (a0 + 1 - intOf i).toNat)
    case atStart => exact ⟨0, rfl, ⟨by have := Hv.out; omega⟩, ⟨by exact Kd.R_nil _ _ _ _ _⟩, ⟨Below.refl _ _⟩⟩
    case round =>
      obtain ⟨x, rfl, Hx, HO, HB⟩ := hrel
      obtain ⟨ob, rfl⟩ : ∃ ob, ob = wr := ⟨_, rfl⟩
      obtain ⟨F, HF⟩ : ∃ F, Aside0 (F = subsBelow a0 x.toNat) := ⟨_, ⟨rfl⟩⟩
      rw [← HF.out] at HO
      have HFl : Aside0 (F.length ≤ 1025) := ⟨by rw [HF.out]; have := subsBelow_le a0 x.toNat; have := Hx.out; have := Hv.out; omega⟩
      have Hnext : Aside0 (wrap64 (x + 1) = x + 1 ∧ subsBelow a0 (x + 1).toNat = if sub x a0 = true then F ++ [x] else F) := ⟨by
        have h1 := Hx.out
        have h2 := Hv.out
        refine ⟨by unfold wrap64; omega, ?_⟩
        obtain ⟨m, rfl⟩ := Int.eq_ofNat_of_zero_le h1.1
        rw [HF.out, show ((m : Int) + 1).toNat = m + 1 from by omega, show (m : Int).toNat = m from by omega]
        exact subsBelow_succ a0 m⟩
      by_cases hlt : x ≤ a0
      · have hd : decide (x ≤ a0) = true := decide_eq_true hlt
        have Hlt := Aside0.mk hlt
        clear hlt
        obtain ⟨c, Hc⟩ : ∃ c, Aside0 (c = sub x a0) := ⟨_, ⟨rfl⟩⟩
        have hc : (Go.bits .andNot .i64 x a0 == 0) = c := by rw [Hc.out]; rfl
        cases c
        all_goals
          go_wp2_with (first
            | (go_at_call 160; refine (nodeset_Valid.calls a0 true _ (by rw [Hb.out]; exact Valid_eq a0)).mono ?_; rintro e w1 ⟨rfl, hq⟩; have HO1 := Aside0.mk (Kd.R_below HO.out hq.below); have HB1 := Aside0.mk (HB.out.trans (hq.below.mono HB.out.size)); clear hq)
            | (at_builtin; refine Kd.R_append (Kd.int .i64) (w0 := w) w.heap.size rfl (.tmp 18) (.tmp 20) 22 3 (.int .i64 0) 8 rfl Tryz.underlying22 info3 rfl (by decide) (by omega) _ F x [.int .i64 x] (fun _ => True) (fun _ => False) rfl rfl ?aP (fun _ hk => hk.elim) (fun _ _ => trivial) ?aO ?aB ?aS ?aL ?_; (case aP => exact rfl); (case aO => exact HO1.out); (case aB => exact HB1.out); (case aS => exact HB1.out.size); (case aL => have := HFl.out; omega); intro v4 w4 h4 hb4 hg4 hat4; have H4 := Aside0.mk h4; have B4 := Aside0.mk hb4; clear h4 hb4 hg4 hat4))
          go_roundw
          case rel =>
            first
            | exact ⟨wrap64 (x + 1), rfl, ⟨by have := Hnext.out.1; have := Hlt.out; have := Hx.out; omega⟩, ⟨by rw [Hnext.out.1, Hnext.out.2, ← Hc.out]; exact H4.out⟩, B4⟩
            | exact ⟨wrap64 (x + 1), rfl, ⟨by have := Hnext.out.1; have := Hlt.out; have := Hx.out; omega⟩, ⟨by rw [Hnext.out.1, Hnext.out.2, ← Hc.out]; exact HO1.out⟩, HB1⟩
          case measure => have h1 := Hnext.out.1; have := Hlt.out; have := Hx.out; simp [intOf, h1]; omega
      · have hd : decide (x ≤ a0) = false := decide_eq_false hlt
        have Hlt := Aside0.mk hlt
        clear hlt
        have hx : Aside0 (x.toNat = a0.toNat + 1) := ⟨by have := Hx.out; have := Hlt.out; have := Hv.out; omega⟩
        go_wp2_with (first
          | (go_at_call 160; refine (nodeset_Valid.calls a0 true _ (by rw [Hb.out]; exact Valid_eq a0)).mono ?_; rintro e w1 ⟨rfl, hq⟩; have HO1 := Aside0.mk (Kd.R_below HO.out hq.below); have HB1 := Aside0.mk (HB.out.trans (hq.below.mono HB.out.size)); clear hq)
          | (go_at_call 161; refine (sort_row HO1.out (by have := HFl.out; omega)).mono ?_; rintro e w3 ⟨rfl, h3, hg3⟩; have H3 := Aside0.mk h3; have B3 := Aside0.mk (HB1.out.grown hg3 HB1.out.size (own_base (own_of_R HO1.out))); clear h3 hg3))
        go_ret
        exact ⟨_, rfl, by rw [← hx.out, ← HF.out]; exact H3.out, B3.out⟩
end Go.Proofs.YtkjlcbfjllpcnaaGreat.X
namespace Go.Proofs.YtkjlcbfjllpcnaaGreat.X
open Go.RowKit YtkjlcbfjllpcnaaGreatW.PrintWords YtkjlcbfjllpcnaaGreatW.PrintLast YtkjlcbfjllpcnaaGreatW.PrintMore
attribute [local go_sem] max2_int min2_int max_two min_two max_three min_three max_four min_four
def danger_least_halts.l0:Nat→List Int→List Int→Int→Int→List (S92)→Option (List Int)
 | 0,_,_,_,_,_=>none
 | k+1,x5,x10,x11,x12,x152000=>if x12 < x11 then (if 0≤x12 then (if x12 < (x10.length:Int) then ((danger_halts.f k x152000 (rd x10 x12)).bind fun t157=>(if t157=true then (if x5.length < 17592186044416 then (danger_least_halts.l0 k (x5++[rd x10 x12]) x10 x11 (wrap64 (x12+1)) x152000) else (none)) else (danger_least_halts.l0 k x5 x10 x11 (wrap64 (x12+1)) x152000))) else (none)) else (none)) else ((nodeset_Least.f x5).bind fun t161=>(some t161))
def danger_least_halts.f (k:Nat) (l0_0:List (S92)):Option (List Int):=(danger_members.f l0_0).bind fun t152=>((nodeset_Subsets.f t152).bind fun t153=>(danger_least_halts.l0 k ([]:List Int) t153 (t153.length:Int) 0 l0_0))
set_option maxHeartbeats 8000000 in
set_option maxRecDepth 100000 in
theorem danger_least_halts.calls (k:Nat) (A0_0:Option Addr) (c0_0:Nat) (l0_0:List (S92)) (r:List Int) (w:World) (hr0_0:Kd.C k92 w A0_0 l0_0.length l0_0) (hc0_0:l0_0.length≤c0_0) (h:danger_least_halts.f k l0_0=some r) :
  Calls Tryz.prog 108 #[.agg #[.slice A0_0 l0_0.length c0_0],.func (.func 109) #[] #[]] w fun e w'=>∃ v0_:Value,e=.returned (v0_)∧Kd.R (Kd.int .i64) 3 w' w.heap.size (fun _=>True) v0_ r∧Below w.heap.size w w':=by
 have hu25:=Tryz.underlying25
 have HR0_0:=Z hr0_0
 have HC0_0:=Z hc0_0
 clear hr0_0 hc0_0
 have HB:=Z (Below.refl w.heap.size w)
 have H:((danger_members.f l0_0).bind fun t152=>((nodeset_Subsets.f t152).bind fun t153=>(danger_least_halts.l0 k ([]:List Int) t153 (t153.length:Int) 0 l0_0)))=some r:=h
 clear h
 replace H:=pO H
 obtain ⟨t152,A20,H⟩:=H
 try dsimp only at H
 have A2:=Z A20
 clear A20
 replace H:=pO H
 obtain ⟨t153,A30,H⟩:=H
 try dsimp only at H
 have A3:=Z A30
 clear A30
 have H':=Z H
 clear H
 go_enter Tryz.func108,Tryz.ntmps108
 go_wp2_with (first|((with_reducible refine gate_dst (N:=2) rfl ?_);refine box_event ?hg (N:=2) ?hd (cs:=#[.slice A0_0 l0_0.length c0_0]) (t:=25) ?hr ?_;(case hd=>rfl);(case hg=>rfl);(case hr=>first|(go_simp;done)|(go_simp;rfl));intro gb151 hg w4 hbox hb;have n0_:=Z (below_step pB hb);have BK151:=Z (hbox);have GW151:=Z ((pT hg:w.heap.size≤gb151));have GE151:=Z ((pT hg:w.heap.size≤gb151));clear HB;have HB:=n0_;clear n0_ hb hbox hg;obtain ⟨hcz5_0,hfz5_0⟩:=p1 BK151)|((with_reducible refine gate_callee (f:=169) rfl ?_);refine goesL_ (some 9) rfl rfl Tryz.func169 pU rfl #[.agg #[.slice A0_0 l0_0.length c0_0]] rfl pG ?_;(with_reducible refine (danger_members.calls _ _ l0_0 t152 _ ?side1 ?side2 A2.out).mono ?_);(case side1=>exact pC HR0_0);(case side2=>exact HC0_0.out);rintro e w6 ⟨rfl,hb⟩;refine ⟨_,rfl,?_⟩;replace BK151:=Z (blk_below (g:=gb151) (o:=.cells #[.slice A0_0 l0_0.length c0_0] 25 (0,0)) (pK BK151) hb);have n1_:=Z (below_step pB hb);clear HB;have HB:=n1_;clear n1_;(try clear hb);(try clear hb2);(try clear hk);(try clear hi))|((with_reducible refine gate_callee (f:=136) rfl ?_);refine goesL_ (some 10) rfl rfl Tryz.func136 pU rfl #[.int .i64 t152] rfl pG ?_;(with_reducible refine (nodeset_Subsets.calls t152 t153 _ A3.out).mono ?_);rintro e w7 ⟨v154,rfl,ho0,hb⟩;refine ⟨_,rfl,?_⟩;have HO155:=Z (Kd.R_lower ho0 (below_size pB));replace BK151:=Z (blk_below (g:=gb151) (o:=.cells #[.slice A0_0 l0_0.length c0_0] 25 (0,0)) (pK BK151) hb);have n2_:=Z (below_step pB hb);clear HB;have HB:=n2_;clear n2_;(try clear hb);(try clear hb2);(try clear hk);(try clear hi);(try clear ho0);obtain ⟨Ao8,co8,eo8⟩:=Kd.R_slice HO155.out;subst eo8))
 go_loopg [5,12] k (fun kq v5 v12 w'=>∃ (x5_1:List Int) (x12_1:Int),v12=.int .i64 x12_1∧Aside0 (danger_least_halts.l0 kq x5_1 t153 (t153.length:Int) x12_1 l0_0=some r)∧Aside0 (kq≤k)∧Aside0 (Kd.R (Kd.int .i64) 3 w' w.heap.size (fun k_=>some k_ ≠ ((.slice Ao8 t153.length co8):Value).ownBlock) v5 x5_1)∧Aside0 (Kd.R (Kd.int .i64) 3 w' w.heap.size (fun k_=>some k_ ≠ (v5:Value).ownBlock) (.slice Ao8 t153.length co8) t153)∧Aside0 (w'.heap[gb151]?=some (.cells #[(.slice A0_0 l0_0.length c0_0)] 25 (0,0)))∧Aside0 (Below w.heap.size w w'))
 case atStart=>exact ⟨(([]:List Int)),(0),pE,H',⟨Nat.le_refl _⟩,⟨pN⟩,⟨by refine pP ?_;exact Kd.R_mono HO155.out (fun _ hk=>(by simp [Value.ownBlock]))⟩,⟨pK BK151⟩,⟨pB⟩⟩
 case round =>
  clear H'
  try clear c1
  try clear p2
  try clear hcz5_0
  try clear hfz5_0
  obtain ⟨x5_1,x12_1,rfl,HA,HK1,HO_5,HO_10,BK151,HB⟩:=hrel
  cases gk with
  | zero=>exact absurd HA.out (by simp [danger_least_halts.l0])
  | succ k1 =>
   have H:=HA.out
   clear HA
   simp only [danger_least_halts.l0] at H
   by_cases c9:x12_1 < (t153.length:Int)
   ·rw [if_pos c9] at H
    have c9b0:decide (x12_1 < (t153.length:Int))=true:=decide_eq_true c9
    clear c9
    by_cases c10:0≤x12_1
    ·rw [if_pos c10] at H
     have c10b0:decide (0≤x12_1)=true:=decide_eq_true c10
     clear c10
     by_cases c11:x12_1 < (t153.length:Int)
     ·rw [if_pos c11] at H
      have c11b0:decide (x12_1 < (t153.length:Int))=true:=decide_eq_true c11
      clear c11
      replace H:=pO H
      obtain ⟨t157,A120,H⟩:=H
      try dsimp only at H
      have A12:=Z A120
      clear A120
      by_cases c13:t157=true
      ·subst c13
       rw [if_pos rfl] at H
       by_cases c14:x5_1.length < 17592186044416
       ·rw [if_pos c14] at H
        have LMc14:=Z c14
        clear c14
        obtain ⟨y158,hy158⟩:∃ y_:List Int,y_=(x5_1++[rd t153 x12_1]):=⟨_,rfl⟩
        first|rw [← hy158] at H|(replace H:=(Option.bind_some _ _).symm.trans H;rw [← hy158] at H)
        have Ny158:=Z hy158
        clear hy158
        have H':=Z H
        clear H
        have p156:0≤(x12_1:Int):=of_decide_eq_true pA
        have q156:x12_1 < (t153.length:Int):=of_decide_eq_true pA
        obtain ⟨ad156,e156,hx156_0⟩:=Kd.at_int (Kd.R_reads' HO_10.out).2.2 x12_1 p156 q156
        cases e156
        replace p156:=eq_true p156
        replace q156:=eq_true q156
        have hcz15_0:=pV BK151 (.slice A0_0 l0_0.length c0_0) 0 rfl
        have hfz15_0:=kF BK151.out 0
        go_wp2_with (first|((with_reducible refine gate_val (x:=.tmp 16) rfl ?_);refine goesV_ (some 19) rfl rfl (x:=.tmp 16) Tryz.func109 pU rfl #[.agg #[.slice A0_0 l0_0.length c0_0],.int .i64 (rd t153 x12_1)] rfl rfl pG ?_;(with_reducible refine (danger_halts.calls k1 _ _ l0_0 (rd t153 x12_1) true _ ?side1 ?side2 A12.out).mono ?_);(case side1=>exact pC HR0_0);(case side2=>exact HC0_0.out);rintro e w16 ⟨rfl,hb⟩;refine ⟨_,rfl,?_⟩;replace HO_5:=Z (Kd.R_below (pR HO_5) hb);replace HO_10:=Z (Kd.R_below (pR HO_10) hb);replace BK151:=Z (blk_below (g:=gb151) (o:=.cells #[.slice A0_0 l0_0.length c0_0] 25 (0,0)) (pK BK151) hb);have n3_:=Z (below_step pB hb);clear HB;have HB:=n3_;clear n3_;(try clear hb);(try clear hb2);(try clear hk);(try clear hi))|((with_reducible refine gate_builtin (b:=.append) (xs:=#[.tmp 20,.tmp 22]) rfl ?_);at_builtin;refine Kd.R_append (Kd.int .i64) (w0:=w) w.heap.size rfl (.tmp 20) (.tmp 22) 22 3 (.int .i64 0) 8 rfl Tryz.underlying22 info3 rfl (by decide) (by omega) u5 x5_1 (rd t153 x12_1) [.int .i64 (rd t153 x12_1)] (fun k_=>some k_ ≠ (.slice (some ad156) t153.length co8:Value).ownBlock) (fun _=>False) rfl rfl ?aP (fun _ hk=>hk.elim) ?aF ?aO ?aB ?aS ?aL ?_;(case aP=>exact rfl);(case aB=>exact pB);(case aF=>exact (fun k_ hk=>Kd.fresh' (Kd.R_lt (pR HO_10)) k_ hk));(case aO=>exact (pR HO_5));(case aS=>exact (below_size pB));(case aL=>have:=LMc14.out;omega);intro v159 w17 ho hb hg hat;rw [← Ny158.out] at ho;have n0_:=Z (Kd.R_after (ok:=(fun _=>True)) (by refine pP ?_;exact Kd.R_mono HO_10.out (fun _ hk=>⟨trivial,hk⟩)) hg hat);have n1_:=Z (blk_grown (g:=gb151) (o:=.cells #[.slice A0_0 l0_0.length c0_0] 25 (0,0)) (pK BK151) hg (Kd.R_ne HO_5.out BK151.out (by decide)));have n2_:=Z (hb);have n3_:=Z (ho);clear HO_10 BK151 HB HO_5;have HO_10:=n0_;have BK151:=n1_;have HB:=n2_;have HO160:=n3_;clear n0_ n1_ n2_ n3_ ho hb hg hat))
        go_roundg k1
        case measure=>have:=HK1.out;omega
        case rel=>exact ⟨(y158),(wrap64 (x12_1+1)),pE,H',⟨by have:=HK1.out;omega⟩,⟨pR HO160⟩,⟨by refine pP ?_;exact Kd.R_mono HO_10.out (fun _ hk=>hk.2)⟩,⟨pK BK151⟩,⟨pB⟩⟩
       ·rw [if_neg c14] at H
        exact absurd H (by simp)
      ·replace c13:=Bool.eq_false_iff.mpr c13
       subst c13
       rw [if_neg (show ¬ (false=true) by decide)] at H
       have H':=Z H
       clear H
       have p156:0≤(x12_1:Int):=of_decide_eq_true pA
       have q156:x12_1 < (t153.length:Int):=of_decide_eq_true pA
       obtain ⟨ad156,e156,hx156_0⟩:=Kd.at_int (Kd.R_reads' HO_10.out).2.2 x12_1 p156 q156
       cases e156
       replace p156:=eq_true p156
       replace q156:=eq_true q156
       have hcz18_0:=pV BK151 (.slice A0_0 l0_0.length c0_0) 0 rfl
       have hfz18_0:=kF BK151.out 0
       go_wp2_with (first|((with_reducible refine gate_val (x:=.tmp 16) rfl ?_);refine goesV_ (some 19) rfl rfl (x:=.tmp 16) Tryz.func109 pU rfl #[.agg #[.slice A0_0 l0_0.length c0_0],.int .i64 (rd t153 x12_1)] rfl rfl pG ?_;(with_reducible refine (danger_halts.calls k1 _ _ l0_0 (rd t153 x12_1) false _ ?side1 ?side2 A12.out).mono ?_);(case side1=>exact pC HR0_0);(case side2=>exact HC0_0.out);rintro e w19 ⟨rfl,hb⟩;refine ⟨_,rfl,?_⟩;replace HO_5:=Z (Kd.R_below (pR HO_5) hb);replace HO_10:=Z (Kd.R_below (pR HO_10) hb);replace BK151:=Z (blk_below (g:=gb151) (o:=.cells #[.slice A0_0 l0_0.length c0_0] 25 (0,0)) (pK BK151) hb);have n3_:=Z (below_step pB hb);clear HB;have HB:=n3_;clear n3_;(try clear hb);(try clear hb2);(try clear hk);(try clear hi)))
       go_roundg k1
       case measure=>have:=HK1.out;omega
       case rel=>exact ⟨(x5_1),(wrap64 (x12_1+1)),pE,H',⟨by have:=HK1.out;omega⟩,⟨pR HO_5⟩,⟨pR HO_10⟩,⟨pK BK151⟩,⟨pB⟩⟩
     ·rw [if_neg c11] at H
      exact absurd H (by simp)
    ·rw [if_neg c10] at H
     exact absurd H (by simp)
   ·rw [if_neg c9] at H
    have c9b0:decide (x12_1 < (t153.length:Int))=false:=decide_eq_false c9
    clear c9
    replace H:=pO H
    obtain ⟨t161,A200,H⟩:=H
    try dsimp only at H
    have A20:=Z A200
    clear A200
    obtain rfl:=Option.some.inj H
    obtain ⟨Ao21,co21,eo21⟩:=Kd.R_slice HO_5.out
    subst eo21
    go_wp2_with (first|((with_reducible refine gate_callee (f:=96) rfl ?_);refine goesL_ (some 26) rfl rfl Tryz.func96 pU rfl #[.slice Ao21 x5_1.length co21] rfl pG ?_;(with_reducible refine (nodeset_Least.calls _ _ x5_1 t161 _ ?side1 ?side2 A20.out).mono ?_);(case side1=>repeat (first|exact (Kd.R_reads' HO_5.out).2.2|(with_reducible refine Kd.C_alloc ?_ _)|(with_reducible refine Kd.C_drewN ?_ _)|(with_reducible refine Kd.C_drew ?_)));(case side2=>exact (Kd.R_reads' HO_5.out).2.1);rintro e w22 ⟨v162,rfl,ho0,hb⟩;refine ⟨_,rfl,?_⟩;have n0_:=Z (Kd.R_elder' (pR HO_5) (Kd.R_base ho0) hb);have n1_:=Z (Kd.R_elder' (pR HO_10) (Kd.R_base ho0) hb);have HO163:=Z (Kd.R_lower (Kd.R_new' (Kd.R_new' ho0 (Kd.R_lt (pR HO_5))) (Kd.R_lt (pR HO_10))) (below_size pB));replace BK151:=Z (blk_below (g:=gb151) (o:=.cells #[.slice A0_0 l0_0.length c0_0] 25 (0,0)) (pK BK151) hb);have n4_:=Z (below_step pB hb);clear HO_5 HO_10 HB;have HO_5:=n0_;have HO_10:=n1_;have HB:=n4_;clear n0_ n1_ n4_;(try clear hb);(try clear hb2);(try clear hk);(try clear hi);(try clear ho0)))
    go_ret
    exact ⟨_,pF,by refine pP ?_;exact Kd.R_mono HO163.out (fun _ hk=>trivial),pB⟩
def danger_Halting.f (k:Nat) (l0_0:List (S92)):Option (List Int × Int):=(configuration_Valid.f k l0_0).bind fun t545=>(if t545=0 then ((danger_least_halts.f k l0_0).bind fun t546=>(some (t546,0))) else (some (([]:List Int),t545)))
set_option maxHeartbeats 8000000 in
set_option maxRecDepth 100000 in
theorem danger_Halting.calls (k:Nat) (A0_0:Option Addr) (c0_0:Nat) (l0_0:List (S92)) (r1:List Int) (r2:Int) (w:World) (hr0_0:Kd.C k92 w A0_0 l0_0.length l0_0) (hc0_0:l0_0.length≤c0_0) (h:danger_Halting.f k l0_0=some (r1,r2)) :
  Calls Tryz.prog 34 #[.agg #[.slice A0_0 l0_0.length c0_0]] w fun e w'=>∃ v0_:Value,e=.returned (.tuple #[v0_,.int .i64 r2])∧Kd.R (Kd.int .i64) 3 w' w.heap.size (fun _=>True) v0_ r1∧Below w.heap.size w w':=by
 have hu25:=Tryz.underlying25
 have HR0_0:=Z hr0_0
 have HC0_0:=Z hc0_0
 clear hr0_0 hc0_0
 have HB:=Z (Below.refl w.heap.size w)
 have H:((configuration_Valid.f k l0_0).bind fun t545=>(if t545=0 then ((danger_least_halts.f k l0_0).bind fun t546=>(some (t546,0))) else (some (([]:List Int),t545))))=some (r1,r2):=h
 clear h
 replace H:=pO H
 obtain ⟨t545,A20,H⟩:=H
 try dsimp only at H
 have A2:=Z A20
 clear A20
 by_cases c3:t545=0
 ·rw [if_pos c3] at H
  have c3b0:(t545 == 0)=true:=beq_iff_eq.mpr c3
  have c3b1:(t545 != 0)=false:=bne_eq_false_iff_eq.mpr c3
  clear c3
  replace H:=pO H
  obtain ⟨t546,A40,H⟩:=H
  try dsimp only at H
  have A4:=Z A40
  clear A40
  simp only [Option.some.injEq,Prod.mk.injEq] at H
  obtain ⟨rfl,rfl⟩:=H
  go_enter Tryz.func34,Tryz.ntmps34
  go_wp2_with (first|((with_reducible refine gate_dst (N:=1) rfl ?_);refine box_event ?hg (N:=1) ?hd (cs:=#[.slice A0_0 l0_0.length c0_0]) (t:=25) ?hr ?_;(case hd=>rfl);(case hg=>rfl);(case hr=>first|(go_simp;done)|(go_simp;rfl));intro gb544 hg w5 hbox hb;have n0_:=Z (below_step pB hb);have BK544:=Z (hbox);have GW544:=Z ((pT hg:w.heap.size≤gb544));have GE544:=Z ((pT hg:w.heap.size≤gb544));clear HB;have HB:=n0_;clear n0_ hb hbox hg;obtain ⟨hcz6_0,hfz6_0⟩:=p1 BK544)|((with_reducible refine gate_callee (f:=95) rfl ?_);refine goesL_ (some 6) rfl rfl Tryz.func95 pU rfl #[.agg #[.slice A0_0 l0_0.length c0_0]] rfl pG ?_;(with_reducible refine (configuration_Valid.calls k _ _ l0_0 t545 _ ?side1 ?side2 A2.out).mono ?_);(case side1=>exact pC HR0_0);(case side2=>exact HC0_0.out);rintro e w7 ⟨rfl,hb⟩;refine ⟨_,rfl,?_⟩;replace BK544:=Z (blk_below (g:=gb544) (o:=.cells #[.slice A0_0 l0_0.length c0_0] 25 (0,0)) (pK BK544) hb);have n1_:=Z (below_step pB hb);clear HB;have HB:=n1_;clear n1_;(try clear hb);(try clear hb2);(try clear hk);(try clear hi);obtain ⟨hcz8_0,hfz8_0⟩:=p1 BK544)|((with_reducible refine gate_callee (f:=108) rfl ?_);refine goesL_ (some 11) rfl rfl Tryz.func108 pU rfl #[.agg #[.slice A0_0 l0_0.length c0_0],.func (.func 109) #[] #[]] rfl pG ?_;(with_reducible refine (danger_least_halts.calls k _ _ l0_0 t546 _ ?side1 ?side2 A4.out).mono ?_);(case side1=>exact pC HR0_0);(case side2=>exact HC0_0.out);rintro e w9 ⟨v547,rfl,ho0,hb⟩;refine ⟨_,rfl,?_⟩;have HO548:=Z (Kd.R_lower ho0 (below_size pB));replace BK544:=Z (blk_below (g:=gb544) (o:=.cells #[.slice A0_0 l0_0.length c0_0] 25 (0,0)) (pK BK544) hb);have n2_:=Z (below_step pB hb);clear HB;have HB:=n2_;clear n2_;(try clear hb);(try clear hb2);(try clear hk);(try clear hi);(try clear ho0)))
  go_ret2
  exact ⟨_,pF,pR HO548,pB⟩
 ·rw [if_neg c3] at H
  have c3b0:(t545 == 0)=false:=beq_eq_false_iff_ne.mpr c3
  have c3b1:(t545 != 0)=true:=bne_iff_ne.mpr c3
  simp only [Option.some.injEq,Prod.mk.injEq] at H
  obtain ⟨rfl,rfl⟩:=H
  go_enter Tryz.func34,Tryz.ntmps34
  go_wp2_with (first|((with_reducible refine gate_dst (N:=1) rfl ?_);refine box_event ?hg (N:=1) ?hd (cs:=#[.slice A0_0 l0_0.length c0_0]) (t:=25) ?hr ?_;(case hd=>rfl);(case hg=>rfl);(case hr=>first|(go_simp;done)|(go_simp;rfl));intro gb544 hg w10 hbox hb;have n0_:=Z (below_step pB hb);have BK544:=Z (hbox);have GW544:=Z ((pT hg:w.heap.size≤gb544));have GE544:=Z ((pT hg:w.heap.size≤gb544));clear HB;have HB:=n0_;clear n0_ hb hbox hg;obtain ⟨hcz11_0,hfz11_0⟩:=p1 BK544)|((with_reducible refine gate_callee (f:=95) rfl ?_);refine goesL_ (some 6) rfl rfl Tryz.func95 pU rfl #[.agg #[.slice A0_0 l0_0.length c0_0]] rfl pG ?_;(with_reducible refine (configuration_Valid.calls k _ _ l0_0 t545 _ ?side1 ?side2 A2.out).mono ?_);(case side1=>exact pC HR0_0);(case side2=>exact HC0_0.out);rintro e w12 ⟨rfl,hb⟩;refine ⟨_,rfl,?_⟩;replace BK544:=Z (blk_below (g:=gb544) (o:=.cells #[.slice A0_0 l0_0.length c0_0] 25 (0,0)) (pK BK544) hb);have n1_:=Z (below_step pB hb);clear HB;have HB:=n1_;clear n1_;(try clear hb);(try clear hb2);(try clear hk);(try clear hi)))
  go_ret2
  exact ⟨_,pF,pN,pB⟩
def danger_small.f (k:Nat) (l0_0:List (S92)):Option (Int):=(configuration_Valid.f k l0_0).bind fun t587=>(if t587=0 then (if (l0_0.length:Int) > 7 then (some 3) else (some 0)) else (some t587))
set_option maxHeartbeats 8000000 in
set_option maxRecDepth 100000 in
theorem danger_small.calls (k:Nat) (A0_0:Option Addr) (c0_0:Nat) (l0_0:List (S92)) (r:Int) (w:World) (hr0_0:Kd.C k92 w A0_0 l0_0.length l0_0) (hc0_0:l0_0.length≤c0_0) (h:danger_small.f k l0_0=some r) :
  Calls Tryz.prog 121 #[.agg #[.slice A0_0 l0_0.length c0_0]] w fun e w'=>e=.returned (.int .i64 r)∧Below w.heap.size w w':=by
 have hu25:=Tryz.underlying25
 have HR0_0:=Z hr0_0
 have HC0_0:=Z hc0_0
 clear hr0_0 hc0_0
 have HB:=Z (Below.refl w.heap.size w)
 have H:((configuration_Valid.f k l0_0).bind fun t587=>(if t587=0 then (if (l0_0.length:Int) > 7 then (some 3) else (some 0)) else (some t587)))=some r:=h
 clear h
 replace H:=pO H
 obtain ⟨t587,A20,H⟩:=H
 try dsimp only at H
 have A2:=Z A20
 clear A20
 by_cases c3:t587=0
 ·rw [if_pos c3] at H
  have c3b0:(t587 == 0)=true:=beq_iff_eq.mpr c3
  have c3b1:(t587 != 0)=false:=bne_eq_false_iff_eq.mpr c3
  clear c3
  by_cases c4:(l0_0.length:Int) > 7
  ·rw [if_pos c4] at H
   have c4b0:decide (7 < (l0_0.length:Int))=true:=decide_eq_true c4
   have c4b1:decide (7 < l0_0.length)=true:=decide_eq_true (by omega)
   clear c4
   obtain rfl:=Option.some.inj H
   go_enter Tryz.func121,Tryz.ntmps121
   go_wp2_with (first|((with_reducible refine gate_dst (N:=1) rfl ?_);refine box_event ?hg (N:=1) ?hd (cs:=#[.slice A0_0 l0_0.length c0_0]) (t:=25) ?hr ?_;(case hd=>rfl);(case hg=>rfl);(case hr=>first|(go_simp;done)|(go_simp;rfl));intro gb586 hg w5 hbox hb;have n0_:=Z (below_step pB hb);have BK586:=Z (hbox);have GW586:=Z ((pT hg:w.heap.size≤gb586));have GE586:=Z ((pT hg:w.heap.size≤gb586));clear HB;have HB:=n0_;clear n0_ hb hbox hg;obtain ⟨hcz6_0,hfz6_0⟩:=p1 BK586)|((with_reducible refine gate_callee (f:=95) rfl ?_);refine goesL_ (some 5) rfl rfl Tryz.func95 pU rfl #[.agg #[.slice A0_0 l0_0.length c0_0]] rfl pG ?_;(with_reducible refine (configuration_Valid.calls k _ _ l0_0 t587 _ ?side1 ?side2 A2.out).mono ?_);(case side1=>exact pC HR0_0);(case side2=>exact HC0_0.out);rintro e w7 ⟨rfl,hb⟩;refine ⟨_,rfl,?_⟩;replace BK586:=Z (blk_below (g:=gb586) (o:=.cells #[.slice A0_0 l0_0.length c0_0] 25 (0,0)) (pK BK586) hb);have n1_:=Z (below_step pB hb);clear HB;have HB:=n1_;clear n1_;(try clear hb);(try clear hb2);(try clear hk);(try clear hi);obtain ⟨hcz8_0,hfz8_0⟩:=p1 BK586))
   go_ret
   exact ⟨pF,pB⟩
  ·rw [if_neg c4] at H
   have c4b0:decide (7 < (l0_0.length:Int))=false:=decide_eq_false c4
   have c4b1:decide (7 < l0_0.length)=false:=decide_eq_false (by omega)
   clear c4
   obtain rfl:=Option.some.inj H
   go_enter Tryz.func121,Tryz.ntmps121
   go_wp2_with (first|((with_reducible refine gate_dst (N:=1) rfl ?_);refine box_event ?hg (N:=1) ?hd (cs:=#[.slice A0_0 l0_0.length c0_0]) (t:=25) ?hr ?_;(case hd=>rfl);(case hg=>rfl);(case hr=>first|(go_simp;done)|(go_simp;rfl));intro gb586 hg w9 hbox hb;have n0_:=Z (below_step pB hb);have BK586:=Z (hbox);have GW586:=Z ((pT hg:w.heap.size≤gb586));have GE586:=Z ((pT hg:w.heap.size≤gb586));clear HB;have HB:=n0_;clear n0_ hb hbox hg;obtain ⟨hcz10_0,hfz10_0⟩:=p1 BK586)|((with_reducible refine gate_callee (f:=95) rfl ?_);refine goesL_ (some 5) rfl rfl Tryz.func95 pU rfl #[.agg #[.slice A0_0 l0_0.length c0_0]] rfl pG ?_;(with_reducible refine (configuration_Valid.calls k _ _ l0_0 t587 _ ?side1 ?side2 A2.out).mono ?_);(case side1=>exact pC HR0_0);(case side2=>exact HC0_0.out);rintro e w11 ⟨rfl,hb⟩;refine ⟨_,rfl,?_⟩;replace BK586:=Z (blk_below (g:=gb586) (o:=.cells #[.slice A0_0 l0_0.length c0_0] 25 (0,0)) (pK BK586) hb);have n1_:=Z (below_step pB hb);clear HB;have HB:=n1_;clear n1_;(try clear hb);(try clear hb2);(try clear hk);(try clear hi);obtain ⟨hcz12_0,hfz12_0⟩:=p1 BK586))
   go_ret
   exact ⟨pF,pB⟩
 ·rw [if_neg c3] at H
  have c3b0:(t587 == 0)=false:=beq_eq_false_iff_ne.mpr c3
  have c3b1:(t587 != 0)=true:=bne_iff_ne.mpr c3
  obtain rfl:=Option.some.inj H
  go_enter Tryz.func121,Tryz.ntmps121
  go_wp2_with (first|((with_reducible refine gate_dst (N:=1) rfl ?_);refine box_event ?hg (N:=1) ?hd (cs:=#[.slice A0_0 l0_0.length c0_0]) (t:=25) ?hr ?_;(case hd=>rfl);(case hg=>rfl);(case hr=>first|(go_simp;done)|(go_simp;rfl));intro gb586 hg w13 hbox hb;have n0_:=Z (below_step pB hb);have BK586:=Z (hbox);have GW586:=Z ((pT hg:w.heap.size≤gb586));have GE586:=Z ((pT hg:w.heap.size≤gb586));clear HB;have HB:=n0_;clear n0_ hb hbox hg;obtain ⟨hcz14_0,hfz14_0⟩:=p1 BK586)|((with_reducible refine gate_callee (f:=95) rfl ?_);refine goesL_ (some 5) rfl rfl Tryz.func95 pU rfl #[.agg #[.slice A0_0 l0_0.length c0_0]] rfl pG ?_;(with_reducible refine (configuration_Valid.calls k _ _ l0_0 t587 _ ?side1 ?side2 A2.out).mono ?_);(case side1=>exact pC HR0_0);(case side2=>exact HC0_0.out);rintro e w15 ⟨rfl,hb⟩;refine ⟨_,rfl,?_⟩;replace BK586:=Z (blk_below (g:=gb586) (o:=.cells #[.slice A0_0 l0_0.length c0_0] 25 (0,0)) (pK BK586) hb);have n1_:=Z (below_step pB hb);clear HB;have HB:=n1_;clear n1_;(try clear hb);(try clear hb2);(try clear hk);(try clear hi)))
  go_ret
  exact ⟨pF,pB⟩
def intersection_Holds.f (k:Nat) (l0_0:List (S92)):Option (Bool × Int):=(configuration_Valid.f k l0_0).bind fun t577=>(if t577=0 then ((intersection_find.f k l0_0).bind fun bt578=>(some ((bt578.1 == 0),0))) else (some (false,t577)))
set_option maxHeartbeats 8000000 in
set_option maxRecDepth 100000 in
theorem intersection_Holds.calls (k:Nat) (A0_0:Option Addr) (c0_0:Nat) (l0_0:List (S92)) (r1:Bool) (r2:Int) (w:World) (hr0_0:Kd.C k92 w A0_0 l0_0.length l0_0) (hc0_0:l0_0.length≤c0_0) (h:intersection_Holds.f k l0_0=some (r1,r2)) :
  Calls Tryz.prog 140 #[.agg #[.slice A0_0 l0_0.length c0_0]] w fun e w'=>e=.returned (.tuple #[.bool r1,.int .i64 r2])∧Below w.heap.size w w':=by
 have hu25:=Tryz.underlying25
 have HR0_0:=Z hr0_0
 have HC0_0:=Z hc0_0
 clear hr0_0 hc0_0
 have HB:=Z (Below.refl w.heap.size w)
 have H:((configuration_Valid.f k l0_0).bind fun t577=>(if t577=0 then ((intersection_find.f k l0_0).bind fun bt578=>(some ((bt578.1 == 0),0))) else (some (false,t577))))=some (r1,r2):=h
 clear h
 replace H:=pO H
 obtain ⟨t577,A20,H⟩:=H
 try dsimp only at H
 have A2:=Z A20
 clear A20
 by_cases c3:t577=0
 ·rw [if_pos c3] at H
  have c3b0:(t577 == 0)=true:=beq_iff_eq.mpr c3
  have c3b1:(t577 != 0)=false:=bne_eq_false_iff_eq.mpr c3
  clear c3
  replace H:=pO H
  obtain ⟨⟨t578,t579⟩,A40,H⟩:=H
  try dsimp only at H
  have A4:=Z A40
  clear A40
  simp only [Option.some.injEq,Prod.mk.injEq] at H
  obtain ⟨rfl,rfl⟩:=H
  go_enter Tryz.func140,Tryz.ntmps140
  go_wp2_with (first|((with_reducible refine gate_dst (N:=1) rfl ?_);refine box_event ?hg (N:=1) ?hd (cs:=#[.slice A0_0 l0_0.length c0_0]) (t:=25) ?hr ?_;(case hd=>rfl);(case hg=>rfl);(case hr=>first|(go_simp;done)|(go_simp;rfl));intro gb576 hg w5 hbox hb;have n0_:=Z (below_step pB hb);have BK576:=Z (hbox);have GW576:=Z ((pT hg:w.heap.size≤gb576));have GE576:=Z ((pT hg:w.heap.size≤gb576));clear HB;have HB:=n0_;clear n0_ hb hbox hg;obtain ⟨hcz6_0,hfz6_0⟩:=p1 BK576)|((with_reducible refine gate_callee (f:=95) rfl ?_);refine goesL_ (some 8) rfl rfl Tryz.func95 pU rfl #[.agg #[.slice A0_0 l0_0.length c0_0]] rfl pG ?_;(with_reducible refine (configuration_Valid.calls k _ _ l0_0 t577 _ ?side1 ?side2 A2.out).mono ?_);(case side1=>exact pC HR0_0);(case side2=>exact HC0_0.out);rintro e w7 ⟨rfl,hb⟩;refine ⟨_,rfl,?_⟩;replace BK576:=Z (blk_below (g:=gb576) (o:=.cells #[.slice A0_0 l0_0.length c0_0] 25 (0,0)) (pK BK576) hb);have n1_:=Z (below_step pB hb);clear HB;have HB:=n1_;clear n1_;(try clear hb);(try clear hb2);(try clear hk);(try clear hi);obtain ⟨hcz8_0,hfz8_0⟩:=p1 BK576)|((with_reducible refine gate_callee (f:=171) rfl ?_);refine goesL_ (some 14) rfl rfl Tryz.func171 pU rfl #[.agg #[.slice A0_0 l0_0.length c0_0]] rfl pG ?_;(with_reducible refine (intersection_find.calls k _ _ l0_0 t578 t579 _ ?side1 ?side2 A4.out).mono ?_);(case side1=>exact pC HR0_0);(case side2=>exact HC0_0.out);rintro e w9 ⟨rfl,hb⟩;refine ⟨_,rfl,?_⟩;replace BK576:=Z (blk_below (g:=gb576) (o:=.cells #[.slice A0_0 l0_0.length c0_0] 25 (0,0)) (pK BK576) hb);have n1_:=Z (below_step pB hb);clear HB;have HB:=n1_;clear n1_;(try clear hb);(try clear hb2);(try clear hk);(try clear hi)))
  go_ret2
  exact ⟨pF,pB⟩
 ·rw [if_neg c3] at H
  have c3b0:(t577 == 0)=false:=beq_eq_false_iff_ne.mpr c3
  have c3b1:(t577 != 0)=true:=bne_iff_ne.mpr c3
  simp only [Option.some.injEq,Prod.mk.injEq] at H
  obtain ⟨rfl,rfl⟩:=H
  go_enter Tryz.func140,Tryz.ntmps140
  go_wp2_with (first|((with_reducible refine gate_dst (N:=1) rfl ?_);refine box_event ?hg (N:=1) ?hd (cs:=#[.slice A0_0 l0_0.length c0_0]) (t:=25) ?hr ?_;(case hd=>rfl);(case hg=>rfl);(case hr=>first|(go_simp;done)|(go_simp;rfl));intro gb576 hg w10 hbox hb;have n0_:=Z (below_step pB hb);have BK576:=Z (hbox);have GW576:=Z ((pT hg:w.heap.size≤gb576));have GE576:=Z ((pT hg:w.heap.size≤gb576));clear HB;have HB:=n0_;clear n0_ hb hbox hg;obtain ⟨hcz11_0,hfz11_0⟩:=p1 BK576)|((with_reducible refine gate_callee (f:=95) rfl ?_);refine goesL_ (some 8) rfl rfl Tryz.func95 pU rfl #[.agg #[.slice A0_0 l0_0.length c0_0]] rfl pG ?_;(with_reducible refine (configuration_Valid.calls k _ _ l0_0 t577 _ ?side1 ?side2 A2.out).mono ?_);(case side1=>exact pC HR0_0);(case side2=>exact HC0_0.out);rintro e w12 ⟨rfl,hb⟩;refine ⟨_,rfl,?_⟩;replace BK576:=Z (blk_below (g:=gb576) (o:=.cells #[.slice A0_0 l0_0.length c0_0] 25 (0,0)) (pK BK576) hb);have n1_:=Z (below_step pB hb);clear HB;have HB:=n1_;clear n1_;(try clear hb);(try clear hb2);(try clear hk);(try clear hi)))
  go_ret2
  exact ⟨pF,pB⟩
end Go.Proofs.YtkjlcbfjllpcnaaGreat.X
namespace Go.Proofs.YtkjlcbfjllpcnaaGreat.X
open Go.RowKit YtkjlcbfjllpcnaaGreatW.PrintWords YtkjlcbfjllpcnaaGreatW.PrintLast YtkjlcbfjllpcnaaGreatW.PrintMore
mutual
def depL:List S90→Nat
 | []=>0
 | t :: ts=>max (dep t) (depL ts)
def dep:S90→Nat
 | ⟨_,_,ts⟩=>depL ts+1
end
mutual
def sizL:List S90→Nat
 | []=>0
 | t :: ts=>siz t+sizL ts
def siz:S90→Nat
 | ⟨_,l,ts⟩=>l.length+ts.length+sizL ts
end
mutual
def useL:List S90→Nat
 | []=>0
 | t :: ts=>uses t ||| useL ts
def uses:S90→Nat
 | ⟨_,l,ts⟩=>l.foldl (fun a x=>if noNode x=true then a else a ||| 2 ^ x.toNat) 0 ||| useL ts
end
def ofS (a:Nat):List Int→Nat × Int
 | []=>(a,0)
 | x :: xs=>if noNode x=true then (0,5) else if inS a x=true then (0,6) else ofS (a ||| 2 ^ x.toNat) xs
mutual
def chkL:List S90→Int
 | []=>0
 | t :: ts=>if chk t=0 then chkL ts else chk t
def chk:S90→Int
 | ⟨n,l,ts⟩=>if n < 1 ∨ n > ((l.length+ts.length:Nat):Int) then 4 else if (l.any noNode)=true then 5 else if (ofS 0 l).2=0 then chkL ts else (ofS 0 l).2
end
def validT (t:S90):Int:=if dep t > 4 then 3 else if siz t > 200 then 3 else chk t
theorem dep_eq (t:S90):dep t=depL t.f2+1:=by cases t;rw [dep]
theorem siz_eq (t:S90):siz t=t.f1.length+t.f2.length+sizL t.f2:=by cases t;rw [siz]
theorem chk_eq (t:S90):chk t=if t.f0 < 1 ∨ t.f0 > ((t.f1.length+t.f2.length:Nat):Int) then 4 else if (t.f1.any noNode)=true then 5 else if (ofS 0 t.f1).2=0 then chkL t.f2 else (ofS 0 t.f1).2:=by cases t;rw [chk]
theorem uses_eq (t:S90):uses t=t.f1.foldl (fun a x=>if noNode x=true then a else a ||| 2 ^ x.toNat) 0 ||| useL t.f2:=by cases t;rw [uses]
mutual
theorem dep_le:∀ t:S90,dep t≤wt t
 | ⟨_,l,ts⟩=>by rw [dep,wt];have:=depL_le ts;omega
theorem depL_le:∀ l:List S90,depL l≤wtL l
 | []=>Nat.le_refl _
 | t :: ts=>by rw [depL,wtL];have:=dep_le t;have:=depL_le ts;omega
end
mutual
theorem siz_le : ∀ t : S90, siz t ≤ 2 * wt t
  | ⟨_, l, ts⟩ => by rw [siz, wt]; have := sizL_le ts; omega
theorem sizL_le : ∀ l : List S90, l.length + sizL l ≤ 2 * wtL l
  | [] => Nat.le_refl _
  | t :: ts => by rw [sizL, wtL, List.length_cons]; have := siz_le t; have := sizL_le ts; have := wt_pos t; have : 1 + siz t ≤ 2 * wt t := by
                    cases t with | mk n l xs => rw [siz, wt]; have := sizL_le xs; omega
                  omega
end
theorem or_lt {a b n:Nat} (ha:a < 2 ^ n) (hb:b < 2 ^ n):a ||| b < 2 ^ n:=Nat.or_lt_two_pow ha hb
theorem or_lt10 {a b:Nat} (ha:a < 1024) (hb:b < 1024):a ||| b < 1024:=or_lt (n:=10) ha hb
theorem two_lt10 {k:Nat} (h:k < 10):2 ^ k < 1024:=Nat.pow_lt_pow_right (a:=2) (by decide) h
theorem noNode_not {x:Int} (h:noNode x=false):0≤x∧x < 10:=by simp [noNode] at h;omega
theorem foldUse_lt (l:List Int):∀ a,a < 1024→l.foldl (fun a x=>if noNode x=true then a else a ||| 2 ^ x.toNat) a < 1024:=by
 induction l with
 | nil=>intro a h;exact h
 | cons x xs ih =>
  intro a h
  rw [List.foldl_cons]
  refine ih _ ?_
  cases hx:noNode x
  ·have:=noNode_not hx
   exact or_lt10 h (two_lt10 (by omega))
  ·exact h
mutual
theorem uses_lt:∀ t:S90,uses t < 1024
 | ⟨_,l,ts⟩=>by rw [uses];exact or_lt10 (foldUse_lt l 0 (by decide)) (useL_lt ts)
theorem useL_lt:∀ l:List S90,useL l < 1024
 | []=>by rw [useL];decide
 | t :: ts=>by rw [useL];exact or_lt10 (uses_lt t) (useL_lt ts)
end
theorem mx_nat (a b:Nat):mx (a:Int) (b:Int)=((max a b:Nat):Int):=by unfold mx;split <;> omega
theorem Depth_ev:∀ (n:Nat) (t:S90),wt t < n→n < 1152921504606846976→Ev (fun k=>threshold_Depth.f k t.f0 t.f1 t.f2) (dep t:Int)
 | 0,t,h,_=>absurd h (by omega)
 | n+1,t,h,hn=>by
  rw [wt_eq] at h
  have hl:=len_wtL t.f2
  have hd:=depL_le t.f2
  rw [dep_eq]
  (refine Ev.shift ?_;simp only [threshold_Depth.f,Option.bind_some,↓reduceIte,Bool.false_eq_true,reduceCtorEq,decide_eq_true_eq,rd_,rd_T90,rd_T92])
  refine Ev.fold (xs:=t.f2) (L:=fun (c:Nat) i k=>threshold_Depth.l0 k (c:Int) t.f2 (t.f2.length:Int) i) (by omega) (fun pre ys c=>max c (depL ys)=depL t.f2) ?_ ?_ 0 (by omega)
  ·intro c i hI hi
   rw [depL] at hI
   (refine Ev.shift ?_;simp only [threshold_Depth.l0,hi,Option.bind_some,↓reduceIte,Bool.false_eq_true,reduceCtorEq,decide_eq_true_eq,rd_,rd_T90,rd_T92])
   rw [show wrap64 ((c:Int)+1)=((depL t.f2+1:Nat):Int) by rw [w64 (by omega) (by omega)];omega]
   exact Ev.now _
  ·intro pre y ys c i e hI hi h0 hlt hw hrd
   rw [depL] at hI
   refine Or.inl ⟨max c (dep y),by omega,fun k=>?_⟩
   (refine Ev.shift ?_;simp only [threshold_Depth.l0,h0,hlt,hw,hrd,Option.bind_some,↓reduceIte,Bool.false_eq_true,reduceCtorEq,decide_eq_true_eq,rd_,rd_T90,rd_T92])
   refine Ev.bind1 (Depth_ev n y (by have:=wt_mem (show y∈t.f2 by rw [e];simp);omega) (by omega)) ?_
   rw [mx_nat]
   exact k
theorem Size_ev:∀ (n:Nat) (t:S90),wt t < n→n < 1152921504606846976→Ev (fun k=>threshold_Size.f k t.f0 t.f1 t.f2) (siz t:Int)
 | 0,t,h,_=>absurd h (by omega)
 | n+1,t,h,hn=>by
  have hs:=siz_le t
  have hw:=h
  rw [wt_eq] at h
  have hl:=len_wtL t.f2
  rw [siz_eq] at hs ⊢
  (refine Ev.shift ?_;simp only [threshold_Size.f,Option.bind_some,↓reduceIte,Bool.false_eq_true,reduceCtorEq,decide_eq_true_eq,rd_,rd_T90,rd_T92])
  rw [show wrap64 ((t.f1.length:Int)+(t.f2.length:Int))=((t.f1.length+t.f2.length:Nat):Int) by rw [w64 (by omega) (by omega)];omega]
  refine Ev.fold (L:=fun (c:Nat) i k=>threshold_Size.l0 k (c:Int) t.f2 (t.f2.length:Int) i) (by omega) (fun pre ys c=>c+sizL ys=t.f1.length+t.f2.length+sizL t.f2) ?_ ?_ (t.f1.length+t.f2.length) rfl
  ·intro c i hI hi
   rw [sizL] at hI
   (refine Ev.shift ?_;simp only [threshold_Size.l0,hi,Option.bind_some,↓reduceIte,Bool.false_eq_true,reduceCtorEq,decide_eq_true_eq,rd_,rd_T90,rd_T92])
   rw [← hI]
   exact Ev.now _
  ·intro pre y ys c i e hI hi h0 hlt hw hrd
   rw [sizL] at hI
   refine Or.inl ⟨c+siz y,by omega,fun k=>?_⟩
   (refine Ev.shift ?_;simp only [threshold_Size.l0,h0,hlt,hw,hrd,Option.bind_some,↓reduceIte,Bool.false_eq_true,reduceCtorEq,decide_eq_true_eq,rd_,rd_T90,rd_T92])
   refine Ev.bind1 (Size_ev n y (by have:=wt_mem (show y∈t.f2 by rw [e];simp);omega) (by omega)) ?_
   rw [show wrap64 ((c:Int)+(siz y:Int))=((c+siz y:Nat):Int) by rw [w64 (by omega) (by omega)];omega]
   exact k
theorem Of_ev (l:List Int) (hl:l.length < 1152921504606846976):Ev (fun k=>nodeset_Of.f k l) (((ofS 0 l).1:Int),(ofS 0 l).2):=by
 refine Ev.congr (f:=fun k=>nodeset_Of.l0 k ((0:Nat):Int) l (l.length:Int) 0) (fun k=>rfl) ?_
 refine Ev.fold (L:=fun (c:Nat) i k=>nodeset_Of.l0 k (c:Int) l (l.length:Int) i) (by omega) (fun pre ys c=>ofS c ys=ofS 0 l∧c < 1024) ?_ ?_ 0 ⟨rfl,by decide⟩
 ·rintro c i ⟨hI,hc⟩ hi
  (refine Ev.shift ?_;simp only [nodeset_Of.l0,hi,Option.bind_some,↓reduceIte,Bool.false_eq_true,reduceCtorEq,decide_eq_true_eq,rd_,rd_T90,rd_T92])
  rw [← hI]
  exact Ev.now _
 ·rintro pre y ys c i e ⟨hI,hc⟩ hi h0 hlt hw hrd
  rw [ofS] at hI
  cases hn:noNode y
  ·have hb:=noNode_not hn
   simp only [hn,Bool.false_eq_true,if_false] at hI
   cases hs:inS c y
   ·refine Or.inl ⟨c ||| 2 ^ y.toNat,⟨by simpa [hs] using hI,or_lt10 hc (two_lt10 (by omega))⟩,fun k=>?_⟩
    have h2:=two_lt10 (show y.toNat < 10 by omega)
    have e2:Go.bits .or .i64 (c:Int) (shl .i64 1 y)=((c ||| 2 ^ y.toNat:Nat):Int):=by
     rw [show y=(y.toNat:Int) by omega,shl_nat (by omega),Int.toNat_natCast,or_nat (by omega) (by omega)]
    have h1:¬ y < 0:=by omega
    have h3:decide (y ≥ 10)=false:=by simp;omega
    (refine Ev.shift ?_;simp only [nodeset_Of.l0,h0,hlt,hw,hrd,h1,h3,Option.bind_some,↓reduceIte,Bool.false_eq_true,reduceCtorEq,decide_eq_true_eq,rd_,rd_T90,rd_T92])
    (refine Ev.shift ?_;simp only [nodeset_Of.j1,Has_eq hc,hs,hb.1,hw,Option.bind_some,↓reduceIte,Bool.false_eq_true,reduceCtorEq,decide_eq_true_eq,rd_,rd_T90,rd_T92])
    rw [e2]
    exact k
   ·refine Or.inr ?_
    simp only [hs,if_true] at hI
    have h1:¬ y < 0:=by omega
    have h3:decide (y ≥ 10)=false:=by simp;omega
    (refine Ev.shift ?_;simp only [nodeset_Of.l0,h0,hlt,hw,hrd,h1,h3,Option.bind_some,↓reduceIte,Bool.false_eq_true,reduceCtorEq,decide_eq_true_eq,rd_,rd_T90,rd_T92])
    (refine Ev.shift ?_;simp only [nodeset_Of.j1,Has_eq hc,hs,Option.bind_some,↓reduceIte,Bool.false_eq_true,reduceCtorEq,decide_eq_true_eq,rd_,rd_T90,rd_T92])
    rw [← hI]
    exact Ev.now _
  ·refine Or.inr ?_
   simp only [hn,if_true] at hI
   rw [← hI]
   by_cases h1:y < 0
   ·(refine Ev.shift ?_;simp only [nodeset_Of.l0,h0,hlt,hw,hrd,h1,Option.bind_some,↓reduceIte,Bool.false_eq_true,reduceCtorEq,decide_eq_true_eq,rd_,rd_T90,rd_T92])
    (refine Ev.shift ?_;simp only [nodeset_Of.j1,Option.bind_some,↓reduceIte,Bool.false_eq_true,reduceCtorEq,decide_eq_true_eq,rd_,rd_T90,rd_T92])
    exact Ev.now _
   ·have h3:decide (y ≥ 10)=true:=by simp [noNode] at hn ⊢;omega
    (refine Ev.shift ?_;simp only [nodeset_Of.l0,h0,hlt,hw,hrd,h1,h3,Option.bind_some,↓reduceIte,Bool.false_eq_true,reduceCtorEq,decide_eq_true_eq,rd_,rd_T90,rd_T92])
    (refine Ev.shift ?_;simp only [nodeset_Of.j1,Option.bind_some,↓reduceIte,Bool.false_eq_true,reduceCtorEq,decide_eq_true_eq,rd_,rd_T90,rd_T92])
    exact Ev.now _
theorem Uses_ev:∀ (n:Nat) (t:S90),wt t < n→n < 1152921504606846976→Ev (fun k=>threshold_Uses.f k t.f0 t.f1 t.f2) (uses t:Int)
 | 0,t,h,_=>absurd h (by omega)
 | n+1,t,h,hn=>by
  rw [wt_eq] at h
  have hl:=len_wtL t.f2
  have hU:=uses_lt t
  rw [uses_eq] at hU ⊢
  generalize hT:(t.f1.foldl (fun a x=>if noNode x=true then a else a ||| 2 ^ x.toNat) 0 ||| useL t.f2)=T at hU
  have l1:∀ c,c < 1024→c ||| useL t.f2=T→Ev (fun k=>threshold_Uses.l1 k (c:Int) t.f2 (t.f2.length:Int) 0) (T:Int):=by
   intro c hc hcT
   refine Ev.fold (L:=fun (c:Nat) i k=>threshold_Uses.l1 k (c:Int) t.f2 (t.f2.length:Int) i) (by omega) (fun pre ys c=>c ||| useL ys=T∧c < 1024) ?_ ?_ c ⟨hcT,hc⟩
   ·rintro c i ⟨hI,hc⟩ hi
    rw [useL,Nat.or_zero] at hI
    (refine Ev.shift ?_;simp only [threshold_Uses.l1,hi,Option.bind_some,↓reduceIte,Bool.false_eq_true,reduceCtorEq,decide_eq_true_eq,rd_,rd_T90,rd_T92])
    rw [← hI]
    exact Ev.now _
   ·rintro pre y ys c i e ⟨hI,hc⟩ hi h0 hlt hw hrd
    rw [useL] at hI
    refine Or.inl ⟨c ||| uses y,⟨by rw [Nat.or_assoc];exact hI,or_lt10 hc (uses_lt y)⟩,fun k=>?_⟩
    (refine Ev.shift ?_;simp only [threshold_Uses.l1,h0,hlt,hw,hrd,Option.bind_some,↓reduceIte,Bool.false_eq_true,reduceCtorEq,decide_eq_true_eq,rd_,rd_T90,rd_T92])
    refine Ev.bind1 (Uses_ev n y (by have:=wt_mem (show y∈t.f2 by rw [e];simp);omega) (by omega)) ?_
    have:=uses_lt y
    rw [or_nat (by omega) (by omega)]
    exact k
  (refine Ev.shift ?_;simp only [threshold_Uses.f,Option.bind_some,↓reduceIte,Bool.false_eq_true,reduceCtorEq,decide_eq_true_eq,rd_,rd_T90,rd_T92])
  refine Ev.fold (L:=fun (c:Nat) i k=>threshold_Uses.l0 k (c:Int) t.f1 (t.f1.length:Int) i t.f0 t.f1 t.f2) (by omega) (fun pre ys c=>(ys.foldl (fun a x=>if noNode x=true then a else a ||| 2 ^ x.toNat) c) ||| useL t.f2=T∧c < 1024) ?_ ?_ 0 ⟨hT,by decide⟩
  ·rintro c i ⟨hI,hc⟩ hi
   (refine Ev.shift ?_;simp only [threshold_Uses.l0,hi,Option.bind_some,↓reduceIte,Bool.false_eq_true,reduceCtorEq,decide_eq_true_eq,rd_,rd_T90,rd_T92])
   exact l1 c hc hI
  ·rintro pre y ys c i e ⟨hI,hc⟩ hi h0 hlt hw hrd
   rw [List.foldl_cons] at hI
   cases hn:noNode y
   ·have hb:=noNode_not hn
    have h2:=two_lt10 (show y.toNat < 10 by omega)
    refine Or.inl ⟨c ||| 2 ^ y.toNat,⟨by simpa [hn] using hI,or_lt10 hc h2⟩,fun k=>?_⟩
    have e2:Go.bits .or .i64 (c:Int) (shl .i64 1 y)=((c ||| 2 ^ y.toNat:Nat):Int):=by
     rw [show y=(y.toNat:Int) by omega,shl_nat (by omega),Int.toNat_natCast,or_nat (by omega) (by omega)]
    have h3:y ≥ 0:=by omega
    have h4:y < 10:=by omega
    (refine Ev.shift ?_;simp only [threshold_Uses.l0,threshold_node.f,h0,hlt,hw,hrd,h3,h4,decide_true,hb.1,Option.bind_some,↓reduceIte,Bool.false_eq_true,reduceCtorEq,decide_eq_true_eq,rd_,rd_T90,rd_T92])
    rw [e2]
    exact k
   ·refine Or.inl ⟨c,⟨by simpa [hn] using hI,hc⟩,fun k=>?_⟩
    by_cases h3:y ≥ 0
    ·have h4:¬ y < 10:=by simp [noNode] at hn;omega
     (refine Ev.shift ?_;simp only [threshold_Uses.l0,threshold_node.f,h0,hlt,hw,hrd,h3,h4,decide_false,Option.bind_some,↓reduceIte,Bool.false_eq_true,reduceCtorEq,decide_eq_true_eq,rd_,rd_T90,rd_T92])
     exact k
    ·(refine Ev.shift ?_;simp only [threshold_Uses.l0,threshold_node.f,h0,hlt,hw,hrd,h3,Option.bind_some,↓reduceIte,Bool.false_eq_true,reduceCtorEq,decide_eq_true_eq,rd_,rd_T90,rd_T92])
     exact k
theorem level_ev:∀ (n:Nat) (t:S90),wt t < n→n < 1152921504606846976→Ev (fun k=>threshold_level.f k t.f0 t.f1 t.f2) (chk t)
 | 0,t,h,_=>absurd h (by omega)
 | n+1,t,h,hn=>by
  rw [wt_eq] at h
  have hl:=len_wtL t.f2
  rw [chk_eq]
  have el:wrap64 ((t.f1.length:Int)+(t.f2.length:Int))=((t.f1.length+t.f2.length:Nat):Int):=by rw [w64 (by omega) (by omega)];omega
  by_cases h1:t.f0 < 1
  ·(refine Ev.shift ?_;simp only [threshold_level.f,h1,true_or,Option.bind_some,↓reduceIte,Bool.false_eq_true,reduceCtorEq,decide_eq_true_eq,rd_,rd_T90,rd_T92])
   (refine Ev.shift ?_;simp only [threshold_level.j0,Option.bind_some,↓reduceIte,Bool.false_eq_true,reduceCtorEq,decide_eq_true_eq,rd_,rd_T90,rd_T92])
   exact Ev.now _
  by_cases h2:t.f0 > ((t.f1.length+t.f2.length:Nat):Int)
  ·(refine Ev.shift ?_;simp only [threshold_level.f,h1,h2,el,or_true,decide_true,Option.bind_some,↓reduceIte,Bool.false_eq_true,reduceCtorEq,decide_eq_true_eq,rd_,rd_T90,rd_T92])
   (refine Ev.shift ?_;simp only [threshold_level.j0,Option.bind_some,↓reduceIte,Bool.false_eq_true,reduceCtorEq,decide_eq_true_eq,rd_,rd_T90,rd_T92])
   exact Ev.now _
  (refine Ev.shift ?_;simp only [threshold_level.f,h1,h2,el,or_false,decide_false,Option.bind_some,↓reduceIte,Bool.false_eq_true,reduceCtorEq,decide_eq_true_eq,rd_,rd_T90,rd_T92])
  (refine Ev.shift ?_;simp only [threshold_level.j0,containsFunc_level.f,Option.bind_some,↓reduceIte,Bool.false_eq_true,reduceCtorEq,decide_eq_true_eq,rd_,rd_T90,rd_T92])
  cases hn:t.f1.any noNode
  ·simp only [Bool.false_eq_true,if_false]
   refine Ev.bind1 (Of_ev t.f1 (by omega)) ?_
   by_cases h3:(ofS 0 t.f1).2=0
   ·simp only [h3,if_true]
    refine Ev.fold (L:=fun (c:Unit) i k=>threshold_level.l0 k t.f2 (t.f2.length:Int) i) (by omega) (fun pre ys c=>chkL ys=chkL t.f2) ?_ ?_ () rfl
    ·intro c i hI hi
     rw [chkL] at hI
     (refine Ev.shift ?_;simp only [threshold_level.l0,hi,Option.bind_some,↓reduceIte,Bool.false_eq_true,reduceCtorEq,decide_eq_true_eq,rd_,rd_T90,rd_T92])
     rw [← hI]
     exact Ev.now _
    ·intro pre y ys c i e hI hi h0 hlt hw hrd
     rw [chkL] at hI
     have hy:=level_ev n y (by have:=wt_mem (show y∈t.f2 by rw [e];simp);omega) (by omega)
     by_cases h4:chk y=0
     ·refine Or.inl ⟨(),by rw [← hI,if_pos h4],fun k=>?_⟩
      (refine Ev.shift ?_;simp only [threshold_level.l0,h0,hlt,hw,hrd,Option.bind_some,↓reduceIte,Bool.false_eq_true,reduceCtorEq,decide_eq_true_eq,rd_,rd_T90,rd_T92])
      refine Ev.bind1 hy ?_
      simp only [h4,if_true]
      exact k
     ·refine Or.inr ?_
      rw [← hI,if_neg h4]
      (refine Ev.shift ?_;simp only [threshold_level.l0,h0,hlt,hw,hrd,Option.bind_some,↓reduceIte,Bool.false_eq_true,reduceCtorEq,decide_eq_true_eq,rd_,rd_T90,rd_T92])
      refine Ev.bind1 hy ?_
      simp only [h4,if_false]
      exact Ev.now _
   ·simp only [h3,if_false]
    exact Ev.now _
  ·simp only [if_true]
   exact Ev.now _
theorem Valid_ev (t:S90) (h:wt t < 1000000):Ev (fun k=>threshold_Valid.f k t.f0 t.f1 t.f2) (validT t):=by
 simp only [threshold_Valid.f,validT,Option.bind_some,↓reduceIte,Bool.false_eq_true,reduceCtorEq,decide_eq_true_eq,rd_,rd_T90,rd_T92]
 refine Ev.bind1 (Depth_ev 1000000 t h (by decide)) ?_
 by_cases h1:dep t > 4
 ·have:(dep t:Int) > 4:=by omega
  simp only [h1,this,Option.bind_some,↓reduceIte,Bool.false_eq_true,reduceCtorEq,decide_eq_true_eq,rd_,rd_T90,rd_T92]
  exact Ev.now _
 have h2:¬ (dep t:Int) > 4:=by omega
 simp only [h1,h2,Option.bind_some,↓reduceIte,Bool.false_eq_true,reduceCtorEq,decide_eq_true_eq,rd_,rd_T90,rd_T92]
 refine Ev.bind1 (Size_ev 1000000 t h (by decide)) ?_
 by_cases h3:siz t > 200
 ·have:(siz t:Int) > 200:=by omega
  simp only [h3,this,Option.bind_some,↓reduceIte,Bool.false_eq_true,reduceCtorEq,decide_eq_true_eq,rd_,rd_T90,rd_T92]
  exact Ev.now _
 have h4:¬ (siz t:Int) > 200:=by omega
 simp only [h3,h4,Option.bind_some,↓reduceIte,Bool.false_eq_true,reduceCtorEq,decide_eq_true_eq,rd_,rd_T90,rd_T92]
 refine Ev.bind1 (level_ev 1000000 t h (by decide)) ?_
 exact Ev.now _
theorem ref_Depth_ev:∀ (n:Nat) (t:S90),wt t < n→n < 1152921504606846976→Ev (fun k=>qref02_Depth.f k t.f0 t.f1 t.f2) (dep t:Int)
 | 0,t,h,_=>absurd h (by omega)
 | n+1,t,h,hn=>by
  rw [wt_eq] at h
  have hl:=len_wtL t.f2
  have hd:=depL_le t.f2
  rw [dep_eq]
  (refine Ev.shift ?_;simp only [qref02_Depth.f,Option.bind_some,↓reduceIte,Bool.false_eq_true,reduceCtorEq,decide_eq_true_eq,rd_,rd_T90,rd_T92])
  refine Ev.fold (xs:=t.f2) (L:=fun (c:Nat) i k=>qref02_Depth.l0 k (c:Int) t.f2 (t.f2.length:Int) i) (by omega) (fun pre ys c=>max c (depL ys)=depL t.f2) ?_ ?_ 0 (by omega)
  ·intro c i hI hi
   rw [depL] at hI
   (refine Ev.shift ?_;simp only [qref02_Depth.l0,hi,Option.bind_some,↓reduceIte,Bool.false_eq_true,reduceCtorEq,decide_eq_true_eq,rd_,rd_T90,rd_T92])
   rw [show wrap64 ((c:Int)+1)=((depL t.f2+1:Nat):Int) by rw [w64 (by omega) (by omega)];omega]
   exact Ev.now _
  ·intro pre y ys c i e hI hi h0 hlt hw hrd
   rw [depL] at hI
   refine Or.inl ⟨max c (dep y),by omega,fun k=>?_⟩
   (refine Ev.shift ?_;simp only [qref02_Depth.l0,h0,hlt,hw,hrd,Option.bind_some,↓reduceIte,Bool.false_eq_true,reduceCtorEq,decide_eq_true_eq,rd_,rd_T90,rd_T92])
   refine Ev.bind1 (ref_Depth_ev n y (by have:=wt_mem (show y∈t.f2 by rw [e];simp);omega) (by omega)) ?_
   rw [mx_nat]
   exact k
theorem ref_Size_ev:∀ (n:Nat) (t:S90),wt t < n→n < 1152921504606846976→Ev (fun k=>qref02_Size.f k t.f0 t.f1 t.f2) (siz t:Int)
 | 0,t,h,_=>absurd h (by omega)
 | n+1,t,h,hn=>by
  have hs:=siz_le t
  have hw:=h
  rw [wt_eq] at h
  have hl:=len_wtL t.f2
  rw [siz_eq] at hs ⊢
  (refine Ev.shift ?_;simp only [qref02_Size.f,Option.bind_some,↓reduceIte,Bool.false_eq_true,reduceCtorEq,decide_eq_true_eq,rd_,rd_T90,rd_T92])
  rw [show wrap64 ((t.f1.length:Int)+(t.f2.length:Int))=((t.f1.length+t.f2.length:Nat):Int) by rw [w64 (by omega) (by omega)];omega]
  refine Ev.fold (L:=fun (c:Nat) i k=>qref02_Size.l0 k (c:Int) t.f2 (t.f2.length:Int) i) (by omega) (fun pre ys c=>c+sizL ys=t.f1.length+t.f2.length+sizL t.f2) ?_ ?_ (t.f1.length+t.f2.length) rfl
  ·intro c i hI hi
   rw [sizL] at hI
   (refine Ev.shift ?_;simp only [qref02_Size.l0,hi,Option.bind_some,↓reduceIte,Bool.false_eq_true,reduceCtorEq,decide_eq_true_eq,rd_,rd_T90,rd_T92])
   rw [← hI]
   exact Ev.now _
  ·intro pre y ys c i e hI hi h0 hlt hw hrd
   rw [sizL] at hI
   refine Or.inl ⟨c+siz y,by omega,fun k=>?_⟩
   (refine Ev.shift ?_;simp only [qref02_Size.l0,h0,hlt,hw,hrd,Option.bind_some,↓reduceIte,Bool.false_eq_true,reduceCtorEq,decide_eq_true_eq,rd_,rd_T90,rd_T92])
   refine Ev.bind1 (ref_Size_ev n y (by have:=wt_mem (show y∈t.f2 by rw [e];simp);omega) (by omega)) ?_
   rw [show wrap64 ((c:Int)+(siz y:Int))=((c+siz y:Nat):Int) by rw [w64 (by omega) (by omega)];omega]
   exact k
theorem ref_Of_ev (l:List Int) (hl:l.length < 1152921504606846976):Ev (fun k=>qref01_Of.f k l) (((ofS 0 l).1:Int),(ofS 0 l).2):=by
 refine Ev.congr (f:=fun k=>qref01_Of.l0 k ((0:Nat):Int) l (l.length:Int) 0) (fun k=>rfl) ?_
 refine Ev.fold (L:=fun (c:Nat) i k=>qref01_Of.l0 k (c:Int) l (l.length:Int) i) (by omega) (fun pre ys c=>ofS c ys=ofS 0 l∧c < 1024) ?_ ?_ 0 ⟨rfl,by decide⟩
 ·rintro c i ⟨hI,hc⟩ hi
  (refine Ev.shift ?_;simp only [qref01_Of.l0,hi,Option.bind_some,↓reduceIte,Bool.false_eq_true,reduceCtorEq,decide_eq_true_eq,rd_,rd_T90,rd_T92])
  rw [← hI]
  exact Ev.now _
 ·rintro pre y ys c i e ⟨hI,hc⟩ hi h0 hlt hw hrd
  rw [ofS] at hI
  cases hn:noNode y
  ·have hb:=noNode_not hn
   simp only [hn,Bool.false_eq_true,if_false] at hI
   cases hs:inS c y
   ·refine Or.inl ⟨c ||| 2 ^ y.toNat,⟨by simpa [hs] using hI,or_lt10 hc (two_lt10 (by omega))⟩,fun k=>?_⟩
    have h2:=two_lt10 (show y.toNat < 10 by omega)
    have e2:Go.bits .or .i64 (c:Int) (shl .i64 1 y)=((c ||| 2 ^ y.toNat:Nat):Int):=by
     rw [show y=(y.toNat:Int) by omega,shl_nat (by omega),Int.toNat_natCast,or_nat (by omega) (by omega)]
    have h1:¬ y < 0:=by omega
    have h3:decide (y ≥ 10)=false:=by simp;omega
    (refine Ev.shift ?_;simp only [qref01_Of.l0,h0,hlt,hw,hrd,h1,h3,Option.bind_some,↓reduceIte,Bool.false_eq_true,reduceCtorEq,decide_eq_true_eq,rd_,rd_T90,rd_T92])
    (refine Ev.shift ?_;simp only [qref01_Of.j1,ref01_Has_eq hc,hs,hb.1,hw,Option.bind_some,↓reduceIte,Bool.false_eq_true,reduceCtorEq,decide_eq_true_eq,rd_,rd_T90,rd_T92])
    rw [e2]
    exact k
   ·refine Or.inr ?_
    simp only [hs,if_true] at hI
    have h1:¬ y < 0:=by omega
    have h3:decide (y ≥ 10)=false:=by simp;omega
    (refine Ev.shift ?_;simp only [qref01_Of.l0,h0,hlt,hw,hrd,h1,h3,Option.bind_some,↓reduceIte,Bool.false_eq_true,reduceCtorEq,decide_eq_true_eq,rd_,rd_T90,rd_T92])
    (refine Ev.shift ?_;simp only [qref01_Of.j1,ref01_Has_eq hc,hs,Option.bind_some,↓reduceIte,Bool.false_eq_true,reduceCtorEq,decide_eq_true_eq,rd_,rd_T90,rd_T92])
    rw [← hI]
    exact Ev.now _
  ·refine Or.inr ?_
   simp only [hn,if_true] at hI
   rw [← hI]
   by_cases h1:y < 0
   ·(refine Ev.shift ?_;simp only [qref01_Of.l0,h0,hlt,hw,hrd,h1,Option.bind_some,↓reduceIte,Bool.false_eq_true,reduceCtorEq,decide_eq_true_eq,rd_,rd_T90,rd_T92])
    (refine Ev.shift ?_;simp only [qref01_Of.j1,Option.bind_some,↓reduceIte,Bool.false_eq_true,reduceCtorEq,decide_eq_true_eq,rd_,rd_T90,rd_T92])
    exact Ev.now _
   ·have h3:decide (y ≥ 10)=true:=by simp [noNode] at hn ⊢;omega
    (refine Ev.shift ?_;simp only [qref01_Of.l0,h0,hlt,hw,hrd,h1,h3,Option.bind_some,↓reduceIte,Bool.false_eq_true,reduceCtorEq,decide_eq_true_eq,rd_,rd_T90,rd_T92])
    (refine Ev.shift ?_;simp only [qref01_Of.j1,Option.bind_some,↓reduceIte,Bool.false_eq_true,reduceCtorEq,decide_eq_true_eq,rd_,rd_T90,rd_T92])
    exact Ev.now _
theorem ref_level_ev:∀ (n:Nat) (t:S90),wt t < n→n < 1152921504606846976→Ev (fun k=>qref02_check.f k t.f0 t.f1 t.f2) (chk t)
 | 0,t,h,_=>absurd h (by omega)
 | n+1,t,h,hn=>by
  rw [wt_eq] at h
  have hl:=len_wtL t.f2
  rw [chk_eq]
  have el:wrap64 ((t.f1.length:Int)+(t.f2.length:Int))=((t.f1.length+t.f2.length:Nat):Int):=by rw [w64 (by omega) (by omega)];omega
  by_cases h1:t.f0 < 1
  ·(refine Ev.shift ?_;simp only [qref02_check.f,h1,true_or,Option.bind_some,↓reduceIte,Bool.false_eq_true,reduceCtorEq,decide_eq_true_eq,rd_,rd_T90,rd_T92])
   (refine Ev.shift ?_;simp only [qref02_check.j0,Option.bind_some,↓reduceIte,Bool.false_eq_true,reduceCtorEq,decide_eq_true_eq,rd_,rd_T90,rd_T92])
   exact Ev.now _
  by_cases h2:t.f0 > ((t.f1.length+t.f2.length:Nat):Int)
  ·(refine Ev.shift ?_;simp only [qref02_check.f,h1,h2,el,or_true,decide_true,Option.bind_some,↓reduceIte,Bool.false_eq_true,reduceCtorEq,decide_eq_true_eq,rd_,rd_T90,rd_T92])
   (refine Ev.shift ?_;simp only [qref02_check.j0,Option.bind_some,↓reduceIte,Bool.false_eq_true,reduceCtorEq,decide_eq_true_eq,rd_,rd_T90,rd_T92])
   exact Ev.now _
  (refine Ev.shift ?_;simp only [qref02_check.f,h1,h2,el,or_false,decide_false,Option.bind_some,↓reduceIte,Bool.false_eq_true,reduceCtorEq,decide_eq_true_eq,rd_,rd_T90,rd_T92])
  (refine Ev.shift ?_;simp only [qref02_check.j0,Option.bind_some,↓reduceIte,Bool.false_eq_true,reduceCtorEq,decide_eq_true_eq,rd_,rd_T90,rd_T92])
  have l1:Ev (fun k=>qref02_check.l1 k t.f2 (t.f2.length:Int) 0) (chkL t.f2):=by
    refine Ev.fold (L:=fun (c:Unit) i k=>qref02_check.l1 k t.f2 (t.f2.length:Int) i) (by omega) (fun pre ys c=>chkL ys=chkL t.f2) ?_ ?_ () rfl
    ·intro c i hI hi
     rw [chkL] at hI
     (refine Ev.shift ?_;simp only [qref02_check.l1,hi,Option.bind_some,↓reduceIte,Bool.false_eq_true,reduceCtorEq,decide_eq_true_eq,rd_,rd_T90,rd_T92])
     rw [← hI]
     exact Ev.now _
    ·intro pre y ys c i e hI hi h0 hlt hw hrd
     rw [chkL] at hI
     have hy:=ref_level_ev n y (by have:=wt_mem (show y∈t.f2 by rw [e];simp);omega) (by omega)
     by_cases h4:chk y=0
     ·refine Or.inl ⟨(),by rw [← hI,if_pos h4],fun k=>?_⟩
      (refine Ev.shift ?_;simp only [qref02_check.l1,h0,hlt,hw,hrd,Option.bind_some,↓reduceIte,Bool.false_eq_true,reduceCtorEq,decide_eq_true_eq,rd_,rd_T90,rd_T92])
      refine Ev.bind1 hy ?_
      simp only [h4,if_true]
      exact k
     ·refine Or.inr ?_
      rw [← hI,if_neg h4]
      (refine Ev.shift ?_;simp only [qref02_check.l1,h0,hlt,hw,hrd,Option.bind_some,↓reduceIte,Bool.false_eq_true,reduceCtorEq,decide_eq_true_eq,rd_,rd_T90,rd_T92])
      refine Ev.bind1 hy ?_
      simp only [h4,if_false]
      exact Ev.now _
  generalize hT:(if (t.f1.any noNode)=true then 5 else if (ofS 0 t.f1).2=0 then chkL t.f2 else (ofS 0 t.f1).2)=T
  refine Ev.fold (L:=fun (c:Unit) i k=>qref02_check.l0 k t.f1 (t.f1.length:Int) i t.f0 t.f1 t.f2) (by omega) (fun pre ys c=>(if (ys.any noNode)=true then 5 else if (ofS 0 t.f1).2=0 then chkL t.f2 else (ofS 0 t.f1).2)=T) ?_ ?_ () hT
  ·intro c i hI hi
   simp only [List.any_nil,Bool.false_eq_true,if_false] at hI
   (refine Ev.shift ?_;simp only [qref02_check.l0,hi,Option.bind_some,↓reduceIte,Bool.false_eq_true,reduceCtorEq,decide_eq_true_eq,rd_,rd_T90,rd_T92])
   refine Ev.bind1 (ref_Of_ev t.f1 (by omega)) ?_
   rw [← hI]
   by_cases h3:(ofS 0 t.f1).2=0
   ·simp only [h3,if_true]
    exact l1
   ·simp only [h3,if_false]
    exact Ev.now _
  ·intro pre y ys c i e hI hi h0 hlt hw hrd
   rw [List.any_cons] at hI
   cases hn:noNode y
   ·have hb:=noNode_not hn
    have h3:¬ y < 0:=by omega
    have h4:¬ y ≥ 10:=by omega
    refine Or.inl ⟨(),by simpa [hn] using hI,fun k=>?_⟩
    (refine Ev.shift ?_;simp only [qref02_check.l0,h0,hlt,hw,hrd,h3,h4,Option.bind_some,↓reduceIte,Bool.false_eq_true,reduceCtorEq,decide_eq_true_eq,rd_,rd_T90,rd_T92])
    exact k
   ·refine Or.inr ?_
    simp only [hn,Bool.true_or,if_true] at hI
    rw [← hI]
    by_cases h3:y < 0
    ·(refine Ev.shift ?_;simp only [qref02_check.l0,h0,hlt,hw,hrd,h3,Option.bind_some,↓reduceIte,Bool.false_eq_true,reduceCtorEq,decide_eq_true_eq,rd_,rd_T90,rd_T92])
     exact Ev.now _
    ·have h4:y ≥ 10:=by simp [noNode] at hn;omega
     (refine Ev.shift ?_;simp only [qref02_check.l0,h0,hlt,hw,hrd,h3,h4,Option.bind_some,↓reduceIte,Bool.false_eq_true,reduceCtorEq,decide_eq_true_eq,rd_,rd_T90,rd_T92])
     exact Ev.now _
theorem ref_Valid_ev (t:S90) (h:wt t < 1000000):Ev (fun k=>qref02_Valid.f k t.f0 t.f1 t.f2) (validT t):=by
 simp only [qref02_Valid.f,validT,Option.bind_some,↓reduceIte,Bool.false_eq_true,reduceCtorEq,decide_eq_true_eq,rd_,rd_T90,rd_T92]
 refine Ev.bind1 (ref_Depth_ev 1000000 t h (by decide)) ?_
 by_cases h1:dep t > 4
 ·have:(dep t:Int) > 4:=by omega
  simp only [h1,this,Option.bind_some,↓reduceIte,Bool.false_eq_true,reduceCtorEq,decide_eq_true_eq,rd_,rd_T90,rd_T92]
  exact Ev.now _
 have h2:¬ (dep t:Int) > 4:=by omega
 simp only [h1,h2,Option.bind_some,↓reduceIte,Bool.false_eq_true,reduceCtorEq,decide_eq_true_eq,rd_,rd_T90,rd_T92]
 refine Ev.bind1 (ref_Size_ev 1000000 t h (by decide)) ?_
 by_cases h3:siz t > 200
 ·have:(siz t:Int) > 200:=by omega
  simp only [h3,this,Option.bind_some,↓reduceIte,Bool.false_eq_true,reduceCtorEq,decide_eq_true_eq,rd_,rd_T90,rd_T92]
  exact Ev.now _
 have h4:¬ (siz t:Int) > 200:=by omega
 simp only [h3,h4,Option.bind_some,↓reduceIte,Bool.false_eq_true,reduceCtorEq,decide_eq_true_eq,rd_,rd_T90,rd_T92]
 refine Ev.bind1 (ref_level_ev 1000000 t h (by decide)) ?_
 exact Ev.now _
def EvP {α:Type} (g:Nat→Option α) (P:α→Prop):Prop:=∃ r,P r∧Ev g r
theorem EvP.now {α:Type} {P:α→Prop} {r:α} (h:P r):EvP (fun _=>some r) P:=⟨r,h,Ev.now r⟩
theorem EvP.shift {α:Type} {g:Nat→Option α} {P:α→Prop} (h:EvP (fun k=>g (k+1)) P):EvP g P:=by
 obtain ⟨r,h1,h2⟩:=h
 exact ⟨r,h1,Ev.shift h2⟩
theorem EvP.bind {α β:Type} {g:Nat→Option α} {f:Nat→α→Option β} {P:α→Prop} {Q:β→Prop} (h:EvP g P) (k:∀ a,P a→EvP (fun n=>f n a) Q):EvP (fun n=>(g n).bind (f n)) Q:=by
 obtain ⟨a,h1,h2⟩:=h
 obtain ⟨r,k1,k2⟩:=k a h1
 exact ⟨r,k1,Ev.bind h2 k2⟩
theorem EvP.imp {α:Type} {g:Nat→Option α} {P Q:α→Prop} (h:EvP g P) (k:∀ a,P a→Q a):EvP g Q:=by
 obtain ⟨r,h1,h2⟩:=h
 exact ⟨r,k r h1,h2⟩
theorem EvP.ofEv {α:Type} {g:Nat→Option α} {r:α} (h:Ev g r):EvP g (fun x=>x=r):=⟨r,rfl,h⟩
theorem EvP.loop {σ ρ:Type} {L:σ→Nat→Option ρ} {Q:ρ→Prop} (I:σ→Prop) (m:σ→Nat)
  (hstep:∀ c,I c→(∀ c',I c'→m c' < m c→EvP (L c') Q)→EvP (L c) Q) (c0:σ) (h0:I c0):EvP (L c0) Q:=by
 have key:∀ n c,m c < n→I c→EvP (L c) Q:=by
  intro n
  induction n with
  | zero=>intro c h;exact absurd h (by omega)
  | succ n ih=>intro c h hc;exact hstep c hc fun c' h' hm=>ih c' (by omega) h'
 exact key (m c0+1) c0 (by omega) h0
theorem tN {s:List Int} (hs:s.length < 4611686018427387904) {s1 a:Int} (h1:0≤s1) (ha:0 < a) (ha2:a < 4611686018427387904) :
  EvP (fun _=>qmake_Tape_N.f s s1 a) (fun r=>(0≤r.1∧r.1 < a)∧0≤r.2):=by
 unfold qmake_Tape_N.f
 by_cases h:s1 ≥ (s.length:Int)
 ·simp only [h,if_true]
  exact EvP.now ⟨⟨by simp,by simpa using ha⟩,h1⟩
 have h2:s1 < (s.length:Int):=by omega
 have h3:¬ a=0:=by omega
 have hb1:=Int.tmod_lt_of_pos (rd s s1) ha
 have hb2:- a < Int.tmod (rd s s1) a:=by
  have:=Int.lt_tmod_of_pos (rd s s1) ha
  omega
 simp only [h,if_false,h1,if_true,h2,h3]
 by_cases h4:Int.tmod (rd s s1) a < 0
 ·simp only [h4,if_true]
  refine EvP.now ?_
  show (0≤wrap64 _∧wrap64 _ < a)∧0≤wrap64 _
  rw [w64 (by omega) (by omega),w64 (by omega) (by omega)]
  omega
 ·simp only [h4,if_false]
  refine EvP.now ?_
  show (0≤Int.tmod (rd s s1) a∧Int.tmod (rd s s1) a < a)∧0≤wrap64 _
  rw [w64 (by omega) (by omega)]
  omega
theorem tRange {s:List Int} (hs:s.length < 4611686018427387904) {s1 a b:Int} (h1:0≤s1) (ha:0≤a) (hb:a≤b) (hb2:b < 4611686018427387) :
  EvP (fun _=>qmake_Tape_Range.f s s1 a b) (fun r=>(a≤r.1∧r.1≤b)∧0≤r.2):=by
 unfold qmake_Tape_Range.f
 rw [w64 (n:=b - a) (by omega) (by omega),w64 (by omega) (by omega)]
 refine EvP.bind (tN hs h1 (by omega) (by omega)) ?_
 rintro ⟨v,s'⟩ ⟨⟨h2,h3⟩,h4⟩
 refine EvP.now ?_
 show (a≤wrap64 _∧wrap64 _≤b)∧0≤s'
 simp only at h2 h3 h4 ⊢
 rw [w64 (by omega) (by omega)]
 omega
theorem tPick {s:List Int} (hs:s.length < 4611686018427387904) {s1:Int} {l:List Int} (h1:0≤s1) (ha:0 < l.length) (hl:l.length < 4611686018427387904) :
  EvP (fun _=>qmake_Tape_Pick.f s s1 l) (fun r=>r.1∈l∧0≤r.2):=by
 unfold qmake_Tape_Pick.f
 refine EvP.bind (tN hs h1 (by omega) (by omega)) ?_
 rintro ⟨v,s'⟩ ⟨⟨h2,h3⟩,h4⟩
 simp only at h2 h3 h4 ⊢
 simp only [h2,h3,if_true]
 refine EvP.now ⟨?_,h4⟩
 simp only [rd]
 have h5:v.toNat < l.length:=by omega
 rw [List.getD_eq_getElem?_getD,List.getElem?_eq_getElem h5]
 exact List.getElem_mem h5
theorem tOrder {s:List Int} (hs:s.length < 4611686018427387904) {s1:Int} {n:Nat} (h1:0≤s1) (hn:n≤1000) :
  EvP (fun k=>qmake_Tape_Order.f k s s1 (n:Int)) (fun r=>(r.1.length=n∧∀ x∈r.1,0≤x∧x < (n:Int))∧0≤r.2):=by
 simp only [qmake_Tape_Order.f]
 have l1:∀ (l:List Int) (i:Int) (s1:Int),0≤s1→l.length=n→(∀ x∈l,0≤x∧x < (n:Int))→i < n →
   EvP (fun k=>qmake_Tape_Order.l1 k l i s s1) (fun r=>(r.1.length=n∧∀ x∈r.1,0≤x∧x < (n:Int))∧0≤r.2):=by
  intro l i s1 h1 hl hx hi
  refine EvP.loop (L:=fun (c:List Int × Int × Int) k=>qmake_Tape_Order.l1 k c.1 c.2.1 s c.2.2) (fun c=>0≤c.2.2∧c.1.length=n∧(∀ x∈c.1,0≤x∧x < (n:Int))∧c.2.1 < n) (fun c=>c.2.1.toNat) ?_ (l,i,s1) ⟨h1,hl,hx,hi⟩
  rintro ⟨l,i,s1⟩ ⟨h1,hl,hx,hi⟩ ih
  simp only at h1 hl hx hi ih ⊢
  by_cases h0:i > 0
  ·have e1:wrap64 (i+1)=i+1:=w64 (by omega) (by omega)
   have e2:wrap64 (i - 1)=i - 1:=w64 (by omega) (by omega)
   have h3:0≤i:=by omega
   have h4:i < (l.length:Int):=by omega
   (refine EvP.shift ?_;simp only [qmake_Tape_Order.l1,h0,e1,e2,h3,h4,Option.bind_some,↓reduceIte,Bool.false_eq_true,reduceCtorEq,decide_eq_true_eq,rd_,rd_T90,rd_T92])
   refine EvP.bind (tN hs h1 (by omega) (by omega)) ?_
   rintro ⟨v,s'⟩ ⟨⟨h5,h6⟩,h7⟩
   simp only at h5 h6 h7 ⊢
   have h8:v < (l.length:Int):=by omega
   simp only [h5,h8,if_true]
   have hm:∀ j:Nat,j < l.length→l.getD j 0∈l:=fun j hj=>by
    rw [List.getD_eq_getElem?_getD,List.getElem?_eq_getElem hj];exact List.getElem_mem hj
   refine ih (_,i - 1,s') ⟨h7,by simpa using hl,?_,by show i - 1 < n;omega⟩ (by show (i - 1).toNat < i.toNat;omega)
   intro x hx'
   rcases List.mem_or_eq_of_mem_set hx' with h|h
   ·rcases List.mem_or_eq_of_mem_set h with h|h
    ·exact hx x h
    ·rw [h];exact hx _ (hm _ (by omega))
   ·rw [h];exact hx _ (hm _ (by omega))
  ·(refine EvP.shift ?_;simp only [qmake_Tape_Order.l1,h0,Option.bind_some,↓reduceIte,Bool.false_eq_true,reduceCtorEq,decide_eq_true_eq,rd_,rd_T90,rd_T92])
   exact EvP.now ⟨⟨hl,hx⟩,h1⟩
 refine EvP.loop (L:=fun (c:List Int × Int) k=>qmake_Tape_Order.l0 k (n:Int) c.1 c.2 s s1) (fun c=>c.2=(c.1.length:Int)∧c.2≤n∧(∀ x∈c.1,0≤x∧x < (n:Int))) (fun c=>n - c.1.length) ?_ ([],0) ⟨rfl,by show (0:Int)≤n;omega,by simp⟩
 rintro ⟨l,i⟩ ⟨h2,h3,hx⟩ ih
 simp only at h2 h3 hx ih ⊢
 by_cases h0:i < (n:Int)
 ·have e1:wrap64 (i+1)=i+1:=w64 (by omega) (by omega)
  have h4:l.length < 17592186044416:=by omega
  (refine EvP.shift ?_;simp only [qmake_Tape_Order.l0,h0,e1,h4,Option.bind_some,↓reduceIte,Bool.false_eq_true,reduceCtorEq,decide_eq_true_eq,rd_,rd_T90,rd_T92])
  refine ih (l++[i],i+1) ⟨by simp;omega,by show i+1≤n;omega,?_⟩ (by simp;omega)
  intro x hx'
  rcases List.mem_append.1 hx' with h|h
  ·exact hx x h
  ·rw [List.mem_singleton.1 h];omega
 ·(refine EvP.shift ?_;simp only [qmake_Tape_Order.l0,h0,Option.bind_some,↓reduceIte,Bool.false_eq_true,reduceCtorEq,decide_eq_true_eq,rd_,rd_T90,rd_T92])
  exact l1 l _ s1 h1 (by omega) hx (by rw [w64 (by omega) (by omega)];omega)
def foldU (l:List Int) (a:Nat):Nat:=l.foldl (fun a x=>if noNode x=true then a else a ||| 2 ^ x.toNat) a
theorem foldU_lt {n:Nat} (hn:n≤10):∀ (l:List Int) (a:Nat),a < 2 ^ n→(∀ x∈l,0≤x∧x < (n:Int))→foldU l a < 2 ^ n:=by
 intro l
 induction l with
 | nil=>intro a h _;exact h
 | cons x xs ih =>
  intro a h hx
  have h1:=hx x (by simp)
  show foldU xs (if noNode x=true then a else a ||| 2 ^ x.toNat) < 2 ^ n
  refine ih _ ?_ fun y hy=>hx y (by simp [hy])
  split
  ·exact h
  ·exact or_lt h (Nat.pow_lt_pow_right (by decide) (by omega))
theorem useL_lt2 {n:Nat}:∀ (l:List S90),(∀ t∈l,uses t < 2 ^ n)→useL l < 2 ^ n
 | [],_=>by rw [useL];exact Nat.two_pow_pos n
 | t :: ts,h=>by rw [useL];exact or_lt (h t (by simp)) (useL_lt2 ts fun y hy=>h y (by simp [hy]))
theorem wtL_le {b:Nat}:∀ (l:List S90),(∀ t∈l,wt t≤b)→wtL l≤l.length * b
 | [],_=>by rw [wtL];omega
 | t :: ts,h=>by
  rw [wtL,List.length_cons,Nat.add_mul]
  have:=h t (by simp)
  have:=wtL_le ts fun y hy=>h y (by simp [hy])
  omega
def In (n b:Nat) (t:S90):Prop:=wt t≤b∧uses t < 2 ^ n
theorem In_mk {n b:Nat} (hn:n≤10) {v:Int} {l:List Int} {ts:List S90} (h2:∀ x∈l,0≤x∧x < (n:Int)) (h4:∀ t∈ts,In n b t) (B:Nat) (hB:1+l.length+ts.length * b≤B):In n B ⟨v,l,ts⟩:=by
 constructor
 ·rw [wt_eq]
  have:=wtL_le ts fun t ht=>(h4 t ht).1
  simp only
  omega
 ·rw [uses_eq]
  exact or_lt (foldU_lt hn l 0 (Nat.two_pow_pos n) h2) (useL_lt2 ts fun t ht=>(h4 t ht).2)
abbrev toT (r:Int × List Int × List S90 × Int):S90:=⟨r.1,r.2.1,r.2.2.1⟩
theorem trust_row {s:List Int} (hs:s.length < 4611686018427387904) {n b:Nat} (hn:n≤10) (hn1:1≤n) (hb:b≤100) (a2:Int) (h2:a2≤10)
  (hrec:a2 > 1→∀ s1,0≤s1→EvP (fun k=>qmake_trust.f k s s1 (n:Int) (wrap64 (a2 - 1))) (fun r=>In n b (toT r)∧0≤r.2.2.2)) {s1:Int} (h1:0≤s1) :
  EvP (fun k=>qmake_trust.f k s s1 (n:Int) a2) (fun r=>In n (6+3 * b) (toT r)∧0≤r.2.2.2):=by
 have fin:∀ (v:Int) (l:List Int) (ts:List S90),l.length≤5→(∀ x∈l,0≤x∧x < (n:Int))→ts.length≤3→(∀ t∈ts,In n b t)→In n (6+3 * b) ⟨v,l,ts⟩:=by
  intro v l ts h1 h2 h3 h4
  refine In_mk hn h2 h4 _ ?_
  have:ts.length * b≤3 * b:=Nat.mul_le_mul_right b h3
  omega
 have fine:∀ (v:Int) (l:List Int) (ts:List S90) (s2:Int),l.length≤5→(∀ x∈l,0≤x∧x < (n:Int))→ts.length≤3→(∀ t∈ts,In n b t)→0≤s2→EvP (fun _=>some (v,l,ts,s2)) (fun r=>In n (6+3 * b) (toT r)∧0≤r.2.2.2) :=
  fun v l ts s2 h1 h2 h3 h4 h5=>EvP.now ⟨fin v l ts h1 h2 h3 h4,h5⟩
 clear fin
 generalize 6+3 * b=B at fine ⊢
 have L1:∀ (l:List Int),1≤l.length→l.length≤5→(∀ x∈l,0≤x∧x < (n:Int))→a2 > 1→∀ (m:Nat),m≤3→∀ (s1:Int),0≤s1 →
   EvP (fun k=>qmake_trust.l1 k (n:Int) a2 (m:Int) s s1 0 l ([]:List S90)) (fun r=>In n B (toT r)∧0≤r.2.2.2):=by
  intro l hl0 hl hx ha m hm s1 h1
  refine EvP.loop (L:=fun (c:Nat × Int × List S90) k=>qmake_trust.l1 k (n:Int) a2 (c.1:Int) s c.2.1 0 l c.2.2) (fun c=>0≤c.2.1∧c.1+c.2.2.length≤3∧∀ t∈c.2.2,In n b t) (fun c=>c.1) ?_ (m,s1,[]) ⟨h1,by simp;omega,by simp⟩
  rintro ⟨m,s1,ts⟩ ⟨h1,h3,h4⟩ ih
  simp only at h1 h3 h4 ih ⊢
  by_cases h0:(m:Int) > 0
  ·have e1:wrap64 ((m:Int) - 1)=((m - 1:Nat):Int):=by rw [w64 (by omega) (by omega)];omega
   have h6:ts.length < 2513169434916:=by omega
   (refine EvP.shift ?_;simp only [qmake_trust.l1,h0,e1,h6,Option.bind_some,↓reduceIte,Bool.false_eq_true,reduceCtorEq,decide_eq_true_eq,rd_,rd_T90,rd_T92])
   refine EvP.bind (hrec ha s1 h1) ?_
   rintro ⟨v,l',ts',s'⟩ ⟨h7,h8⟩
   refine ih (m - 1,s',ts++[⟨v,l',ts'⟩]) ⟨h8,by simp;omega,?_⟩ (by show m - 1 < m;omega)
   intro t ht
   rcases List.mem_append.1 ht with h|h
   ·exact h4 t h
   ·rw [List.mem_singleton.1 h];exact h7
  ·clear ih
   have ew:wrap64 ((l.length:Int)+(ts.length:Int))=(l.length:Int)+(ts.length:Int):=w64 (by omega) (by omega)
   by_cases h5:(ts.length:Int) > 0
   ·(refine EvP.shift ?_;simp only [qmake_trust.l1,h0,h5,ew,Option.bind_some,↓reduceIte,Bool.false_eq_true,reduceCtorEq,decide_eq_true_eq,rd_,rd_T90,rd_T92])
    clear ew
    refine EvP.bind (tN hs h1 (by omega) (by omega)) ?_
    rintro ⟨v,s'⟩ ⟨⟨h6,h7⟩,h8⟩
    simp only at h6 h7 h8 ⊢
    split
    ·rw [show wrap64 ((([]:List Int).length:Int)+(ts.length:Int))=(ts.length:Int) by rw [List.length_nil,w64 (by omega) (by omega)];omega]
     refine EvP.bind (tRange hs h8 (by omega) (by omega) (by omega)) ?_
     rintro ⟨v2,s2⟩ ⟨h9,h10⟩
     exact fine v2 [] ts s2 (by simp) (by simp) (by omega) h4 h10
    ·refine EvP.bind (tRange hs h8 (by omega) (by omega) (by omega)) ?_
     rintro ⟨v2,s2⟩ ⟨h9,h10⟩
     exact fine v2 l ts s2 hl hx (by omega) h4 h10
   ·(refine EvP.shift ?_;simp only [qmake_trust.l1,h0,h5,ew,Option.bind_some,↓reduceIte,Bool.false_eq_true,reduceCtorEq,decide_eq_true_eq,rd_,rd_T90,rd_T92])
    clear ew
    refine EvP.bind (tRange hs h1 (by omega) (by omega) (by omega)) ?_
    rintro ⟨v2,s2⟩ ⟨h9,h10⟩
    exact fine v2 l ts s2 hl hx (by omega) h4 h10
 have mnv:mn (n:Int) 5≤n∧1≤mn (n:Int) 5∧mn (n:Int) 5≤5:=by unfold mn;split <;> omega
 (refine EvP.shift ?_;simp only [qmake_trust.f,Option.bind_some,↓reduceIte,Bool.false_eq_true,reduceCtorEq,decide_eq_true_eq,rd_,rd_T90,rd_T92])
 refine EvP.bind (tOrder hs h1 (by omega)) ?_
 rintro ⟨o,s2⟩ ⟨⟨ho,hox⟩,h2'⟩
 simp only at ho hox h2' ⊢
 refine EvP.bind (tRange hs h2' (by omega) mnv.2.1 (by omega)) ?_
 rintro ⟨q,s3⟩ ⟨⟨hq1,hq2⟩,h3'⟩
 simp only at hq1 hq2 h3' ⊢
 have hq3:0≤q:=by omega
 have hq4:q≤(o.length:Int):=by omega
 simp only [hq3,hq4,if_true,Option.bind_some]
 generalize hy:o.take q.toNat=y
 have hyl:y.length=q.toNat:=by rw [← hy,List.length_take];omega
 have hyx:∀ x∈y,0≤x∧x < (n:Int):=fun x hx=>hox x (by rw [← hy] at hx;exact List.mem_of_mem_take hx)
 refine EvP.loop (L:=fun (c:List Int × Int) k=>qmake_trust.l0 k (n:Int) a2 y (y.length:Int) c.2 s s3 0 c.1) (fun c=>c.2=(c.1.length:Int)∧c.1.length≤y.length∧(∀ x∈c.1,0≤x∧x < (n:Int))) (fun c=>y.length - c.1.length) ?_ ([],0) ⟨rfl,by simp,by simp⟩
 rintro ⟨l,i⟩ ⟨h3,h4,hx⟩ ih
 simp only at h3 h4 hx ih ⊢
 by_cases h0:i < (y.length:Int)
 ·have e1:wrap64 (i+1)=i+1:=w64 (by omega) (by omega)
  have h6:l.length < 17592186044416:=by omega
  have h7:0≤i:=by omega
  (refine EvP.shift ?_;simp only [qmake_trust.l0,h0,e1,h6,h7,Option.bind_some,↓reduceIte,Bool.false_eq_true,reduceCtorEq,decide_eq_true_eq,rd_,rd_T90,rd_T92])
  refine ih (l++[y.getD i.toNat 0],i+1) ⟨by simp;omega,by simp;omega,?_⟩ (by simp;omega)
  intro x hx'
  rcases List.mem_append.1 hx' with h|h
  ·exact hx x h
  ·rw [List.mem_singleton.1 h,List.getD_eq_getElem?_getD,List.getElem?_eq_getElem (show i.toNat < y.length by omega)]
   exact hyx _ (List.getElem_mem _)
 ·by_cases ha:a2 > 1
  ·(refine EvP.shift ?_;simp only [qmake_trust.l0,h0,ha,Option.bind_some,↓reduceIte,Bool.false_eq_true,reduceCtorEq,decide_eq_true_eq,rd_,rd_T90,rd_T92])
   refine EvP.bind (tPick hs h3' (by decide) (by decide)) ?_
   rintro ⟨p,s4⟩ ⟨hp,h4'⟩
   simp only at hp h4' ⊢
   have hp2:0≤p∧p≤3:=by
    simp only [List.mem_cons,List.not_mem_nil,or_false] at hp
    omega
   have:=L1 l (by omega) (by omega) hx ha p.toNat (by omega) s4 h4'
   rw [show ((p.toNat:Nat):Int)=p by omega] at this
   exact this
  ·(refine EvP.shift ?_;simp only [qmake_trust.l0,h0,ha,Option.bind_some,↓reduceIte,Bool.false_eq_true,reduceCtorEq,decide_eq_true_eq,rd_,rd_T90,rd_T92])
   rw [show wrap64 ((l.length:Int)+(([]:List S90).length:Int))=(l.length:Int) by rw [List.length_nil,w64 (by omega) (by omega)];omega]
   refine EvP.bind (tRange hs h3' (by omega) (by omega) (by omega)) ?_
   rintro ⟨v2,s2⟩ ⟨h9,h10⟩
   exact fine v2 l [] s2 (by omega) hx (by simp) (by simp) h10
theorem trust_ev {s:List Int} (hs:s.length < 4611686018427387904) {n:Nat} (hn:n≤10) (hn1:1≤n) {s1:Int} (h1:0≤s1) :
  EvP (fun k=>qmake_trust.f k s s1 (n:Int) 2) (fun r=>In n 24 (toT r)∧0≤r.2.2.2) :=
 trust_row hs (b:=6) hn hn1 (by decide) 2 (by decide) (fun _ s1 h1=>by
  rw [show wrap64 ((2:Int) - 1)=1 from w64 (by decide) (by decide)]
  exact trust_row hs (b:=0) hn hn1 (by decide) 1 (by decide) (fun h=>absurd h (by decide)) h1) h1
def Okt (n:Nat) (t:S90):Prop:=validT t=0∧In n 100 t
theorem one_ok {n:Nat} {v:Int} (h0:0≤v) (h1:v < (n:Int)) (hn:n≤10):Okt n ⟨1,[v],[]⟩:=by
 constructor
 ·have hv:noNode v=false:=by simp [noNode];omega
  have:(ofS 0 [v]).2=0:=by
   rw [ofS,hv,ofS];simp [inS]
  simp [validT,dep,siz,depL,sizL,chk,chkL,hv,this]
 ·exact In_mk hn (b:=0) (by simp;omega) (by simp) _ (by simp)
theorem Trust_ev {s:List Int} (hs:s.length < 4611686018427387904) {n:Nat} (hn:n≤10) (hn1:1≤n) {s1:Int} (h1:0≤s1) :
  EvP (fun k=>qmake_Trust.f k s s1 (n:Int) 2) (fun r=>Okt n (toT r)∧0≤r.2.2.2):=by
 simp only [qmake_Trust.f]
 refine EvP.bind (trust_ev hs hn hn1 h1) ?_
 rintro ⟨v,l,ts,s'⟩ ⟨h2,h3⟩
 simp only at h2 h3 ⊢
 refine EvP.bind (EvP.ofEv (ref_Valid_ev (toT (v,l,ts,s')) (by have:=h2.1;omega))) ?_
 rintro r rfl
 by_cases h:validT (toT (v,l,ts,s'))=0
 ·simp only [h,if_true]
  exact EvP.now ⟨⟨h,Nat.le_trans h2.1 (by decide),h2.2⟩,h3⟩
 ·simp only [h,if_false]
  refine EvP.bind (tN hs h3 (by omega) (by omega)) ?_
  rintro ⟨v,s'⟩ ⟨⟨h2,h3⟩,h4⟩
  exact EvP.now ⟨one_ok h2 h3 hn,h4⟩
theorem ofS_snoc (l:List Int) (x:Int):∀ a,(ofS a l).2=0→ofS a (l++[x])=if noNode x=true then (0,5) else if inS (ofS a l).1 x=true then (0,6) else ((ofS a l).1 ||| 2 ^ x.toNat,0):=by
 induction l with
 | nil=>intro a _;rw [List.nil_append,ofS,ofS,ofS]
 | cons y ys ih =>
  intro a h
  rw [List.cons_append,ofS]
  rw [ofS] at h ⊢
  split at h
  ·cases h
  ·split at h
   ·cases h
   ·rename_i h1 h2
    simp only [h1,h2,if_false]
    exact ih _ h
def Asc (n:Nat) (l:List Int):Prop:=l.length≤n∧(ofS 0 l).2=0∧(ofS 0 l).1 < 2 ^ n∧∀ x∈l,0≤x∧x < (n:Int)
theorem Asc_nil (n:Nat):Asc n []:=⟨by simp,rfl,Nat.two_pow_pos n,by simp⟩
theorem Asc_snoc {n m:Nat} {l:List Int} (h:Asc n l) (hm:m≤10) (hnm:n < m):Asc m (l++[(n:Int)]):=by
 obtain ⟨h1,h2,h3,h4⟩:=h
 have hv:noNode (n:Int)=false:=by simp [noNode];omega
 have hi:inS (ofS 0 l).1 (n:Int)=false:=by rw [inS_nat _ _ (by omega)];exact bit_lt h3 (Nat.le_refl _)
 have e:=ofS_snoc l (n:Int) 0 h2
 rw [hv,hi] at e
 simp only [Bool.false_eq_true,if_false] at e
 refine ⟨by simp;omega,by rw [e],?_,?_⟩
 ·rw [e]
  exact or_lt (Nat.lt_of_lt_of_le h3 (Nat.pow_le_pow_right (by decide) (by omega))) (by rw [Int.toNat_natCast];exact Nat.pow_lt_pow_right (by decide) hnm)
 ·intro x hx
  rcases List.mem_append.1 hx with h|h
  ·have:=h4 x h;omega
  ·rw [List.mem_singleton.1 h];omega
theorem Asc.mono {n m:Nat} {l:List Int} (h:Asc n l) (hnm:n≤m):Asc m l:=by
 obtain ⟨h1,h2,h3,h4⟩:=h
 exact ⟨by omega,h2,Nat.lt_of_lt_of_le h3 (Nat.pow_le_pow_right (by decide) hnm),fun x hx=>by have:=h4 x hx;omega⟩
theorem Asc.any {n:Nat} {l:List Int} (h:Asc n l) (hn:n≤10):l.any noNode=false:=by
 rw [List.any_eq_false]
 intro x hx
 have:=h.2.2.2 x hx
 simp [noNode];omega
def Flat (n:Nat) (t:S90):Prop:=Asc n t.f1∧t.f2=[]∧1≤t.f0∧t.f0≤(t.f1.length:Int)
theorem flat_chk {n:Nat} {t:S90} (hn:n≤10) (h:Flat n t):chk t=0:=by
 obtain ⟨h1,h2,h3,h4⟩:=h
 rw [chk_eq,h2,h1.any hn,h1.2.1,if_neg (by simp;omega)]
 simp [chkL]
theorem flat_in {n:Nat} {t:S90} (hn:n≤10) (h:Flat n t):In n 11 t:=by
 obtain ⟨h1,h2,h3,h4⟩:=h
 have e:t=⟨t.f0,t.f1,[]⟩:=by cases t;simp only at h2;subst h2;rfl
 rw [e]
 have:=h1.1
 exact In_mk hn (b:=0) h1.2.2.2 (by simp) _ (by simp;omega)
theorem flat_ok {n:Nat} {t:S90} (hn:n≤10) (h:Flat n t):Okt n t:=by
 constructor
 ·have:=h.1.1
  rw [validT,dep_eq,siz_eq,h.2.1,flat_chk hn h,depL,sizL]
  simp;omega
 ·have:=flat_in hn h
  exact ⟨Nat.le_trans this.1 (by decide),this.2⟩
theorem most_ev {s:List Int} (hs:s.length < 4611686018427387904) {n:Nat} (hn:n≤10) (hn1:1≤n) {s1:Int} (h1:0≤s1) :
  EvP (fun k=>qmake_most.f k s s1 (n:Int)) (fun r=>Okt n (toT r)∧0≤r.2.2.2):=by
 simp only [qmake_most.f]
 have thr:∀ (l:List Int) (d:Int),1≤l.length→l.length≤10→-1≤d∧d≤1→1≤mn (l.length:Int) (mx 1 (wrap64 ((wrap64 (Int.tdiv (wrap64 ((wrap64 (2 * (l.length:Int)))+2)) 3))+d)))∧mn (l.length:Int) (mx 1 (wrap64 ((wrap64 (Int.tdiv (wrap64 ((wrap64 (2 * (l.length:Int)))+2)) 3))+d)))≤(l.length:Int):=by
  intro l d h1 h2 h3
  unfold mn mx
  split <;> split <;> omega
 have pk:∀ d∈([0,0,0,1,(-1)]:List Int),-1≤d∧d≤1:=by decide
 refine EvP.loop (L:=fun (c:Nat × Int × List Int) k=>qmake_most.l0 k (n:Int) (c.1:Int) s c.2.1 0 c.2.2) (fun c=>0≤c.2.1∧c.1≤n∧Asc c.1 c.2.2) (fun c=>n - c.1) ?_ (0,s1,[]) ⟨h1,by simp,Asc_nil 0⟩
 rintro ⟨i,s1,l⟩ ⟨h1,h3,h4⟩ ih
 simp only at h1 h3 h4 ih ⊢
 have hl:=h4.1
 by_cases h0:(i:Int) < (n:Int)
 ·have e1:wrap64 ((i:Int)+1)=((i+1:Nat):Int):=w64 (by omega) (by omega)
  have h6:l.length < 17592186044416:=by omega
  (refine EvP.shift ?_;simp only [qmake_most.l0,h0,e1,h6,Option.bind_some,↓reduceIte,Bool.false_eq_true,reduceCtorEq,decide_eq_true_eq,rd_,rd_T90,rd_T92])
  refine EvP.bind (tN hs h1 (by omega) (by omega)) ?_
  rintro ⟨v,s'⟩ ⟨⟨h7,h8⟩,h9⟩
  simp only at h7 h8 h9 ⊢
  split
  ·exact ih (i+1,s',l++[(i:Int)]) ⟨h9,by show i+1≤n;omega,Asc_snoc h4 (by omega) (by omega)⟩ (by show n - (i+1) < n - i;omega)
  ·exact ih (i+1,s',l) ⟨h9,by show i+1≤n;omega,h4.mono (by omega)⟩ (by show n - (i+1) < n - i;omega)
 ·have e:i=n:=by omega
  subst e
  by_cases h5:(l.length:Int)=0
  ·(refine EvP.shift ?_;simp only [qmake_most.l0,h0,h5,Option.bind_some,↓reduceIte,Bool.false_eq_true,reduceCtorEq,decide_eq_true_eq,rd_,rd_T90,rd_T92])
   refine EvP.bind (tPick hs h1 (by decide) (by decide)) ?_
   rintro ⟨d,s'⟩ ⟨h7,h8⟩
   simp only at h7 h8 ⊢
   have ht:=thr [0] d (by decide) (by decide) (pk d h7)
   refine EvP.now ⟨flat_ok hn ⟨?_,rfl,ht.1,ht.2⟩,h8⟩
   exact (Asc_snoc (Asc_nil 0) (by decide) (show 0 < 1 by decide)).mono hn1
  ·(refine EvP.shift ?_;simp only [qmake_most.l0,h0,h5,Option.bind_some,↓reduceIte,Bool.false_eq_true,reduceCtorEq,decide_eq_true_eq,rd_,rd_T90,rd_T92])
   refine EvP.bind (tPick hs h1 (by decide) (by decide)) ?_
   rintro ⟨d,s'⟩ ⟨h7,h8⟩
   simp only at h7 h8 ⊢
   have ht:=thr l d (by omega) (by omega) (pk d h7)
   exact EvP.now ⟨flat_ok hn ⟨h4,rfl,ht.1,ht.2⟩,h8⟩
theorem depL_flat {n:Nat}:∀ (l:List S90),(∀ t∈l,Flat n t)→depL l≤1
 | [],_=>by rw [depL];omega
 | t :: ts,h=>by
  rw [depL,dep_eq,(h t (by simp)).2.1,depL]
  have:=depL_flat ts fun y hy=>h y (by simp [hy])
  omega
theorem sizL_flat {n:Nat}:∀ (l:List S90),(∀ t∈l,Flat n t)→sizL l≤l.length * n
 | [],_=>by rw [sizL];omega
 | t :: ts,h=>by
  have:=sizL_flat ts fun y hy=>h y (by simp [hy])
  have h1:=(h t (by simp)).1.1
  rw [sizL,siz_eq,(h t (by simp)).2.1,List.length_cons,Nat.add_mul,sizL,List.length_nil]
  omega
theorem chkL_flat {n:Nat} (hn:n≤10):∀ (l:List S90),(∀ t∈l,Flat n t)→chkL l=0
 | [],_=>by rw [chkL]
 | t :: ts,h=>by rw [chkL,if_pos (flat_chk hn (h t (by simp)))];exact chkL_flat hn ts fun y hy=>h y (by simp [hy])
theorem group_ok {n:Nat} (hn:n≤10) {v:Int} {ts:List S90} (h1:1≤v) (h2:v≤(ts.length:Int)) (h3:ts.length≤3) (h4:∀ t∈ts,Flat n t):Okt n ⟨v,[],ts⟩:=by
 constructor
 ·have hd:=depL_flat ts h4
  have hs:=sizL_flat ts h4
  have:ts.length * n≤3 * 10:=Nat.mul_le_mul h3 hn
  rw [validT,dep_eq,siz_eq,chk_eq]
  simp only [List.length_nil,List.any_nil,ofS,chkL_flat hn ts h4]
  rw [if_neg (by omega),if_neg (by omega),if_neg (by omega)]
  simp
 ·refine In_mk hn (b:=11) (by simp) (fun t ht=>flat_in hn (h4 t ht)) _ ?_
  have:ts.length * 11≤3 * 11:=Nat.mul_le_mul_right 11 h3
  simp only [List.length_nil];omega
theorem getD_mem' {α:Type} {l:List α} {i:Nat} (d:α) (h:i < l.length):l.getD i d∈l:=by
 rw [List.getD_eq_getElem?_getD,List.getElem?_eq_getElem h];exact List.getElem_mem h
theorem group_ev {s:List Int} (hs:s.length < 4611686018427387904) {n:Nat} (hn:n≤10) (hn1:1≤n) {s1:Int} (h1:0≤s1) (i:Nat) (hi:i < 1000) :
  EvP (fun k=>qmake_group.f k s s1 (n:Int) (i:Int)) (fun r=>Okt n (toT r)∧0≤r.2.2.2):=by
 simp only [qmake_group.f]
 refine EvP.loop (L:=fun (c:Nat × Int × List S90) k=>qmake_group.l0 k (n:Int) (i:Int) c.2.2 (c.1:Int) s c.2.1) (fun c=>0≤c.2.1∧c.1≤3∧c.2.2.length≤c.1∧(1≤c.1→1≤c.2.2.length)∧∀ t∈c.2.2,Flat n t) (fun c=>3 - c.1) ?_ (0,s1,[]) ⟨h1,by simp,by simp,by simp,by simp⟩
 clear h1 s1
 rintro ⟨g,s1,ts⟩ ⟨h1,h2,h3,h4,h5⟩ ih
 simp only at h1 h2 h3 h4 h5 ih ⊢
 by_cases h0:(g:Int) < 3
 ·(refine EvP.shift ?_;simp only [qmake_group.l0,h0,Option.bind_some,↓reduceIte,Bool.false_eq_true,reduceCtorEq,decide_eq_true_eq,rd_,rd_T90,rd_T92])
  refine EvP.loop (L:=fun (c:Nat × List Int) k=>qmake_group.l1 k (n:Int) (i:Int) ts (g:Int) (c.1:Int) s s1 1 c.2) (fun c=>Asc (min c.1 n) c.2∧(c.1=g∧c.2=[] ∨ 1≤c.2.length)∧(c.1=g ∨ g+3≤c.1)∧c.1≤100) (fun c=>n - c.1) ?_ (g,[]) ⟨(Asc_nil 0).mono (by omega),Or.inl ⟨rfl,rfl⟩,Or.inl rfl,by show g≤100;omega⟩
  rintro ⟨j,l⟩ ⟨h6,h7,h8,h9⟩ ih2
  simp only at h6 h7 h8 h9 ih2 ⊢
  have hl:=h6.1
  by_cases hj:(j:Int) < (n:Int)
  ·have e1:wrap64 ((j:Int)+3)=((j+3:Nat):Int):=w64 (by omega) (by omega)
   have h10:l.length < 17592186044416:=by omega
   (refine EvP.shift ?_;simp only [qmake_group.l1,hj,e1,h10,Option.bind_some,↓reduceIte,Bool.false_eq_true,reduceCtorEq,decide_eq_true_eq,rd_,rd_T90,rd_T92])
   clear e1
   refine ih2 (j+3,l++[(j:Int)]) ⟨?_,Or.inr (by simp),Or.inr (by show g+3≤j+3;omega),by show j+3≤100;omega⟩ (by show n - (j+3) < n - j;omega)
   rw [show min j n=j by omega] at h6
   exact (Asc_snoc h6 (m:=j+1) (by omega) (by omega)).mono (by show j+1≤min (j+3) n;omega)
  ·rw [show min j n=n by omega] at h6 hl
   have ew:wrap64 ((g:Int)+1)=((g+1:Nat):Int):=w64 (by omega) (by omega)
   by_cases h10:(l.length:Int) > 0
   ·have h11:ts.length < 2513169434916:=by omega
    (refine EvP.shift ?_;simp only [qmake_group.l1,hj,h10,ew,h11,Option.bind_some,↓reduceIte,Bool.false_eq_true,reduceCtorEq,decide_eq_true_eq,rd_,rd_T90,rd_T92])
    clear ew
    refine EvP.bind (tRange hs h1 (by omega) (by omega) (by omega)) ?_
    rintro ⟨v,s'⟩ ⟨⟨h12,h13⟩,h14⟩
    simp only at h12 h13 h14 ⊢
    refine ih (g+1,s',ts++[⟨v,l,[]⟩]) ⟨h14,by show g+1≤3;omega,by simp;omega,by simp,?_⟩ (by show 3 - (g+1) < 3 - g;omega)
    intro t ht
    rcases List.mem_append.1 ht with h|h
    ·exact h5 t h
    ·rw [List.mem_singleton.1 h];exact ⟨h6,rfl,h12,h13⟩
   ·(refine EvP.shift ?_;simp only [qmake_group.l1,hj,h10,ew,Option.bind_some,↓reduceIte,Bool.false_eq_true,reduceCtorEq,decide_eq_true_eq,rd_,rd_T90,rd_T92])
    clear ew
    refine ih (g+1,s1,ts) ⟨h1,by show g+1≤3;omega,by show ts.length≤g+1;omega,fun _=>?_,h5⟩ (by show 3 - (g+1) < 3 - g;omega)
    show 1≤ts.length
    by_cases hg:1≤g
    ·exact h4 hg
    ·exfalso;omega
 ·(refine EvP.shift ?_;simp only [qmake_group.l0,h0,Option.bind_some,↓reduceIte,Bool.false_eq_true,reduceCtorEq,decide_eq_true_eq,rd_,rd_T90,rd_T92])
  refine EvP.bind (tN hs h1 (by omega) (by omega)) ?_
  rintro ⟨v,s'⟩ ⟨⟨h6,h7⟩,h8⟩
  simp only at h6 h7 h8 ⊢
  have h9:1≤ts.length:=h4 (by omega)
  split
  ·have h10:¬ (ts.length:Int)=0:=by omega
   have h11:0≤Int.tmod (i:Int) (ts.length:Int):=Int.tmod_nonneg _ (by omega)
   have h12:Int.tmod (i:Int) (ts.length:Int) < (ts.length:Int):=Int.tmod_lt_of_pos _ (by omega)
   simp only [h10,if_false,h11,if_true,h12]
   have hf:=flat_ok hn (h5 _ (getD_mem' (l:=ts) z90 (show (Int.tmod (i:Int) (ts.length:Int)).toNat < ts.length by omega)))
   generalize ts.getD (Int.tmod (i:Int) (ts.length:Int)).toNat z90=t at hf ⊢
   cases t
   exact EvP.now ⟨hf,h8⟩
  ·have ew:wrap64 ((ts.length:Int) - 1)=(ts.length:Int) - 1:=w64 (by omega) (by omega)
   rw [ew]
   clear ew
   have hm:1≤mx 1 ((ts.length:Int) - 1)∧mx 1 ((ts.length:Int) - 1)≤(ts.length:Int):=by unfold mx;split <;> omega
   refine EvP.bind (tRange hs h8 (by omega) (by omega) (by omega)) ?_
   rintro ⟨v,s'⟩ ⟨⟨h12,h13⟩,h14⟩
   simp only at h12 h13 h14 ⊢
   exact EvP.now ⟨group_ok hn (show 1≤v by omega) h13 (show ts.length≤3 by omega) h5,h14⟩
def OkM (n:Nat) (m:S92):Prop:=if m.f0=true then Okt n m.f1 else m.f1=⟨0,[],[]⟩
def OkC (c:List S92):Prop:=1≤c.length∧c.length≤10∧∀ m∈c,OkM c.length m
theorem Config_ev {s:List Int} (hs:s.length < 4611686018427387904) {a:Int} (ha:1≤a) (ha2:a≤10) {s1:Int} (h1:0≤s1) :
  EvP (fun k=>qmake_Config.f k s s1 a) (fun r=>(OkC r.1∧(r.1.length:Int)≤a)∧0≤r.2):=by
 simp only [qmake_Config.f]
 refine EvP.bind (tRange hs h1 (by omega) ha (by omega)) ?_
 rintro ⟨N,s2⟩ ⟨⟨h2,h3⟩,h4⟩
 simp only at h2 h3 h4 ⊢
 refine EvP.bind (tN hs h4 (by omega) (by omega)) ?_
 rintro ⟨g,s3⟩ ⟨⟨h5,h6⟩,h7⟩
 simp only at h5 h6 h7 ⊢
 obtain ⟨n,rfl⟩:=Int.eq_ofNat_of_zero_le (show 0≤N by omega)
 have hn:n≤10:=by omega
 have hn1:1≤n:=by omega
 clear h1 h4
 refine EvP.loop (L:=fun (c:Nat × Int × List S92) k=>qmake_Config.l0 k (n:Int) g (c.1:Int) s c.2.1 c.2.2) (fun c=>0≤c.2.1∧c.1≤n∧c.2.2.length=c.1∧∀ m∈c.2.2,OkM n m) (fun c=>n - c.1) ?_ (0,s3,[]) ⟨h7,by simp,by simp,by simp⟩
 rintro ⟨i,s1,c⟩ ⟨h1,h8,h9,h10⟩ ih
 simp only at h1 h8 h9 h10 ih ⊢
 by_cases h0:(i:Int) < (n:Int)
 ·have h11:c.length < 2199023255552:=by omega
  have nxt:∀ (m:S92) (s':Int),0≤s'→OkM n m→EvP (fun k=>qmake_Config.l0 k (n:Int) g ((i+1:Nat):Int) s s' (c++[m])) (fun r=>(OkC r.1∧(r.1.length:Int)≤a)∧0≤r.2):=by
   intro m s' hs' hm
   refine ih (i+1,s',c++[m]) ⟨hs',by show i+1≤n;omega,by simp;omega,?_⟩ (by show n - (i+1) < n - i;omega)
   intro x hx
   rcases List.mem_append.1 hx with h|h
   ·exact h10 x h
   ·rw [List.mem_singleton.1 h];exact hm
  have e1:wrap64 ((i:Int)+1)=((i+1:Nat):Int):=w64 (by omega) (by omega)
  by_cases c1:g=0
  ·(refine EvP.shift ?_;simp only [qmake_Config.l0,h0,e1,h11,c1,Option.bind_some,↓reduceIte,Bool.false_eq_true,reduceCtorEq,decide_eq_true_eq,rd_,rd_T90,rd_T92])
   rw [c1] at nxt
   clear e1
   refine EvP.bind (Trust_ev hs hn hn1 h1) ?_
   rintro ⟨v,l,ts,s'⟩ ⟨h12,h13⟩
   simp only at h12 h13 ⊢
   refine EvP.bind (tN hs h13 (by omega) (by omega)) ?_
   rintro ⟨v2,s2⟩ ⟨_,h14⟩
   simp only at h14 ⊢
   split
   ·exact nxt ⟨false,⟨0,[],[]⟩⟩ s2 h14 rfl
   ·exact nxt ⟨true,⟨v,l,ts⟩⟩ s2 h14 h12
  by_cases c2:g=1
  ·have c3:¬ (1:Int)=0:=by decide
   (refine EvP.shift ?_;simp only [qmake_Config.l0,h0,e1,h11,c2,c3,Option.bind_some,↓reduceIte,Bool.false_eq_true,reduceCtorEq,decide_eq_true_eq,rd_,rd_T90,rd_T92])
   rw [c2] at nxt
   clear e1
   refine EvP.bind (most_ev hs hn hn1 h1) ?_
   rintro ⟨v,l,ts,s'⟩ ⟨h12,h13⟩
   simp only at h12 h13 ⊢
   refine EvP.bind (tN hs h13 (by omega) (by omega)) ?_
   rintro ⟨v2,s2⟩ ⟨_,h14⟩
   simp only at h14 ⊢
   split
   ·exact nxt ⟨false,⟨0,[],[]⟩⟩ s2 h14 rfl
   ·exact nxt ⟨true,⟨v,l,ts⟩⟩ s2 h14 h12
  ·(refine EvP.shift ?_;simp only [qmake_Config.l0,h0,e1,h11,c1,c2,Option.bind_some,↓reduceIte,Bool.false_eq_true,reduceCtorEq,decide_eq_true_eq,rd_,rd_T90,rd_T92])
   clear e1
   refine EvP.bind (group_ev hs hn hn1 h1 i (by omega)) ?_
   rintro ⟨v,l,ts,s'⟩ ⟨h12,h13⟩
   simp only at h12 h13 ⊢
   refine EvP.bind (tN hs h13 (by omega) (by omega)) ?_
   rintro ⟨v2,s2⟩ ⟨_,h14⟩
   simp only at h14 ⊢
   split
   ·exact nxt ⟨false,⟨0,[],[]⟩⟩ s2 h14 rfl
   ·exact nxt ⟨true,⟨v,l,ts⟩⟩ s2 h14 h12
 ·(refine EvP.shift ?_;simp only [qmake_Config.l0,h0,Option.bind_some,↓reduceIte,Bool.false_eq_true,reduceCtorEq,decide_eq_true_eq,rd_,rd_T90,rd_T92])
  have e:c.length=n:=by omega
  refine EvP.now ⟨⟨⟨?_,?_,?_⟩,?_⟩,h1⟩
  ·show 1≤c.length;omega
  ·show c.length≤10;omega
  ·show ∀ m∈c,OkM c.length m
   rw [e];exact h10
  ·show (c.length:Int)≤a;omega
theorem New_ev (l0:List Int) (h:l0.length < 4611686018427387904):∃ s,s.length < 4611686018427387904∧qmake_New.f l0=some (s,0):=by
 unfold qmake_New.f
 have h1:0≤mn (l0.length:Int) 400:=by unfold mn;split <;> omega
 have h2:mn (l0.length:Int) 400≤(l0.length:Int):=by unfold mn;split <;> omega
 rw [if_pos h1,if_pos h2]
 refine ⟨_,?_,rfl⟩
 rw [List.length_take]
 omega
theorem inS_mono {s t:Nat} (h:Sub s t) {x:Int} (hx:inS s x=true):inS t x=true:=by
 simp only [inS,Bool.and_eq_true] at hx ⊢
 exact ⟨hx.1,h _ hx.2⟩
mutual
theorem sat_mono {s t:Nat} (h:Sub s t):∀ x:S90,sat s x=true→sat t x=true
 | ⟨n,l,ts⟩=>by
  rw [sat,sat,decide_eq_true_eq,decide_eq_true_eq]
  intro hx
  have h1:l.countP (fun x=>inS s x)≤l.countP (fun x=>inS t x):=List.countP_mono_left fun x _ hx=>inS_mono h hx
  have h2:=satC_mono h ts
  omega
theorem satC_mono {s t:Nat} (h:Sub s t):∀ l:List S90,satC s l≤satC t l
 | []=>by rw [satC,satC];exact Nat.le_refl _
 | x :: xs=>by
  rw [satC,satC]
  have h1:=satC_mono h xs
  have h2:=sat_mono h x
  cases hs:sat s x
  ·simp;omega
  ·rw [h2 hs];simp;omega
end
def declF (i a:Nat):List S92→Nat
 | []=>a
 | m :: ms=>declF (i+1) (if m.f0=true∧i < 10 then a ||| 2 ^ i else a) ms
def decl (c:List S92):Nat:=declF 0 0 c
theorem declF_bit:∀ (ms:List S92) (i a j:Nat),(declF i a ms).testBit j=(a.testBit j || (decide (i≤j) && decide (j < 10) && (ms.getD (j - i) z92).f0)):=by
 intro ms
 induction ms with
 | nil=>intro i a j;simp [declF,z92]
 | cons m ms ih =>
  intro i a j
  rw [declF,ih]
  by_cases h:j=i
  ·subst h
   have e:decide (j+1≤j)=false:=by simp
   have e2:decide (j≤j)=true:=by simp
   rw [e,e2,Nat.sub_self]
   by_cases h2:j < 10 <;> cases hm:m.f0 <;> simp [h2,hm]
  ·have e:(if m.f0=true∧i < 10 then a ||| 2 ^ i else a).testBit j=a.testBit j:=by
    split
    ·rw [or_bit,two_bit];simp;intro h2;omega
    ·rfl
   rw [e]
   by_cases h2:i≤j
   ·obtain ⟨d,rfl⟩:∃ d,j=i+1+d:=⟨j - (i+1),by omega⟩
    have h3:i+1+d - i=d+1:=by omega
    have h4:i+1+d - (i+1)=d:=by omega
    rw [h3,h4,List.getD_cons_succ]
    simp [h2]
   ·have h3:¬ i+1≤j:=by omega
    simp [h2,h3]
theorem decl_bit (c:List S92) (j:Nat):(decl c).testBit j=(decide (j < 10) && (c.getD j z92).f0):=by
 rw [decl,declF_bit];simp
theorem decl_lt (c:List S92):decl c < 1024:=lt_of_bits (n:=10) fun i hi=>by rw [decl_bit];simp;omega
theorem decl_len {c:List S92} {j:Nat} (h:(decl c).testBit j=true):j < c.length:=by
 rw [decl_bit] at h
 by_cases hj:j < c.length
 ·exact hj
 ·rw [List.getD_eq_getElem?_getD,List.getElem?_eq_none (by omega)] at h
  simp [z92] at h
def nodesL (s:Nat):List Int:=((List.range 10).filter fun i=>s.testBit i).map Int.ofNat
theorem nodesL_mem {s:Nat} {x:Int}:x∈nodesL s ↔ inS s x=true:=by
 simp only [nodesL,List.mem_map,List.mem_filter,List.mem_range,inS,Bool.and_eq_true,decide_eq_true_eq]
 constructor
 ·rintro ⟨i,⟨h1,h2⟩,rfl⟩
  exact ⟨⟨by simp,by simp;omega⟩,by simpa using h2⟩
 ·rintro ⟨⟨h1,h2⟩,h3⟩
  exact ⟨x.toNat,⟨by omega,h3⟩,by simp;omega⟩
theorem nodesL_len (s:Nat):(nodesL s).length≤10:=by
 rw [nodesL,List.length_map]
 have:=List.length_filter_le (fun i=>s.testBit i) (List.range 10)
 simpa using this
def Light (c:List S92):Prop:=c.length < 1000000∧∀ m∈c,wt m.f1 < 1000000
theorem OkC.light {c:List S92} (h:OkC c):Light c:=by
 refine ⟨by have:=h.2.1;omega,fun m hm=>?_⟩
 have:=h.2.2 m hm
 unfold OkM at this
 split at this
 ·have:=this.2.1;omega
 ·rw [this];decide
theorem Light.at {c:List S92} (h:Light c) (j:Nat):wt (c.getD j z92).f1 < 1000000:=by
 by_cases hj:j < c.length
 ·exact h.2 _ (getD_mem' z92 hj)
 ·rw [List.getD_eq_getElem?_getD,List.getElem?_eq_none (by omega)];decide
def blk (c:List S92) (s:Nat) (j:Int):Bool:=inS (decl c) j && !(sat (dif 1023 s ||| 2 ^ j.toNat) (c.getD j.toNat z92).f1)
theorem inS_iff {s:Nat} {x:Int}:inS s x=true ↔ ∃ i:Nat,x=(i:Int)∧i < 10∧s.testBit i=true:=by
 simp only [inS,Bool.and_eq_true,decide_eq_true_eq]
 constructor
 ·rintro ⟨⟨h1,h2⟩,h3⟩
  exact ⟨x.toNat,by omega,by omega,h3⟩
 ·rintro ⟨i,rfl,h1,h2⟩
  exact ⟨⟨by omega,by omega⟩,by simpa using h2⟩
theorem and_nat' {a b:Nat} (ha:a < 1024) (hb:b < 1024):Go.bits .and .i64 (a:Int) (b:Int)=((a &&& b:Nat):Int):=and_nat (by omega) (by omega)
theorem or_nat' {a b:Nat} (ha:a < 1024) (hb:b < 1024):Go.bits .or .i64 (a:Int) (b:Int)=((a ||| b:Nat):Int):=or_nat (by omega) (by omega)
theorem shl_nat' {k:Nat} (h:k < 10):shl .i64 1 (k:Int)=((2 ^ k:Nat):Int):=shl_nat (by omega)
theorem Declared_ev {c:List S92} (hc:c.length < 1000000):Ev (fun k=>configuration_Declared.f k c) (decl c:Int):=by
 simp only [configuration_Declared.f]
 refine Ev.fold (xs:=c) (L:=fun (a:Nat) i k=>configuration_Declared.l0 k (a:Int) c (c.length:Int) i) (by omega) (fun pre ys a=>declF pre.length a ys=decl c∧a < 1024) ?_ ?_ 0 ⟨rfl,by decide⟩
 ·rintro a i ⟨hI,ha⟩ hi
  rw [declF] at hI
  (refine Ev.shift ?_;simp only [configuration_Declared.l0,hi,Option.bind_some,↓reduceIte,Bool.false_eq_true,reduceCtorEq,decide_eq_true_eq,rd_,rd_T90,rd_T92])
  rw [hI]
  exact Ev.now _
 ·rintro pre y ys a i e ⟨hI,ha⟩ hi h0 hlt hw hrd
  subst hi
  rw [declF] at hI
  by_cases h10:pre.length < 10
  ·have h10':(pre.length:Int) < 10:=by omega
   have h2:=two_lt10 h10
   cases hy:y.f0
   ·refine Or.inl ⟨a,⟨by simpa [hy] using hI,ha⟩,fun k=>?_⟩
    (refine Ev.shift ?_;simp only [configuration_Declared.l0,h0,hlt,hw,hrd,hy,h10',Option.bind_some,↓reduceIte,Bool.false_eq_true,reduceCtorEq,decide_eq_true_eq,rd_,rd_T90,rd_T92])
    exact k
   ·refine Or.inl ⟨a ||| 2 ^ pre.length,⟨by simpa [hy,h10] using hI,or_lt10 ha h2⟩,fun k=>?_⟩
    (refine Ev.shift ?_;simp only [configuration_Declared.l0,h0,hlt,hw,hrd,hy,h10',Option.bind_some,↓reduceIte,Bool.false_eq_true,reduceCtorEq,decide_eq_true_eq,rd_,rd_T90,rd_T92])
    rw [shl_nat' h10,or_nat' ha h2]
    exact k
  ·have h10':¬ (pre.length:Int) < 10:=by omega
   refine Or.inl ⟨a,⟨by simpa [h10] using hI,ha⟩,fun k=>?_⟩
   cases hy:y.f0
   ·(refine Ev.shift ?_;simp only [configuration_Declared.l0,h0,hlt,hw,hrd,hy,h10',Option.bind_some,↓reduceIte,Bool.false_eq_true,reduceCtorEq,decide_eq_true_eq,rd_,rd_T90,rd_T92])
    exact k
   ·(refine Ev.shift ?_;simp only [configuration_Declared.l0,h0,hlt,hw,hrd,hy,h10',Option.bind_some,↓reduceIte,Bool.false_eq_true,reduceCtorEq,decide_eq_true_eq,rd_,rd_T90,rd_T92])
    exact k
theorem Nodes_ev {s:Nat} (hs:s < 1024):Ev (fun k=>nodeset_Nodes.f k (s:Int)) (nodesL s):=by
 simp only [nodeset_Nodes.f]
 refine Ev.count (L:=fun (l:List Int) i k=>nodeset_Nodes.l0 k (s:Int) l i) 10 (by decide) (fun i l=>l=((List.range i).filter fun i=>s.testBit i).map Int.ofNat) ?_ ?_ [] rfl
 ·rintro l rfl
  have h:¬ ((10:Nat):Int) < 10:=by decide
  (refine Ev.shift ?_;simp only [nodeset_Nodes.l0,h,Option.bind_some,↓reduceIte,Bool.false_eq_true,reduceCtorEq,decide_eq_true_eq,rd_,rd_T90,rd_T92])
  exact Ev.now _
 ·rintro i l hi hl hw
  have h:(i:Int) < 10:=by omega
  have hlen:l.length < 17592186044416:=by
   rw [hl,List.length_map]
   have:=List.length_filter_le (fun i=>s.testBit i) (List.range i)
   simp at this ⊢;omega
  cases hb:s.testBit i
  ·refine Or.inl ⟨l,?_,fun k=>?_⟩
   ·rw [hl,List.range_succ,List.filter_append];simp [hb]
   ·(refine Ev.shift ?_;simp only [nodeset_Nodes.l0,h,Has_eq hs,inS_nat s i (by omega),hb,hw,Option.bind_some,↓reduceIte,Bool.false_eq_true,reduceCtorEq,decide_eq_true_eq,rd_,rd_T90,rd_T92])
    exact k
  ·refine Or.inl ⟨l++[(i:Int)],?_,fun k=>?_⟩
   ·rw [hl,List.range_succ,List.filter_append];simp [hb]
   ·(refine Ev.shift ?_;simp only [nodeset_Nodes.l0,h,Has_eq hs,inS_nat s i (by omega),hb,hw,hlen,Option.bind_some,↓reduceIte,Bool.false_eq_true,reduceCtorEq,decide_eq_true_eq,rd_,rd_T90,rd_T92])
    exact k
def nxt (c:List S92) (s:Nat):Option Int:=(nodesL (dif (decl c) s)).find? fun j=>blk c s j
theorem Sub.or {a b c:Nat} (h:Sub a c) (k:Sub b c):Sub (a ||| b) c:=fun i hi=>by
 rw [or_bit,Bool.or_eq_true] at hi
 exact hi.elim (h i) (k i)
theorem Sub.orl (a b:Nat):Sub a (a ||| b):=fun i hi=>by rw [or_bit,hi];rfl
theorem Sub.orr (a b:Nat):Sub b (a ||| b):=fun i hi=>by rw [or_bit,hi];simp
theorem pcn_lt {s i:Nat} (hi:i < 10) (h:s.testBit i=false):pcn s < pcn (s ||| 2 ^ i):=by
 unfold pcn
 have key:∀ n,(List.range n).countP (fun k=>s.testBit k)+(if i < n then 1 else 0)≤(List.range n).countP fun k=>(s ||| 2 ^ i).testBit k:=by
  intro n
  induction n with
  | zero=>simp
  | succ n ih =>
   rw [List.range_succ,List.countP_append,List.countP_append,List.countP_singleton,List.countP_singleton,or_bit,two_bit]
   generalize (List.range n).countP (fun k=>(s ||| 2 ^ i).testBit k)=B at ih ⊢
   generalize (List.range n).countP (fun k=>s.testBit k)=A at ih ⊢
   by_cases e:i=n
   ·subst e
    rw [h,if_neg (Nat.lt_irrefl i)] at *
    simp
    omega
   ·by_cases hin:i < n
    ·rw [if_pos hin] at ih
     rw [if_pos (show i < n+1 by omega)]
     cases hb:s.testBit n <;> simp [e] <;> omega
    ·rw [if_neg hin] at ih
     rw [if_neg (show ¬ i < n+1 by omega)]
     cases hb:s.testBit n <;> simp [e] <;> omega
 have:=key 10
 rw [if_pos hi] at this
 omega
theorem pcn_le (s:Nat):pcn s≤10:=by
 have:(List.range 10).countP (fun k=>s.testBit k)≤(List.range 10).length:=List.countP_le_length
 simpa [pcn] using this
theorem ref_Declared_ev {c:List S92} (hc:c.length < 1000000):Ev (fun k=>qref06_Declared.f k c) (decl c:Int):=by
 simp only [qref06_Declared.f]
 refine Ev.fold (xs:=c) (L:=fun (a:Nat) i k=>qref06_Declared.l0 k (a:Int) c (c.length:Int) i) (by omega) (fun pre ys a=>declF pre.length a ys=decl c∧a < 1024) ?_ ?_ 0 ⟨rfl,by decide⟩
 ·rintro a i ⟨hI,ha⟩ hi
  rw [declF] at hI
  (refine Ev.shift ?_;simp only [qref06_Declared.l0,hi,Option.bind_some,↓reduceIte,Bool.false_eq_true,reduceCtorEq,decide_eq_true_eq,rd_,rd_T90,rd_T92])
  rw [hI]
  exact Ev.now _
 ·rintro pre y ys a i e ⟨hI,ha⟩ hi h0 hlt hw hrd
  subst hi
  rw [declF] at hI
  by_cases h10:pre.length < 10
  ·have h10':(pre.length:Int) < 10:=by omega
   have h2:=two_lt10 h10
   cases hy:y.f0
   ·refine Or.inl ⟨a,⟨by simpa [hy] using hI,ha⟩,fun k=>?_⟩
    (refine Ev.shift ?_;simp only [qref06_Declared.l0,h0,hlt,hw,hrd,hy,h10',Option.bind_some,↓reduceIte,Bool.false_eq_true,reduceCtorEq,decide_eq_true_eq,rd_,rd_T90,rd_T92])
    exact k
   ·refine Or.inl ⟨a ||| 2 ^ pre.length,⟨by simpa [hy,h10] using hI,or_lt10 ha h2⟩,fun k=>?_⟩
    (refine Ev.shift ?_;simp only [qref06_Declared.l0,h0,hlt,hw,hrd,hy,h10',Option.bind_some,↓reduceIte,Bool.false_eq_true,reduceCtorEq,decide_eq_true_eq,rd_,rd_T90,rd_T92])
    rw [shl_nat' h10,or_nat' ha h2]
    exact k
  ·have h10':¬ (pre.length:Int) < 10:=by omega
   refine Or.inl ⟨a,⟨by simpa [h10] using hI,ha⟩,fun k=>?_⟩
   cases hy:y.f0
   ·(refine Ev.shift ?_;simp only [qref06_Declared.l0,h0,hlt,hw,hrd,hy,h10',Option.bind_some,↓reduceIte,Bool.false_eq_true,reduceCtorEq,decide_eq_true_eq,rd_,rd_T90,rd_T92])
    exact k
   ·(refine Ev.shift ?_;simp only [qref06_Declared.l0,h0,hlt,hw,hrd,hy,h10',Option.bind_some,↓reduceIte,Bool.false_eq_true,reduceCtorEq,decide_eq_true_eq,rd_,rd_T90,rd_T92])
    exact k
theorem ref_Nodes_ev {s:Nat} (hs:s < 1024):Ev (fun k=>qref01_Nodes.f k (s:Int)) (nodesL s):=by
 simp only [qref01_Nodes.f]
 refine Ev.count (L:=fun (l:List Int) i k=>qref01_Nodes.l0 k (s:Int) l i) 10 (by decide) (fun i l=>l=((List.range i).filter fun i=>s.testBit i).map Int.ofNat) ?_ ?_ [] rfl
 ·rintro l rfl
  have h:¬ ((10:Nat):Int) < 10:=by decide
  (refine Ev.shift ?_;simp only [qref01_Nodes.l0,h,Option.bind_some,↓reduceIte,Bool.false_eq_true,reduceCtorEq,decide_eq_true_eq,rd_,rd_T90,rd_T92])
  exact Ev.now _
 ·rintro i l hi hl hw
  have h:(i:Int) < 10:=by omega
  have hlen:l.length < 17592186044416:=by
   rw [hl,List.length_map]
   have:=List.length_filter_le (fun i=>s.testBit i) (List.range i)
   simp at this ⊢;omega
  cases hb:s.testBit i
  ·refine Or.inl ⟨l,?_,fun k=>?_⟩
   ·rw [hl,List.range_succ,List.filter_append];simp [hb]
   ·(refine Ev.shift ?_;simp only [qref01_Nodes.l0,h,ref01_Has_eq hs,inS_nat s i (by omega),hb,hw,Option.bind_some,↓reduceIte,Bool.false_eq_true,reduceCtorEq,decide_eq_true_eq,rd_,rd_T90,rd_T92])
    exact k
  ·refine Or.inl ⟨l++[(i:Int)],?_,fun k=>?_⟩
   ·rw [hl,List.range_succ,List.filter_append];simp [hb]
   ·(refine Ev.shift ?_;simp only [qref01_Nodes.l0,h,ref01_Has_eq hs,inS_nat s i (by omega),hb,hw,hlen,Option.bind_some,↓reduceIte,Bool.false_eq_true,reduceCtorEq,decide_eq_true_eq,rd_,rd_T90,rd_T92])
    exact k
def quo (c:List S92) (x:Nat):Bool:=decide (x ≠ 0) && decide (x &&& decl c=x) && (nodesL x).all fun j=>sat x (c.getD j.toNat z92).f1
theorem quo_iff {c:List S92} {x:Nat} (hx:x < 1024):quo c x=true ↔ x ≠ 0∧Sub x (decl c)∧∀ i,x.testBit i=true→sat x (c.getD i z92).f1=true:=by
 unfold quo
 rw [Bool.and_eq_true,Bool.and_eq_true,decide_eq_true_eq,decide_eq_true_eq,List.all_eq_true,sub_and]
 constructor
 ·rintro ⟨⟨h1,h2⟩,h3⟩
  refine ⟨h1,h2,fun i hi=>?_⟩
  have h10:i < 10:=by
   rcases Nat.lt_or_ge i 10 with h|h
   ·exact h
   ·rw [bit_lt (n:=10) hx h] at hi;cases hi
  have:=h3 (i:Int) (nodesL_mem.2 (inS_iff.2 ⟨i,rfl,h10,hi⟩))
  rwa [Int.toNat_natCast] at this
 ·rintro ⟨h1,h2,h3⟩
  refine ⟨⟨h1,h2⟩,fun j hj=>?_⟩
  obtain ⟨i,rfl,h10,hi⟩:=inS_iff.1 (nodesL_mem.1 hj)
  rw [Int.toNat_natCast]
  exact h3 i hi
theorem ref_Quorum_ev {c:List S92} (hc:Light c) {x:Nat} (hx:x < 1024):Ev (fun k=>qref09_Quorum.f k c (x:Int)) (quo c x):=by
 simp only [qref09_Quorum.f,ref01_Valid_eq,vld_nat hx,Option.bind_some,↓reduceIte,Bool.false_eq_true,reduceCtorEq,decide_eq_true_eq,rd_,rd_T90,rd_T92]
 unfold quo
 by_cases h0:x=0
 ·have h1:(x:Int)=0:=by omega
  simp only [h1,Option.bind_some,↓reduceIte,Bool.false_eq_true,reduceCtorEq,decide_eq_true_eq,rd_,rd_T90,rd_T92]
  (refine Ev.shift ?_;simp only [qref09_Quorum.j0,Option.bind_some,↓reduceIte,Bool.false_eq_true,reduceCtorEq,decide_eq_true_eq,rd_,rd_T90,rd_T92])
  simp only [h0,ne_eq,not_true_eq_false,decide_false,Bool.false_and]
  exact Ev.now _
 have h1:¬ (x:Int)=0:=by omega
 simp only [h1,Option.bind_some,↓reduceIte,Bool.false_eq_true,reduceCtorEq,decide_eq_true_eq,rd_,rd_T90,rd_T92]
 refine Ev.bind1 (ref_Declared_ev hc.1) ?_
 have hd:=decl_lt c
 rw [and_nat' hx hd]
 by_cases h2:x &&& decl c=x
 ·have h3:(((x &&& decl c:Nat):Int) != (x:Int))=false:=by rw [h2];simp
  simp only [h3,Option.bind_some,↓reduceIte,Bool.false_eq_true,reduceCtorEq,decide_eq_true_eq,rd_,rd_T90,rd_T92]
  (refine Ev.shift ?_;simp only [qref09_Quorum.j0,Option.bind_some,↓reduceIte,Bool.false_eq_true,reduceCtorEq,decide_eq_true_eq,rd_,rd_T90,rd_T92])
  refine Ev.bind1 (ref_Nodes_ev hx) ?_
  have hl:=nodesL_len x
  simp only [h0,h2,ne_eq,not_false_eq_true,decide_true,Bool.true_and]
  refine Ev.fold (xs:=nodesL x) (L:=fun (a:Unit) i k=>qref09_Quorum.l0 k (x:Int) (nodesL x) ((nodesL x).length:Int) i c) (by omega) (fun pre ys a=>(ys.all fun j=>sat x (c.getD j.toNat z92).f1)=(nodesL x).all fun j=>sat x (c.getD j.toNat z92).f1) ?_ ?_ () rfl
  ·intro a i hI hi
   rw [List.all_nil] at hI
   (refine Ev.shift ?_;simp only [qref09_Quorum.l0,hi,Option.bind_some,↓reduceIte,Bool.false_eq_true,reduceCtorEq,decide_eq_true_eq,rd_,rd_T90,rd_T92])
   rw [← hI]
   exact Ev.now _
  ·intro pre y ys a i e hI hi h0 hlt hw hrd
   rw [List.all_cons] at hI
   obtain ⟨j,rfl,h10,hj⟩:=inS_iff.1 (nodesL_mem.1 (show y∈nodesL x by rw [e];simp))
   have hjl:j < c.length:=decl_len (sub_and.1 h2 j hj)
   have hj0:(0:Int)≤j:=by omega
   have hj1:(j:Int) < (c.length:Int):=by omega
   rw [Int.toNat_natCast] at hI
   have hsat:=ref02_Sat_ev hx 1000000 _ (hc.at j) (by decide)
   cases hs:sat x (c.getD j z92).f1
   ·refine Or.inr ?_
    rw [hs,Bool.false_and] at hI
    rw [← hI]
    (refine Ev.shift ?_;simp only [qref09_Quorum.l0,h0,hlt,hw,hrd,hj0,hj1,Int.toNat_natCast,Option.bind_some,↓reduceIte,Bool.false_eq_true,reduceCtorEq,decide_eq_true_eq,rd_,rd_T90,rd_T92])
    refine Ev.bind1 hsat ?_
    rw [hs]
    exact Ev.now _
   ·rw [hs,Bool.true_and] at hI
    refine Or.inl ⟨(),hI,fun k=>?_⟩
    (refine Ev.shift ?_;simp only [qref09_Quorum.l0,h0,hlt,hw,hrd,hj0,hj1,Int.toNat_natCast,Option.bind_some,↓reduceIte,Bool.false_eq_true,reduceCtorEq,decide_eq_true_eq,rd_,rd_T90,rd_T92])
    refine Ev.bind1 hsat ?_
    rw [hs]
    exact k
 ·have h3:(((x &&& decl c:Nat):Int) != (x:Int))=true:=by
   rw [bne_iff_ne];intro h;exact h2 (by omega)
  simp only [h3,Option.bind_some,↓reduceIte,Bool.false_eq_true,reduceCtorEq,decide_eq_true_eq,rd_,rd_T90,rd_T92]
  (refine Ev.shift ?_;simp only [qref09_Quorum.j0,Option.bind_some,↓reduceIte,Bool.false_eq_true,reduceCtorEq,decide_eq_true_eq,rd_,rd_T90,rd_T92])
  simp only [h2,decide_false,Bool.and_false,Bool.false_and]
  exact Ev.now _
end Go.Proofs.YtkjlcbfjllpcnaaGreat.X
namespace Go.Proofs.YtkjlcbfjllpcnaaGreat.X
open Go.RowKit Go.Lib Go.Sort YtkjlcbfjllpcnaaGreatW.PrintWords YtkjlcbfjllpcnaaGreatW.PrintLast YtkjlcbfjllpcnaaGreatW.PrintMore
def leS (x y:Int):Prop:=¬ ltS y x
instance (x y:Int):Decidable (leS x y):=inferInstanceAs (Decidable (¬ (_ ∨ _)))
theorem leS_antisymm {x y:Int} (h:leS x y) (k:leS y x):x=y:=by unfold leS ltS at *;omega
theorem sortS_perm (l:List Int):(sortS l).Perm l:=List.mergeSort_perm _ _
theorem sortS_sorted (l:List Int):(sortS l).Pairwise leS:=by
 have:=List.pairwise_mergeSort (le:=fun x y=>!(ltOf cmpS) y x) (by
  intro a b c h1 h2
  rw [Bool.not_eq_true',ltOf_not] at *
  unfold ltS at *;omega) (by
  intro a b
  rw [Bool.or_eq_true,Bool.not_eq_true',Bool.not_eq_true',ltOf_not,ltOf_not]
  unfold ltS;omega) l
 refine this.imp ?_
 intro a b h
 rw [Bool.not_eq_true',ltOf_not] at h
 exact h
theorem sortS_eq {l l':List Int} (h:l.Perm l') (hs:l'.Pairwise leS):sortS l=l' :=
 List.Perm.eq_of_pairwise (le:=leS) (fun a b _ _ h k=>leS_antisymm h k) (sortS_sorted l) hs ((sortS_perm l).trans h)
theorem sub_nat {a b:Nat} (ha:a < 1024) (hb:b < 1024):sub (a:Int) (b:Int)=true ↔ Sub a b:=by
 unfold sub
 rw [andNot_nat (by omega) (by omega),beq_iff_eq,← sub_dif]
 omega
theorem subsetsS_mem {s:Nat} (hs:s < 1024) {x:Int}:x∈subsetsS (s:Int) ↔ ∃ t:Nat,x=(t:Int)∧Sub t s:=by
 rw [subsetsS,vld_nat hs,if_pos rfl,(sortS_perm _).mem_iff,subsBelow,List.mem_filter,List.mem_map]
 constructor
 ·rintro ⟨⟨t,h1,rfl⟩,h2⟩
  rw [List.mem_range] at h1
  exact ⟨t,rfl,(sub_nat (by simp at h1;omega) hs).1 h2⟩
 ·rintro ⟨t,rfl,h⟩
  have ht:t≤s:=by
   have:t &&& s=t:=sub_and.2 h
   rw [← this];exact Nat.and_le_right
  exact ⟨⟨t,by rw [List.mem_range];simp;omega,rfl⟩,(sub_nat (by omega) hs).2 h⟩
theorem subsetsS_len {s:Nat} (hs:s < 1024):(subsetsS (s:Int)).length≤1024:=by
 rw [subsetsS,vld_nat hs,if_pos rfl,sortS_length]
 have:=subsBelow_le (s:Int) ((s:Int).toNat+1)
 simp at this ⊢;omega
def memV (n:Nat) (m:S92):Int:=if m.f0=true then (if validT m.f1=0 then (if uses m.f1 < 2 ^ n then 0 else 5) else validT m.f1) else (if m.f1.f0=0∧m.f1.f1=[]∧m.f1.f2=[] then 0 else 1)
def valF (n:Nat):List S92→Int
 | []=>0
 | m :: ms=>if memV n m=0 then valF n ms else memV n m
def valC (c:List S92):Int:=if c.length > 10 then 3 else valF c.length c
theorem member_ev {n:Nat} (hn:n≤10) (m:S92) (hm:wt m.f1 < 1000000):Ev (fun k=>configuration_member.f k m.f0 m.f1.f0 m.f1.f1 m.f1.f2 (n:Int)) (memV n m):=by
 unfold memV
 cases h:m.f0
 ·simp only [configuration_member.f,configuration_blank.f,Option.bind_some,↓reduceIte,Bool.false_eq_true,reduceCtorEq,decide_eq_true_eq,rd_,rd_T90,rd_T92]
  by_cases h1:m.f1.f0=0
  ·by_cases h2:m.f1.f1=[]
   ·by_cases h3:m.f1.f2=[]
    ·simp only [h1,h2,h3,and_self,if_true,List.length_nil,Option.bind_some]
     simp only [Int.natCast_zero,beq_self_eq_true,if_true,Int.ofNat_zero,Option.bind_some]
     exact Ev.now _
    ·have:¬ (m.f1.f2.length:Int)=0:=by
      intro h;exact h3 (List.eq_nil_of_length_eq_zero (by omega))
     have e2:((m.f1.f2.length:Int) == 0)=false:=by simpa using this
     simp only [h1,h2,h3,and_false,if_true,if_false,List.length_nil,Int.natCast_zero,Int.ofNat_zero,e2,Option.bind_some,Bool.false_eq_true]
     exact Ev.now _
   ·have:¬ (m.f1.f1.length:Int)=0:=by
     intro h;exact h2 (List.eq_nil_of_length_eq_zero (by omega))
    simp only [h1,h2,this,false_and,and_false,if_true,if_false,Option.bind_some,Bool.false_eq_true]
    exact Ev.now _
  ·simp only [h1,false_and,if_false,Option.bind_some,Bool.false_eq_true]
   exact Ev.now _
 ·simp only [configuration_member.f,Option.bind_some,↓reduceIte,Bool.false_eq_true,reduceCtorEq,decide_eq_true_eq,rd_,rd_T90,rd_T92]
  refine Ev.bind1 (Valid_ev m.f1 hm) ?_
  by_cases h1:validT m.f1=0
  ·simp only [h1,if_true]
   refine Ev.bind1 (Uses_ev 1000000 m.f1 hm (by decide)) ?_
   have h0:(0:Int)≤(n:Int):=by omega
   rw [shl_nat (by omega),if_pos h0]
   by_cases h2:uses m.f1 < 2 ^ n
   ·rw [if_pos h2,if_neg (by omega)];exact Ev.now _
   ·rw [if_neg h2,if_pos (by omega)];exact Ev.now _
  ·simp only [h1,if_false]
   exact Ev.now _
theorem CValid_ev {c:List S92} (hc:Light c):Ev (fun k=>configuration_Valid.f k c) (valC c):=by
 have hl:=hc.1
 unfold valC
 by_cases h:c.length > 10
 ·have h2:(c.length:Int) > 10:=by omega
  simp only [configuration_Valid.f,h,h2,Option.bind_some,↓reduceIte,Bool.false_eq_true,reduceCtorEq,decide_eq_true_eq,rd_,rd_T90,rd_T92]
  exact Ev.now _
 ·have h2:¬ (c.length:Int) > 10:=by omega
  simp only [configuration_Valid.f,h,h2,Option.bind_some,↓reduceIte,Bool.false_eq_true,reduceCtorEq,decide_eq_true_eq,rd_,rd_T90,rd_T92]
  refine Ev.fold (xs:=c) (L:=fun (a:Unit) i k=>configuration_Valid.l0 k c (c.length:Int) i c) (by omega) (fun pre ys a=>valF c.length ys=valF c.length c) ?_ ?_ () rfl
  ·intro a i hI hi
   rw [valF] at hI
   (refine Ev.shift ?_;simp only [configuration_Valid.l0,hi,Option.bind_some,↓reduceIte,Bool.false_eq_true,reduceCtorEq,decide_eq_true_eq,rd_,rd_T90,rd_T92])
   rw [← hI]
   exact Ev.now _
  ·intro pre y ys a i e hI hi h0 hlt hw hrd
   rw [valF] at hI
   have hm:=member_ev (n:=c.length) (by omega) y (hc.2 y (by rw [e];simp))
   by_cases h4:memV c.length y=0
   ·rw [if_pos h4] at hI
    refine Or.inl ⟨(),hI,fun k=>?_⟩
    (refine Ev.shift ?_;simp only [configuration_Valid.l0,h0,hlt,hw,hrd,Option.bind_some,↓reduceIte,Bool.false_eq_true,reduceCtorEq,decide_eq_true_eq,rd_,rd_T90,rd_T92])
    refine Ev.bind1 hm ?_
    rw [h4]
    exact k
   ·rw [if_neg h4] at hI
    refine Or.inr ?_
    rw [← hI]
    (refine Ev.shift ?_;simp only [configuration_Valid.l0,h0,hlt,hw,hrd,Option.bind_some,↓reduceIte,Bool.false_eq_true,reduceCtorEq,decide_eq_true_eq,rd_,rd_T90,rd_T92])
    refine Ev.bind1 hm ?_
    simp only [h4,if_false]
    exact Ev.now _
theorem OkM.memV {n:Nat} {m:S92} (h:OkM n m):memV n m=0:=by
 unfold OkM at h
 unfold X.memV
 split at h
 ·rename_i h1
  rw [if_pos h1,if_pos h.1,if_pos h.2.2]
 ·rename_i h1
  rw [if_neg h1,h]
  simp
theorem valF_ok {n:Nat}:∀ (l:List S92),(∀ m∈l,OkM n m)→valF n l=0
 | [],_=>by rw [valF]
 | m :: ms,h=>by rw [valF,if_pos (h m (by simp)).memV];exact valF_ok ms fun x hx=>h x (by simp [hx])
theorem OkC.valC {c:List S92} (h:OkC c):valC c=0:=by
 have:=h.2.1
 rw [X.valC,if_neg (by omega)]
 exact valF_ok c h.2.2
theorem Ints_ev {xs ys:List Int} (hx:xs.length < 1000000):Ev (fun k=>qmake_Ints.f k xs ys) (decide (xs=ys)):=by
 by_cases hl:xs.length=ys.length
 ·have hl2:(xs.length:Int)=(ys.length:Int):=by omega
  simp only [qmake_Ints.f,Option.bind_some,↓reduceIte,Bool.false_eq_true,reduceCtorEq,decide_eq_true_eq,rd_,rd_T90,rd_T92]
  simp only [if_pos hl2]
  refine Ev.fold (xs:=xs) (L:=fun (a:Unit) i k=>qmake_Ints.l0 k xs ys (xs.length:Int) i) (by omega) (fun pre zs a=>xs.take pre.length=ys.take pre.length) ?_ ?_ () rfl
  ·intro a i hI hi
   rw [List.take_of_length_le (Nat.le_refl _),List.take_of_length_le (by omega)] at hI
   (refine Ev.shift ?_;simp only [qmake_Ints.l0,hi,Option.bind_some,↓reduceIte,Bool.false_eq_true,reduceCtorEq,decide_eq_true_eq,rd_,rd_T90,rd_T92])
   rw [decide_eq_true hI]
   exact Ev.now _
  ·intro pre y zs a i e hI hi h0 hlt hw hrd
   subst hi
   have hrd':=hrd
   simp only [Int.toNat_natCast] at hrd'
   have hlt2:(pre.length:Int) < (ys.length:Int):=by omega
   have hp:pre.length < ys.length:=by omega
   have hy:ys.getD pre.length 0=ys[pre.length]:=by rw [List.getD_eq_getElem?_getD,List.getElem?_eq_getElem hp];rfl
   have hx':xs.take (pre.length+1)=xs.take pre.length++[y]:=by
    have:=hrd 0
    rw [Int.toNat_natCast,List.getD_eq_getElem?_getD,List.getElem?_eq_getElem (show pre.length < xs.length by omega)] at this
    rw [List.take_succ_eq_append_getElem (by omega)]
    congr 2
   by_cases h:y=ys.getD pre.length 0
   ·refine Or.inl ⟨(),?_,fun k=>?_⟩
    ·rw [List.length_append,List.length_singleton,hx',hI,List.take_succ_eq_append_getElem hp,← hy,h]
    ·(refine Ev.shift ?_;simp only [qmake_Ints.l0,h0,hlt,hw,hlt2,hrd',Int.toNat_natCast,Option.bind_some,↓reduceIte,Bool.false_eq_true,reduceCtorEq,decide_eq_true_eq,rd_,rd_T90,rd_T92])
     simp only [if_pos h]
     exact k
   ·refine Or.inr ?_
    have hne:xs ≠ ys:=by
     intro hh
     subst hh
     have:=hrd 0
     rw [Int.toNat_natCast] at this
     exact h this.symm
    rw [decide_eq_false hne]
    (refine Ev.shift ?_;simp only [qmake_Ints.l0,h0,hlt,hw,hlt2,hrd',Int.toNat_natCast,Option.bind_some,↓reduceIte,Bool.false_eq_true,reduceCtorEq,decide_eq_true_eq,rd_,rd_T90,rd_T92])
    simp only [if_neg h]
    exact Ev.now _
 ·have hl2:¬ (xs.length:Int)=(ys.length:Int):=by omega
  simp only [qmake_Ints.f,hl2,Option.bind_some,↓reduceIte,Bool.false_eq_true,reduceCtorEq,decide_eq_true_eq,rd_,rd_T90,rd_T92]
  have hne:xs ≠ ys:=fun hh=>hl (by rw [hh])
  rw [decide_eq_false hne]
  exact Ev.now _
end Go.Proofs.YtkjlcbfjllpcnaaGreat.X
namespace Go.Proofs.YtkjlcbfjllpcnaaGreat.X
open Go.RowKit YtkjlcbfjllpcnaaGreatW.PrintWords YtkjlcbfjllpcnaaGreatW.PrintLast YtkjlcbfjllpcnaaGreatW.PrintMore
instance (x y:Int):Decidable (ltS x y):=inferInstanceAs (Decidable (_ ∨ _))
def unh (c:List S92) (x:Nat):Option Int:=(nodesL x).find? fun j=>!(sat x (c.getD j.toNat z92).f1)
theorem bit10 {x i:Nat} (hx:x < 1024) (hi:x.testBit i=true):i < 10:=by
 rcases Nat.lt_or_ge i 10 with h|h
 ·exact h
 ·rw [bit_lt (n:=10) hx h] at hi;cases hi
theorem unh_none {c:List S92} {x:Nat} (hx:x < 1024):unh c x=none ↔ ∀ i,x.testBit i=true→sat x (c.getD i z92).f1=true:=by
 unfold unh
 rw [List.find?_eq_none]
 constructor
 ·intro h i hi
  have:=h (i:Int) (nodesL_mem.2 (inS_iff.2 ⟨i,rfl,bit10 hx hi,hi⟩))
  rw [Int.toNat_natCast] at this
  simpa using this
 ·intro h j hj
  obtain ⟨i,rfl,h10,hi⟩:=inS_iff.1 (nodesL_mem.1 hj)
  rw [Int.toNat_natCast,h i hi]
  simp
theorem unh_some {c:List S92} {x:Nat} {j:Int} (h:unh c x=some j):∃ i:Nat,j=(i:Int)∧i < 10∧x.testBit i=true∧sat x (c.getD i z92).f1=false:=by
 have h1:=List.find?_some h
 have h2:=List.mem_of_find?_eq_some h
 obtain ⟨i,rfl,h10,hi⟩:=inS_iff.1 (nodesL_mem.1 h2)
 rw [Int.toNat_natCast] at h1
 exact ⟨i,rfl,h10,hi,by simpa using h1⟩
def grtF (c:List S92):Nat→Nat→Nat
 | 0,x=>x
 | n+1,x=>match unh c x with
  | none=>x
  | some j=>grtF c n (dif x (2 ^ j.toNat))
def elimF (c:List S92):Nat→Nat→List Int
 | 0,x=>[]
 | n+1,x=>match unh c x with
  | none=>[]
  | some j=>j :: elimF c n (dif x (2 ^ j.toNat))
def grt (c:List S92) (x:Nat):Nat:=grtF c 11 (x &&& decl c)
theorem pcn_dif {x i:Nat} (h10:i < 10) (h:x.testBit i=true):pcn (dif x (2 ^ i)) < pcn x:=by
 have h1:(dif x (2 ^ i)).testBit i=false:=by rw [dif_bit,two_bit];simp
 have h2:=pcn_lt h10 h1
 have h3:dif x (2 ^ i) ||| 2 ^ i=x:=eq_bits fun j=>by
  rw [or_bit,dif_bit,two_bit]
  by_cases e:i=j
  ·subst e;simp [h]
  ·simp [e]
 rwa [h3] at h2
theorem dif_sub' (a b:Nat):Sub (dif a b) a:=fun i hi=>by rw [dif_bit,Bool.and_eq_true] at hi;exact hi.1
theorem Sub.lt {a b:Nat} (h:Sub a b) (hb:b < 1024):a < 1024:=lt_of_bits (n:=10) fun i hi=>by
 cases ha:a.testBit i
 ·rfl
 ·rw [← h i ha];exact bit_lt hb hi
theorem Sub.le {a b:Nat} (h:Sub a b):a≤b:=by
 rw [← sub_and.2 h];exact Nat.and_le_right
theorem quo_sat {c:List S92} {q i:Nat} (hq:q < 1024) (h:quo c q=true) (hi:q.testBit i=true):sat q (c.getD i z92).f1=true:=((quo_iff hq).1 h).2.2 i hi
theorem grtF_spec {c:List S92}:∀ n x,x < 1024→pcn x < n →
  unh c (grtF c n x)=none∧Sub (grtF c n x) x∧(∀ q,q < 1024→quo c q=true→Sub q x→Sub q (grtF c n x))
 | 0,x,_,h=>absurd h (by omega)
 | n+1,x,hx,h=>by
  rw [grtF]
  cases hu:unh c x with
  | none=>exact ⟨hu,Sub.refl _,fun q _ _ h=>h⟩
  | some j =>
   obtain ⟨i,rfl,h10,hi,hs⟩:=unh_some hu
   simp only [Int.toNat_natCast]
   have h1:=pcn_dif h10 hi
   have h2:=grtF_spec (c:=c) n (dif x (2 ^ i)) (dif_lt (n:=10) hx) (by omega)
   refine ⟨h2.1,h2.2.1.trans (dif_sub' _ _),fun q hq hqq hsub=>h2.2.2 q hq hqq fun k hk=>?_⟩
   rw [dif_bit,hsub k hk,two_bit]
   by_cases e:i=k
   ·subst e
    rw [sat_mono hsub _ (quo_sat hq hqq hk)] at hs
    cases hs
   ·simp [e]
theorem and_lt10 {a b:Nat} (hb:b < 1024):a &&& b < 1024:=Nat.lt_of_le_of_lt Nat.and_le_right hb
theorem grt_un {c:List S92} (x:Nat):unh c (grt c x)=none∧Sub (grt c x) (x &&& decl c)∧∀ q,q < 1024→quo c q=true→Sub q (x &&& decl c)→Sub q (grt c x) :=
 grtF_spec 11 _ (and_lt10 (decl_lt c)) (by have:=pcn_le (x &&& decl c);omega)
theorem grt_sub (c:List S92) (x:Nat):Sub (grt c x) x:=fun i hi=>by
 have:=(grt_un (c:=c) x).2.1 i hi
 rw [and_bit,Bool.and_eq_true] at this
 exact this.1
theorem grt_decl (c:List S92) (x:Nat):Sub (grt c x) (decl c):=fun i hi=>by
 have:=(grt_un (c:=c) x).2.1 i hi
 rw [and_bit,Bool.and_eq_true] at this
 exact this.2
theorem grt_lt (c:List S92) (x:Nat):grt c x < 1024:=(grt_decl c x).lt (decl_lt c)
theorem grt_quo {c:List S92} {x:Nat} (h:grt c x ≠ 0):quo c (grt c x)=true :=
 (quo_iff (grt_lt c x)).2 ⟨h,grt_decl c x,(unh_none (grt_lt c x)).1 (grt_un x).1⟩
theorem Sub.zero {a:Nat} (h:Sub a 0):a=0:=h.eq fun i hi=>by rw [Nat.zero_testBit] at hi;cases hi
theorem pow10 {n:Nat} (hn:n≤10):2 ^ n≤1024:=Nat.pow_le_pow_right (n:=2) (by decide) hn
end Go.Proofs.YtkjlcbfjllpcnaaGreat.X
namespace Go.Proofs.YtkjlcbfjllpcnaaGreat.X
open Go.RowKit YtkjlcbfjllpcnaaGreatW.PrintWords YtkjlcbfjllpcnaaGreatW.PrintLast YtkjlcbfjllpcnaaGreatW.PrintMore
attribute [local go_sem] max2_int min2_int max_two min_two max_three min_three max_four min_four
end Go.Proofs.YtkjlcbfjllpcnaaGreat.X
namespace Go.Proofs.YtkjlcbfjllpcnaaGreat.X
open Go.RowKit YtkjlcbfjllpcnaaGreatW.PrintWords YtkjlcbfjllpcnaaGreatW.PrintLast YtkjlcbfjllpcnaaGreatW.PrintMore
theorem content_ev {c:List S92} (hc:Light c) {x j:Nat} (hx:x < 1024) (hj:j < c.length):Ev (fun k=>closure_content.f k c (j:Int) (x:Int)) (sat x (c.getD j z92).f1):=by
 have hj0:(0:Int)≤j:=by omega
 have hj1:(j:Int) < (c.length:Int):=by omega
 have hsat:=Sat_ev hx 1000000 _ (hc.at j) (by decide)
 simp only [closure_content.f,hj0,hj1,Int.toNat_natCast,Option.bind_some,↓reduceIte,Bool.false_eq_true,reduceCtorEq,decide_eq_true_eq,rd_,rd_T90,rd_T92]
 refine Ev.bind1 hsat ?_
 exact Ev.now _
def optN:Option Int→Int × Bool
 | some j=>(j,true)
 | none=>(0,false)
theorem unhappy_ev {c:List S92} (hc:Light c) {x:Nat} (hx:x < 1024) (hd:Sub x (decl c)):Ev (fun k=>closure_unhappy.f k c (x:Int)) (optN (unh c x)):=by
 simp only [closure_unhappy.f]
 refine Ev.bind1 (Nodes_ev hx) ?_
 have hl:=nodesL_len x
 refine Ev.fold (xs:=nodesL x) (L:=fun (a:Unit) i k=>closure_unhappy.l0 k (x:Int) (nodesL x) ((nodesL x).length:Int) i c) (by omega) (fun pre ys a=>(ys.find? fun j=>!(sat x (c.getD j.toNat z92).f1))=unh c x) ?_ ?_ () rfl
 ·intro a i hI hi
  rw [List.find?_nil] at hI
  (refine Ev.shift ?_;simp only [closure_unhappy.l0,hi,Option.bind_some,↓reduceIte,Bool.false_eq_true,reduceCtorEq,decide_eq_true_eq,rd_,rd_T90,rd_T92])
  rw [← hI]
  exact Ev.now _
 ·intro pre y ys a i e hI hi h0 hlt hw hrd
  obtain ⟨j,rfl,h10,hj⟩:=inS_iff.1 (nodesL_mem.1 (show y∈nodesL x by rw [e];simp))
  have hcon:=content_ev hc hx (decl_len (hd j hj))
  rw [List.find?_cons,Int.toNat_natCast] at hI
  cases hs:sat x (c.getD j z92).f1
  ·refine Or.inr ?_
   rw [hs] at hI
   simp only [Bool.not_false] at hI
   rw [← hI]
   (refine Ev.shift ?_;simp only [closure_unhappy.l0,h0,hlt,hw,hrd,Option.bind_some,↓reduceIte,Bool.false_eq_true,reduceCtorEq,decide_eq_true_eq,rd_,rd_T90,rd_T92])
   refine Ev.bind1 hcon ?_
   rw [hs]
   exact Ev.now _
  ·rw [hs] at hI
   simp only [Bool.not_true] at hI
   refine Or.inl ⟨(),hI,fun k=>?_⟩
   (refine Ev.shift ?_;simp only [closure_unhappy.l0,h0,hlt,hw,hrd,Option.bind_some,↓reduceIte,Bool.false_eq_true,reduceCtorEq,decide_eq_true_eq,rd_,rd_T90,rd_T92])
   refine Ev.bind1 hcon ?_
   rw [hs]
   exact k
theorem quo_unh {c:List S92} {x:Nat} (hx:x < 1024) (h0:x ≠ 0) (hd:Sub x (decl c)):quo c x=!(optN (unh c x)).2:=by
 cases hu:unh c x with
 | none=>exact (quo_iff hx).2 ⟨h0,hd,(unh_none hx).1 hu⟩
 | some j =>
  obtain ⟨i,rfl,h10,hi,hs⟩:=unh_some hu
  cases hq:quo c x
  ·rfl
  ·rw [quo_sat hx hq hi] at hs;cases hs
theorem Quorum_ev {c:List S92} (hc:Light c) {x:Nat} (hx:x < 1024):Ev (fun k=>closure_Quorum.f k c (x:Int)) (quo c x):=by
 simp only [closure_Quorum.f,Valid_eq,vld_nat hx,Option.bind_some,↓reduceIte,Bool.false_eq_true,reduceCtorEq,decide_eq_true_eq,rd_,rd_T90,rd_T92]
 by_cases h0:x=0
 ·have h1:(x:Int)=0:=by omega
  simp only [h1,Option.bind_some,↓reduceIte,Bool.false_eq_true,reduceCtorEq,decide_eq_true_eq,rd_,rd_T90,rd_T92]
  have:quo c x=false:=by unfold quo;simp [h0]
  rw [this]
  exact Ev.now _
 have h1:¬ (x:Int)=0:=by omega
 simp only [h1,closure_inside.f,Option.bind_some,↓reduceIte,Bool.false_eq_true,reduceCtorEq,decide_eq_true_eq,rd_,rd_T90,rd_T92]
 have hD:=Declared_ev hc.1
 have hin:Ev (fun k=>(configuration_Declared.f k c).bind fun t=>some (Go.bits .andNot .i64 (x:Int) t == 0)) (dif x (decl c) == 0):=by
  refine Ev.bind1 hD ?_
  have hdl:=decl_lt c
  rw [andNot_nat (by omega) (by omega)]
  have:(((dif x (decl c):Nat):Int) == 0)=(dif x (decl c) == 0):=by
   by_cases h:dif x (decl c)=0
   ·rw [h];rfl
   ·have h2:¬ ((dif x (decl c):Nat):Int)=0:=by omega
    rw [beq_eq_false_iff_ne.2 h,beq_eq_false_iff_ne.2 h2]
  rw [this]
  exact Ev.now _
 refine Ev.bind1 hin ?_
 by_cases h:Sub x (decl c)
 ·rw [sub_dif.2 h]
  simp only [beq_self_eq_true,if_true]
  refine Ev.bind1 (unhappy_ev hc hx h) ?_
  rw [quo_unh hx h0 h]
  exact Ev.now _
 ·have h2:(dif x (decl c) == 0)=false:=beq_eq_false_iff_ne.2 fun e=>h (sub_dif.1 e)
  rw [h2]
  simp only [Bool.false_eq_true,if_false]
  have:quo c x=false:=by
   cases hq:quo c x
   ·rfl
   ·exact absurd ((quo_iff hx).1 hq).2.1 h
  rw [this]
  exact Ev.now _
theorem sub_two_all:∀ x,x < 1024→∀ i,i < 10→x.testBit i=true→x - 2 ^ i=dif x (2 ^ i)∧2 ^ i≤x:=by decide +kernel
theorem sub_two {x i:Nat} (hx:x < 1024) (h:x.testBit i=true):wrap64 ((x:Int) - ((2 ^ i:Nat):Int))=((dif x (2 ^ i):Nat):Int):=by
 obtain ⟨h1,h2⟩:=sub_two_all x hx i (bit10 hx h) h
 rw [← h1]
 generalize 2 ^ i=w at h2
 rw [w64 (by omega) (by omega)]
 omega
theorem Elim_ev {c:List S92} (hc:Light c) {x:Nat} (hx:x < 1024):Ev (fun k=>qref09_Elimination.f k c (x:Int)) (elimF c 11 (x &&& decl c)):=by
 simp only [qref09_Elimination.f,ref01_Valid_eq,vld_nat hx,Option.bind_some,↓reduceIte,Bool.false_eq_true,reduceCtorEq,decide_eq_true_eq,rd_,rd_T90,rd_T92]
 refine Ev.bind1 (ref_Declared_ev hc.1) ?_
 have hdl:=decl_lt c
 rw [and_nat' hx hdl]
 have key:∀ (n:Nat) (s:Nat) (o:List Int),s < 1024→Sub s (decl c)→pcn s < n→o.length+n≤1000→Ev (fun k=>qref09_Elimination.l0 k (s:Int) o true c) (o++elimF c n s):=by
  intro n
  induction n with
  | zero=>intro s o _ _ h;exact absurd h (by omega)
  | succ n ih =>
   intro s o hs hd hp ho
   rw [elimF]
   (refine Ev.shift ?_;simp only [qref09_Elimination.l0,Option.bind_some,↓reduceIte,Bool.false_eq_true,reduceCtorEq,decide_eq_true_eq,rd_,rd_T90,rd_T92])
   refine Ev.bind1 (ref_Nodes_ev hs) ?_
   have hl:=nodesL_len s
   refine Ev.fold (xs:=nodesL s) (L:=fun (a:Unit) i k=>qref09_Elimination.l1 k (s:Int) o false (nodesL s) ((nodesL s).length:Int) i c) (by omega) (fun pre ys a=>(ys.find? fun j=>!(sat s (c.getD j.toNat z92).f1))=unh c s) ?_ ?_ () rfl
   ·intro a i hI hi
    rw [List.find?_nil] at hI
    rw [← hI]
    (refine Ev.shift ?_;simp only [qref09_Elimination.l1,hi,Option.bind_some,↓reduceIte,Bool.false_eq_true,reduceCtorEq,decide_eq_true_eq,rd_,rd_T90,rd_T92])
    (refine Ev.shift ?_;simp only [qref09_Elimination.l0,Option.bind_some,↓reduceIte,Bool.false_eq_true,reduceCtorEq,decide_eq_true_eq,rd_,rd_T90,rd_T92])
    simp only [List.append_nil]
    exact Ev.now _
   ·intro pre y ys a i e hI hi h0 hlt hw hrd
    obtain ⟨j,rfl,h10,hj⟩:=inS_iff.1 (nodesL_mem.1 (show y∈nodesL s by rw [e];simp))
    have hjl:=decl_len (hd j hj)
    have hj0:(0:Int)≤j:=by omega
    have hj1:(j:Int) < (c.length:Int):=by omega
    have hsat:=ref02_Sat_ev hs 1000000 _ (hc.at j) (by decide)
    rw [List.find?_cons,Int.toNat_natCast] at hI
    cases hsj:sat s (c.getD j z92).f1
    ·refine Or.inr ?_
     rw [hsj] at hI
     simp only [Bool.not_false] at hI
     rw [← hI]
     have holen:o.length < 17592186044416:=by omega
     have e2:=sub_two hs hj
     (refine Ev.shift ?_;simp only [qref09_Elimination.l1,h0,hlt,hw,hrd,hj0,hj1,Int.toNat_natCast,Option.bind_some,↓reduceIte,Bool.false_eq_true,reduceCtorEq,decide_eq_true_eq,rd_,rd_T90,rd_T92])
     refine Ev.bind1 hsat ?_
     rw [hsj]
     simp only [Bool.false_eq_true,if_false,holen,if_true,shl_nat' h10,e2]
     have:=ih (dif s (2 ^ j)) (o++[(j:Int)]) (dif_lt (n:=10) hs) ((dif_sub' _ _).trans hd) (by have:=pcn_dif h10 hj;omega) (by simp;omega)
     rw [List.append_assoc] at this
     exact this
    ·rw [hsj] at hI
     simp only [Bool.not_true] at hI
     refine Or.inl ⟨(),hI,fun k=>?_⟩
     (refine Ev.shift ?_;simp only [qref09_Elimination.l1,h0,hlt,hw,hrd,hj0,hj1,Int.toNat_natCast,Option.bind_some,↓reduceIte,Bool.false_eq_true,reduceCtorEq,decide_eq_true_eq,rd_,rd_T90,rd_T92])
     refine Ev.bind1 hsat ?_
     rw [hsj]
     exact k
 have:=key 11 (x &&& decl c) [] (and_lt10 hdl) (fun i hi=>by rw [and_bit,Bool.and_eq_true] at hi;exact hi.2) (by have:=pcn_le (x &&& decl c);omega) (by simp)
 rw [List.nil_append] at this
 exact this
theorem Greatest_ev {c:List S92} (hc:Light c) {x:Nat} (hx:x < 1024):Ev (fun k=>qref09_Greatest.f k c (x:Int)) (grt c x:Int):=by
 simp only [qref09_Greatest.f,ref01_Valid_eq,vld_nat hx,Option.bind_some,↓reduceIte,Bool.false_eq_true,reduceCtorEq,decide_eq_true_eq,rd_,rd_T90,rd_T92]
 refine Ev.bind1 (ref_Declared_ev hc.1) ?_
 have hdl:=decl_lt c
 rw [and_nat' hx hdl]
 refine Ev.bind1 (Elim_ev hc hx) ?_
 have hlen:∀ n s,(elimF c n s).length≤n:=by
  intro n
  induction n with
  | zero=>intro s;simp [elimF]
  | succ n ih =>
   intro s
   rw [elimF]
   cases unh c s with
   | none=>simp
   | some j=>simp;exact ih _
 have hL:=hlen 11 (x &&& decl c)
 unfold grt
 refine Ev.fold (xs:=elimF c 11 (x &&& decl c)) (L:=fun (s:Nat) i k=>qref09_Greatest.l0 k (s:Int) (elimF c 11 (x &&& decl c)) ((elimF c 11 (x &&& decl c)).length:Int) i) (by omega) (fun pre ys s=>∃ n,s < 1024∧ys=elimF c n s∧grtF c n s=grtF c 11 (x &&& decl c)) ?_ ?_ _ ⟨11,and_lt10 hdl,rfl,rfl⟩
 ·rintro s i ⟨n,hs,hI,hg⟩ hi
  (refine Ev.shift ?_;simp only [qref09_Greatest.l0,hi,Option.bind_some,↓reduceIte,Bool.false_eq_true,reduceCtorEq,decide_eq_true_eq,rd_,rd_T90,rd_T92])
  rw [← hg]
  have:grtF c n s=s:=by
   cases n with
   | zero=>rfl
   | succ n =>
    rw [elimF] at hI
    rw [grtF]
    cases hu:unh c s with
    | none=>rfl
    | some j=>rw [hu] at hI;cases hI
  rw [this]
  exact Ev.now _
 ·rintro pre y ys s i e ⟨n,hs,hI,hg⟩ hi h0 hlt hw hrd
  cases n with
  | zero=>rw [elimF] at hI;cases hI
  | succ n =>
   rw [elimF] at hI
   rw [grtF] at hg
   cases hu:unh c s with
   | none=>rw [hu] at hI;cases hI
   | some j =>
    rw [hu] at hI hg
    obtain ⟨j,rfl,h10,hj,_⟩:=unh_some hu
    simp only [Int.toNat_natCast] at hI hg
    injection hI with hy hys
    subst hy
    have hj0:(0:Int)≤j:=by omega
    have e2:=sub_two hs hj
    refine Or.inl ⟨dif s (2 ^ j),⟨n,dif_lt (n:=10) hs,hys,hg⟩,fun k=>?_⟩
    (refine Ev.shift ?_;simp only [qref09_Greatest.l0,h0,hlt,hw,hrd,hj0,shl_nat' h10,e2,Option.bind_some,↓reduceIte,Bool.false_eq_true,reduceCtorEq,decide_eq_true_eq,rd_,rd_T90,rd_T92])
    exact k
def memS (n:Nat) (t:Int):S92:=⟨true,⟨t,(List.range n).map Int.ofNat,[]⟩⟩
def sameC (n:Nat) (t:Int):List S92:=List.replicate n (memS n t)
end Go.Proofs.YtkjlcbfjllpcnaaGreat.X
namespace Go.Proofs.YtkjlcbfjllpcnaaGreat.X
open Go.RowKit YtkjlcbfjllpcnaaGreatW.PrintWords YtkjlcbfjllpcnaaGreatW.PrintLast YtkjlcbfjllpcnaaGreatW.PrintMore
attribute [local go_sem] max2_int min2_int max_two min_two max_three min_three max_four min_four
end Go.Proofs.YtkjlcbfjllpcnaaGreat.X
namespace Go.Proofs.YtkjlcbfjllpcnaaGreat.X
open Go.RowKit YtkjlcbfjllpcnaaGreatW.PrintWords YtkjlcbfjllpcnaaGreatW.PrintLast YtkjlcbfjllpcnaaGreatW.PrintMore
theorem validT_chk {t:S90} (h:validT t=0):chk t=0:=by
 unfold validT at h
 split at h
 ·cases h
 split at h
 ·cases h
 exact h
mutual
def lv (s:Nat):S90→S90
 | ⟨n,l,ts⟩=>⟨max (max n 0 - ((l.countP (fun x=>inS s x)+lvC s ts:Nat):Int)) 0,l.filter (fun x=>!inS s x),lvI s ts⟩
def lvI (s:Nat):List S90→List S90
 | []=>[]
 | t :: ts=>if (lv s t).f0=0 then lvI s ts else lv s t :: lvI s ts
def lvC (s:Nat):List S90→Nat
 | []=>0
 | t :: ts=>(if (lv s t).f0=0 then 1 else 0)+lvC s ts
end
theorem lv_eq (s:Nat) (t:S90):lv s t=⟨max (max t.f0 0 - ((t.f1.countP (fun x=>inS s x)+lvC s t.f2:Nat):Int)) 0,t.f1.filter (fun x=>!inS s x),lvI s t.f2⟩:=by cases t;rw [lv]
theorem lv_pos (s:Nat) (t:S90):0≤(lv s t).f0:=by rw [lv_eq];simp only;omega
def delT (s:Nat) (j:Int) (t:S90):S90:=if (lv s t).f0=0 then ⟨1,[j],[]⟩ else lv s t
mutual
theorem lv_wt (s:Nat):∀ t:S90,wt (lv s t)≤wt t
 | ⟨n,l,ts⟩=>by
  have h1:=List.length_filter_le (fun x=>!inS s x) l
  have h2:=lvI_wt s ts
  rw [lv,wt,wt]
  omega
theorem lvI_wt (s:Nat):∀ ts:List S90,wtL (lvI s ts)≤wtL ts
 | []=>by rw [lvI];exact Nat.le_refl _
 | t :: ts=>by
  have h1:=lv_wt s t
  have h2:=lvI_wt s ts
  rw [lvI]
  split
  ·rw [wtL];omega
  ·rw [wtL,wtL];omega
end
mutual
theorem lv_dep (s:Nat):∀ t:S90,dep (lv s t)≤dep t
 | ⟨n,l,ts⟩=>by
  have h2:=lvI_dep s ts
  rw [lv,dep,dep]
  omega
theorem lvI_dep (s:Nat):∀ ts:List S90,depL (lvI s ts)≤depL ts
 | []=>by rw [lvI];exact Nat.le_refl _
 | t :: ts=>by
  have h1:=lv_dep s t
  have h2:=lvI_dep s ts
  rw [lvI]
  split
  ·rw [depL];omega
  ·rw [depL,depL];omega
end
mutual
theorem lv_siz (s:Nat):∀ t:S90,siz (lv s t)≤siz t
 | ⟨n,l,ts⟩=>by
  have h1:=List.length_filter_le (fun x=>!inS s x) l
  have h2:=lvI_siz s ts
  rw [lv,siz,siz]
  omega
theorem lvI_siz (s:Nat):∀ ts:List S90,(lvI s ts).length+sizL (lvI s ts)≤ts.length+sizL ts
 | []=>by rw [lvI];exact Nat.le_refl _
 | t :: ts=>by
  have h1:=lv_siz s t
  have h2:=lvI_siz s ts
  rw [lvI]
  split
  ·rw [sizL,List.length_cons];omega
  ·rw [sizL,sizL,List.length_cons,List.length_cons];omega
end
theorem foldU_mono {p:Int→Bool}:∀ (l:List Int) (a b:Nat),Sub a b→Sub (foldU (l.filter p) a) (foldU l b)
 | [],a,b,h=>h
 | x :: xs,a,b,h=>by
  rw [List.filter_cons]
  have h1:∀ c:Nat,foldU (x :: xs) c=foldU xs (if noNode x=true then c else c ||| 2 ^ x.toNat):=fun _=>rfl
  split
  ·have h2:foldU (x :: xs.filter p) a=foldU (xs.filter p) (if noNode x=true then a else a ||| 2 ^ x.toNat):=rfl
   rw [h1,h2]
   refine foldU_mono xs _ _ ?_
   split
   ·exact h
   ·exact Sub.or (h.trans (Sub.orl _ _)) (Sub.orr _ _)
  ·rw [h1]
   refine foldU_mono xs _ _ (h.trans ?_)
   split
   ·exact Sub.refl _
   ·exact Sub.orl _ _
mutual
theorem lv_uses (s:Nat):∀ t:S90,Sub (uses (lv s t)) (uses t)
 | ⟨n,l,ts⟩=>by
  have h2:=lvI_uses s ts
  have h1:=foldU_mono (p:=fun x=>!inS s x) l 0 0 (Sub.refl _)
  rw [lv,uses,uses]
  exact Sub.or (h1.trans (Sub.orl _ _)) (h2.trans (Sub.orr _ _))
theorem lvI_uses (s:Nat):∀ ts:List S90,Sub (useL (lvI s ts)) (useL ts)
 | []=>by rw [lvI];exact Sub.refl _
 | t :: ts=>by
  have h1:=lv_uses s t
  have h2:=lvI_uses s ts
  rw [lvI]
  split
  ·rw [useL];exact h2.trans (Sub.orr _ _)
  ·rw [useL,useL];exact Sub.or (h1.trans (Sub.orl _ _)) (h2.trans (Sub.orr _ _))
end
theorem ofS_filter {p:Int→Bool}:∀ (l:List Int) (a b:Nat),Sub b a→(ofS a l).2=0→(ofS b (l.filter p)).2=0
 | [],a,b,_,_=>rfl
 | x :: xs,a,b,hs,h=>by
  rw [ofS] at h
  split at h
  ·cases h
  rename_i h1
  split at h
  ·cases h
  rename_i h2
  rw [List.filter_cons]
  split
  ·rw [ofS,if_neg h1,if_neg (fun e=>h2 (inS_mono hs e))]
   exact ofS_filter xs _ _ (Sub.or (hs.trans (Sub.orl _ _)) (Sub.orr _ _)) h
  ·exact ofS_filter xs _ _ (hs.trans (Sub.orl _ _)) h
theorem any_filter {p q:Int→Bool} {l:List Int} (h:¬ l.any q=true):¬ (l.filter p).any q=true:=by
 intro hh
 obtain ⟨x,hx,hq⟩:=List.any_eq_true.1 hh
 exact h (List.any_eq_true.2 ⟨x,(List.mem_filter.1 hx).1,hq⟩)
theorem count_len (s:Nat) (l:List Int):l.length=l.countP (fun x=>inS s x)+(l.filter (fun x=>!inS s x)).length:=by
 induction l with
 | nil=>rfl
 | cons x xs ih =>
  rw [List.length_cons,List.countP_cons,List.filter_cons,ih]
  cases inS s x <;> simp <;> omega
theorem lvI_len (s:Nat):∀ ts:List S90,ts.length=lvC s ts+(lvI s ts).length
 | []=>by rw [lvC,lvI];rfl
 | t :: ts=>by
  have:=lvI_len s ts
  rw [lvC,lvI]
  split <;> simp <;> omega
mutual
theorem lv_chk (s:Nat):∀ t:S90,chk t=0→(lv s t).f0 ≠ 0→chk (lv s t)=0
 | ⟨n,l,ts⟩=>by
  intro h h0
  rw [chk] at h
  split at h
  ·cases h
  rename_i h1
  split at h
  ·cases h
  rename_i h2
  split at h
  case isFalse hh=>exact absurd h hh
  rename_i h3
  have h4:=lvI_chk s ts h
  have h5:=ofS_filter (p:=fun x=>!inS s x) l 0 0 (Sub.refl _) h3
  have h6:=count_len s l
  have h7:=lvI_len s ts
  rw [lv] at h0 ⊢
  simp only at h0
  rw [chk,if_neg (by omega),if_neg (any_filter h2),if_pos h5]
  exact h4
theorem lvI_chk (s:Nat):∀ ts:List S90,chkL ts=0→chkL (lvI s ts)=0
 | [],_=>by rw [lvI,chkL]
 | t :: ts,h=>by
  rw [chkL] at h
  split at h
  case isFalse hh=>exact absurd h hh
  rename_i h1
  have h2:=lvI_chk s ts h
  rw [lvI]
  split
  ·exact h2
  ·rename_i h3
   rw [chkL,if_pos (lv_chk s t h1 h3)]
   exact h2
end
theorem delT_ok {n:Nat} (hn:n≤10) {s j:Nat} (hj:j < n) {t:S90} (h:Okt n t):Okt n (delT s (j:Int) t):=by
 unfold delT
 split
 ·exact one_ok (by omega) (by omega) hn
 ·rename_i h0
  have hv:=h.1
  have h1:=lv_dep s t
  have h2:=lv_siz s t
  have h3:=lv_chk s t (validT_chk hv) h0
  refine ⟨?_,Nat.le_trans (lv_wt s t) h.2.1,?_⟩
  ·unfold validT at hv
   split at hv
   ·cases hv
   split at hv
   ·cases hv
   unfold validT
   rw [if_neg (by omega),if_neg (by omega)]
   exact h3
  ·exact Nat.lt_of_le_of_lt (lv_uses s t).le h.2.2
def delM (s:Nat) (j:Nat) (m:S92):S92:=if inS s (j:Int)=true then ⟨false,⟨0,[],[]⟩⟩ else if m.f0=true then ⟨true,delT s (j:Int) m.f1⟩ else ⟨false,⟨m.f1.f0,[],[]⟩⟩
def delF (s:Nat):Nat→List S92→List S92
 | _,[]=>[]
 | j,m :: ms=>delM s j m :: delF s (j+1) ms
def delC (c:List S92) (s:Nat):List S92:=delF s 0 c
theorem delF_len (s:Nat):∀ (c:List S92) (j:Nat),(delF s j c).length=c.length
 | [],_=>rfl
 | m :: ms,j=>by rw [delF,List.length_cons,List.length_cons,delF_len s ms]
theorem delC_len (c:List S92) (s:Nat):(delC c s).length=c.length:=delF_len s c 0
theorem delF_get (s:Nat):∀ (c:List S92) (j i:Nat),i < c.length→(delF s j c).getD i z92=delM s (j+i) (c.getD i z92)
 | [],_,_,h=>absurd h (by simp)
 | m :: ms,j,0,_=>rfl
 | m :: ms,j,i+1,h=>by
  rw [delF,List.getD_cons_succ,List.getD_cons_succ,delF_get s ms (j+1) i (by simpa using h),Nat.add_right_comm,Nat.add_assoc]
theorem delC_get {c:List S92} {s i:Nat} (h:i < c.length):(delC c s).getD i z92=delM s i (c.getD i z92):=by
 unfold delC
 rw [delF_get s c 0 i h,Nat.zero_add]
theorem delC_decl {c:List S92} {s:Nat} (hs:s < 1024):decl (delC c s)=dif (decl c) s:=eq_bits fun i=>by
 rw [dif_bit,decl_bit,decl_bit]
 by_cases h10:i < 10
 ·by_cases hi:i < c.length
  ·rw [delC_get hi]
   unfold delM
   rw [inS_nat s i h10]
   cases s.testBit i <;> cases hf:(c.getD i z92).f0 <;> simp [h10]
  ·have e1:(delC c s).getD i z92=z92:=by rw [List.getD_eq_getElem?_getD,List.getElem?_eq_none (by rw [delC_len];omega)];rfl
   have e2:c.getD i z92=z92:=by rw [List.getD_eq_getElem?_getD,List.getElem?_eq_none (by omega)];rfl
   rw [e1,e2]
   simp [z92]
 ·simp [h10]
theorem delC_ok {c:List S92} (hc:OkC c) (s:Nat):OkC (delC c s):=by
 have hl:=delC_len c s
 refine ⟨by rw [hl];exact hc.1,by rw [hl];exact hc.2.1,fun m hm=>?_⟩
 rw [hl]
 obtain ⟨i,hi,rfl⟩:=List.getElem_of_mem hm
 rw [hl] at hi
 have e:(delC c s)[i]=delM s i (c.getD i z92):=by
  rw [← delC_get hi,List.getD_eq_getElem?_getD,List.getElem?_eq_getElem (by rw [hl];exact hi)]
  rfl
 rw [e]
 have ho:=hc.2.2 _ (getD_mem' z92 hi)
 unfold delM OkM
 unfold OkM at ho
 split
 ·rfl
 ·by_cases hf:(c.getD i z92).f0=true
  ·rw [if_pos hf] at ho ⊢
   exact delT_ok hc.2.1 hi ho
  ·rw [if_neg hf] at ho ⊢
   rw [ho]
   rfl
theorem chkL_mem:∀ {l:List S90} {t:S90},t∈l→chkL l=0→chk t=0
 | x :: xs,t,h,hc=>by
  rw [chkL] at hc
  split at hc
  case isFalse hh=>exact absurd hc hh
  rename_i h1
  rcases List.mem_cons.1 h with rfl|h
  ·exact h1
  ·exact chkL_mem h hc
theorem chk_inner {t:S90} (h:chk t=0):chkL t.f2=0∧1≤t.f0∧t.f0≤((t.f1.length+t.f2.length:Nat):Int):=by
 rw [chk_eq] at h
 split at h
 ·cases h
 rename_i h1
 split at h
 ·cases h
 split at h
 case isFalse hh=>exact absurd h hh
 exact ⟨h,by omega,by omega⟩
abbrev iv (x : Int) : AV := .c (.v (.int .i64 x))
theorem sn_has {s : Nat} (hs : s < 1024) (k : Int) : Sn 78 [iv (s : Int), iv k] (.c (.v (.bool (inS s k)))) :=
  ⟨⟨_, Tryz.func78, by kernel_rfl, rfl⟩, fun c σ μ w us hv hr => by
    obtain ⟨u0, r0, rfl, h0, u1, r1, rfl, h1, h2⟩ := hr
    rw [show u0 = _ from h0, show u1 = _ from h1, show r1 = [] from h2]
    exact (qref01_Has.calls _ _ _ w (ref01_Has_eq hs k)).mono fun e w' ⟨h3, h4⟩ => ⟨_, h3, rfl, h4.below⟩⟩
theorem sn_valid {s : Nat} (hs : s < 1024) : Sn 115 [iv (s : Int)] (.c (.v (.bool true))) :=
  ⟨⟨_, Tryz.func115, by kernel_rfl, rfl⟩, fun c σ μ w us hv hr => by
    obtain ⟨u0, r0, rfl, h0, h2⟩ := hr
    rw [show u0 = _ from h0, show r0 = [] from h2]
    exact (qref01_Valid.calls _ _ w ((ref01_Valid_eq _).trans (congrArg some (vld_nat hs)))).mono fun e w' ⟨h3, h4⟩ => ⟨_, h3, rfl, h4.below⟩⟩
theorem rlower_eq {t : Int} (h0 : 0 ≤ t) (h1 : t ≤ 1000000000) : qref13_lower.f t = some (max t 1 - 1) := by
  unfold qref13_lower.f
  by_cases h : t ≤ 0
  · rw [if_pos h]; congr 1; omega
  · rw [if_neg h, w64 (by omega) (by omega)]; congr 1; omega
theorem sn_lower {t : Int} (h0 : 0 ≤ t) (h1 : t ≤ 1000000000) : Sn 203 [iv t] (iv (max t 1 - 1)) :=
  ⟨⟨_, Tryz.func203, by kernel_rfl, rfl⟩, fun c σ μ w us hv hr => by
    obtain ⟨u0, r0, rfl, h0', h2⟩ := hr
    rw [show u0 = _ from h0', show r0 = [] from h2]
    exact (qref13_lower.calls _ _ w (rlower_eq h0 h1)).mono fun e w' ⟨h3, h4⟩ => ⟨_, h3, rfl, h4.below⟩⟩
set_option maxHeartbeats 1000000 in
theorem less_sn {s : Nat} (hs : s < 1024) : ∀ (m : Nat) (t : S90), wt t < m → m ≤ 1000000 → chk t = 0 → Sn 174 [tv t, iv (s : Int)] (tv (lv s t))
  | 0, t, h, _, _ => absurd h (by omega)
  | m + 1, t, h, hm, hc => by
    obtain ⟨hci, hf1, hf2⟩ := chk_inner hc
    rw [wt_eq] at h
    have hl := len_wtL t.f2
    refine sn_of (n := 60) Tryz.func174 (by kernel_rfl) rfl rfl _ _ rfl rfl fun c => ?_
    refine awP ?_
    refine aW_le (a_ownB 0 5 1005 1 90 .i _ rfl rfl rfl rfl) ?_
    refine W_loop (fun y : Nat × Int × List Int => ⟨[(1, iv (s : Int)), (2, .c (.ptr 2 0)), (4, .c (.ptr 4 0)), (5, .c (.ptr 5 0)), (15, .c (.fz .i t.f1)), (16, iv (t.f1.length : Int)), (17, iv (y.1 : Int))], [(2, .box 90 (Ki.t.cells t)), (4, .box 90 [.v (.int .i64 0), .v (.slice none 0 0), .v (.slice none 0 0)]), (5, .box 90 [.v (.int .i64 y.2.1), .own 1005, .v (.slice none 0 0)]), (1005, .row .i y.2.2)]⟩)
      (fun y => y.1 ≤ t.f1.length ∧ 0 ≤ y.2.1 ∧ y.2.1 ≤ 1000000000 ∧ max (y.2.1 - ((t.f1.drop y.1).countP (fun x => inS s x) : Nat)) 0 = max (t.f0 - (t.f1.countP (fun x => inS s x) : Nat)) 0 ∧ y.2.2 ++ (t.f1.drop y.1).filter (fun x => !inS s x) = t.f1.filter (fun x => !inS s x) ∧ y.2.2.length ≤ y.1) (fun y => t.f1.length - y.1) (0, t.f0, [])
      (fun y : Int × List Int => ⟨[(1, iv (s : Int)), (2, .c (.ptr 2 0)), (4, .c (.ptr 4 0)), (5, .c (.ptr 5 0))], [(2, .box 90 (Ki.t.cells t)), (4, .box 90 [.v (.int .i64 0), .v (.slice none 0 0), .v (.slice none 0 0)]), (5, .box 90 [.v (.int .i64 y.1), .own 1005, .v (.slice none 0 0)]), (1005, .row .i y.2)]⟩)
      (fun y => y.1 = max (t.f0 - (t.f1.countP (fun x => inS s x) : Nat)) 0 ∧ y.2 = t.f1.filter (fun x => !inS s x) ∧ y.1 ≤ 1000000000) LeK ⟨Nat.zero_le _, by simp only; omega, by simp only; omega, rfl, rfl, Nat.le_refl _⟩ ?_ ?_
    · rintro ⟨z, f, acc⟩ ⟨i1, i2, i3, i4, i5, i6⟩
      simp only at i1 i2 i3 i4 i5 i6
      refine awP ?_
      refine W_cond_d rfl (fun h1 => ?_) (fun h1 => ?_)
      · have h1' : z < t.f1.length := by omega
        have hinc : z < 9223372036854775807 := by omega
        obtain ⟨x, hx, hx2⟩ := hxl t.f1 z h1'
        have h0 : (0 : Int) ≤ (z : Int) := Int.natCast_nonneg _
        rw [hx2, List.countP_cons] at i4
        rw [hx2, List.filter_cons] at i5
        refine awP ?_
        refine M_callS (sn_has hs x) rfl rfl ⟨rfl, rfl, trivial⟩ rfl ?_
        refine awP ?_
        refine W_cond rfl (fun hb => ?_) (fun hb => ?_)
        · rw [hb] at i4 i5
          simp only [if_true, Bool.not_true, Bool.false_eq_true, if_false] at i4 i5
          refine awP ?_
          refine M_callS (sn_lower i2 i3) rfl rfl ⟨rfl, trivial⟩ rfl ?_
          refine awP ?_
          exact ⟨(z + 1, max f 1 - 1, acc), ⟨h1', by simp only; omega, by simp only; omega, by simp only; omega, i5, by simp only; omega⟩, by simp only; omega, LeK⟩
        · rw [hb] at i4 i5
          simp only [Bool.not_false, if_true, Bool.false_eq_true, if_false] at i4 i5
          refine awP ?_
          exact ⟨(z + 1, f, acc ++ [x]), ⟨h1', i2, i3, i4, by simp only; rw [List.append_assoc]; exact i5, by simp only [List.length_append, List.length_cons, List.length_nil]; omega⟩, by simp only; omega, LeK⟩
      · refine awP ?_
        rw [List.drop_of_length_le (by omega)] at i4 i5
        rw [List.countP_nil] at i4
        rw [List.filter_nil, List.append_nil] at i5
        exact ⟨(f, acc), ⟨by simp only; omega, i5, i3⟩, LeK⟩
    · rintro ⟨f, acc⟩ ⟨j1, j2, j3⟩
      simp only at j1 j2 j3
      refine awP ?_
      refine aW_le (a_ownB 0 5 1006 2 90 .t _ rfl rfl rfl rfl) ?_
      refine W_loop (fun y : Nat × Int × List S90 => ⟨[(1, iv (s : Int)), (4, .c (.ptr 4 0)), (5, .c (.ptr 5 0)), (36, .c (.fz .t t.f2)), (37, iv (t.f2.length : Int)), (38, iv (y.1 : Int))], [(4, .box 90 [.v (.int .i64 0), .v (.slice none 0 0), .v (.slice none 0 0)]), (5, .box 90 [.v (.int .i64 y.2.1), .own 1005, .own 1006]), (1005, .row .i acc), (1006, .row .t y.2.2)]⟩)
        (fun y => y.1 ≤ t.f2.length ∧ 0 ≤ y.2.1 ∧ y.2.1 ≤ 1000000000 ∧ max (y.2.1 - (lvC s (t.f2.drop y.1) : Nat)) 0 = max (f - (lvC s t.f2 : Nat)) 0 ∧ y.2.2 ++ lvI s (t.f2.drop y.1) = lvI s t.f2 ∧ y.2.2.length ≤ y.1) (fun y => t.f2.length - y.1) (0, f, [])
        (fun y : Int × List S90 => ⟨[(4, .c (.ptr 4 0)), (5, .c (.ptr 5 0))], [(4, .box 90 [.v (.int .i64 0), .v (.slice none 0 0), .v (.slice none 0 0)]), (5, .box 90 [.v (.int .i64 y.1), .own 1005, .own 1006]), (1005, .row .i acc), (1006, .row .t y.2)]⟩)
        (fun y => y.1 = max (f - (lvC s t.f2 : Nat)) 0 ∧ y.2 = lvI s t.f2) LeK ⟨Nat.zero_le _, by simp only; omega, j3, rfl, rfl, Nat.le_refl _⟩ ?_ ?_
      · rintro ⟨z, g, acc2⟩ ⟨i1, i2, i3, i4, i5, i6⟩
        simp only at i1 i2 i3 i4 i5 i6
        refine awP ?_
        refine W_cond_d rfl (fun h1 => ?_) (fun h1 => ?_)
        · have h1' : z < t.f2.length := by omega
          have hinc : z < 9223372036854775807 := by omega
          obtain ⟨x, hx, hx2⟩ := hxl t.f2 z h1'
          have h0 : (0 : Int) ≤ (z : Int) := Int.natCast_nonneg _
          have hmem : x ∈ t.f2 := List.mem_of_getElem? hx
          have hwx := wt_mem hmem
          have hpos := lv_pos s x
          rw [hx2, lvC] at i4
          rw [hx2, lvI] at i5
          refine awP ?_
          refine M_call (less_sn hs m x (by omega) (by omega) (chkL_mem hmem hci)) rfl rfl ⟨⟨rfl, rfl, rfl, trivial⟩, rfl, trivial⟩ ?_
          refine awP ?_
          refine W_cond_d rfl (fun hb => ?_) (fun hb => ?_)
          · have hb' : (lv s x).f0 = 0 := by omega
            rw [if_pos hb'] at i4 i5
            refine awP ?_
            refine M_callS (sn_lower i2 i3) rfl rfl ⟨rfl, trivial⟩ rfl ?_
            refine awP ?_
            exact ⟨(z + 1, max g 1 - 1, acc2), ⟨h1', by simp only; omega, by simp only; omega, by simp only; omega, i5, by simp only; omega⟩, by simp only; omega, LeK⟩
          · have hb' : ¬ (lv s x).f0 = 0 := by omega
            rw [if_neg hb'] at i4 i5
            refine awP ?_
            exact ⟨(z + 1, g, acc2 ++ [⟨(lv s x).f0, (lv s x).f1, (lv s x).f2⟩]), ⟨h1', i2, i3, by simp only; omega, by simp only [etaT]; rw [List.append_assoc]; exact i5, by simp only [List.length_append, List.length_cons, List.length_nil]; omega⟩, by simp only; omega, LeK⟩
        · refine awP ?_
          rw [List.drop_of_length_le (by omega), lvC] at i4
          rw [List.drop_of_length_le (by omega), lvI, List.append_nil] at i5
          exact ⟨(g, acc2), ⟨by simp only; omega, i5⟩, LeK⟩
      · rintro ⟨g, acc2⟩ ⟨k1, k2⟩
        simp only at k1 k2
        refine awP ?_
        have e := lv_eq s t
        have e0 : g = (lv s t).f0 := by rw [e]; simp only; omega
        have e1 : acc = (lv s t).f1 := by rw [e]; exact j2
        have e2 : acc2 = (lv s t).f2 := by rw [e]; exact k2
        exact ⟨.inl rfl, res1 rfl rfl ⟨congrArg (Value.int .i64) e0, congrArg (fun x => some (Ent.row .i x)) e1, congrArg (fun x => some (Ent.row .t x)) e2, trivial⟩⟩
theorem trust_sn {s : Nat} (hs : s < 1024) (j : Int) (t : S90) (h : wt t < 1000000) (hc : chk t = 0) : Sn 116 [tv t, iv j, iv (s : Int)] (tv (delT s j t)) := by
  refine sn_of (n := 22) Tryz.func116 (by kernel_rfl) rfl rfl _ _ rfl rfl fun c => ?_
  refine awP ?_
  refine M_callS (sn_valid hs) rfl rfl ⟨rfl, trivial⟩ rfl ?_
  refine awP ?_
  refine W_false rfl ?_
  refine awP ?_
  refine M_call (less_sn hs 1000000 t h (Nat.le_refl _) hc) rfl rfl ⟨⟨rfl, rfl, rfl, trivial⟩, rfl, trivial⟩ ?_
  have hpos := lv_pos s t
  refine awP ?_
  refine W_cond_d rfl (fun hb => ?_) (fun hb => ?_)
  · refine awP ?_
    have e : delT s j t = ⟨1, [j], []⟩ := by unfold delT; rw [if_pos (by omega)]
    rw [e]
    exact ⟨.inl rfl, res1 rfl rfl ⟨rfl, rfl, rfl, trivial⟩⟩
  · refine awP ?_
    have e : delT s j t = lv s t := by unfold delT; rw [if_neg (by omega)]
    rw [e]
    exact ⟨.inl rfl, res1 rfl rfl ⟨rfl, rfl, rfl, trivial⟩⟩
def okD (m : S92) : Prop := (m.f0 = true → chk m.f1 = 0 ∧ wt m.f1 < 1000000) ∧ (m.f0 = false → m.f1.f1 = [] ∧ m.f1.f2 = [])
set_option maxHeartbeats 1000000 in
theorem delete_sn {s : Nat} (hs : s < 1024) (l : List S92) (hl : l.length < 1000000) (hm : ∀ m ∈ l, okD m) : Sn 42 [.g [.fz .m l], iv (s : Int)] (.g [.fz .m (delC l s)]) := by
  refine sn_of (n := 42) Tryz.func42 (by kernel_rfl) rfl rfl _ _ rfl rfl fun c => ?_
  refine awP ?_
  refine M_callS (sn_valid hs) rfl rfl ⟨rfl, trivial⟩ rfl ?_
  refine awP ?_
  refine W_false rfl ?_
  refine awP ?_
  refine aW_le (a_ownB 0 5 1005 0 25 .m _ rfl rfl rfl rfl) ?_
  refine W_loop (fun y : Nat × List S92 => ⟨[(1, iv (s : Int)), (4, .c (.ptr 4 0)), (5, .c (.ptr 5 0)), (13, .c (.fz .m l)), (14, iv (l.length : Int)), (15, iv (y.1 : Int))], [(4, .box 25 [.v (.slice none 0 0)]), (5, .box 25 [.own 1005]), (1005, .row .m y.2)]⟩)
    (fun y => y.1 ≤ l.length ∧ y.2 ++ delF s y.1 (l.drop y.1) = delC l s ∧ y.2.length = y.1) (fun y => l.length - y.1) (0, [])
    (fun y : List S92 => ⟨[(4, .c (.ptr 4 0)), (5, .c (.ptr 5 0))], [(4, .box 25 [.v (.slice none 0 0)]), (5, .box 25 [.own 1005]), (1005, .row .m y)]⟩) (fun y => y = delC l s) LeK ⟨Nat.zero_le _, rfl, rfl⟩ ?_ ?_
  · rintro ⟨z, acc⟩ ⟨i1, i2, i3⟩
    simp only at i1 i2 i3
    refine awP ?_
    refine W_cond_d rfl (fun h1 => ?_) (fun h1 => ?_)
    · have h1' : z < l.length := by omega
      have hinc : z < 9223372036854775807 := by omega
      obtain ⟨x, hx, hx2⟩ := hxl l z h1'
      have h0 : (0 : Int) ≤ (z : Int) := Int.natCast_nonneg _
      have hok := hm x (List.mem_of_getElem? hx)
      rw [hx2, delF] at i2
      have step : ∀ y : S92, y = delM s z x → (acc ++ [y]) ++ delF s (z + 1) (l.drop (z + 1)) = delC l s := fun y hy => by rw [List.append_assoc, hy]; exact i2
      refine awP ?_
      refine M_callS (sn_has hs (z : Int)) rfl rfl ⟨rfl, rfl, trivial⟩ rfl ?_
      refine awP ?_
      refine W_cond rfl (fun hb => ?_) (fun hb => ?_)
      · refine awP ?_
        refine ⟨(z + 1, _), ⟨?_, ?_, ?_⟩, ?_, LeK⟩
        · exact h1'
        · exact step _ (by unfold delM; rw [if_pos hb])
        · simp only [List.length_append, List.length_cons, List.length_nil]; omega
        · simp only; omega
      · refine awP ?_
        refine W_cond rfl (fun hd => ?_) (fun hd => ?_)
        · refine awP ?_
          refine M_call (trust_sn hs (z : Int) x.f1 (hok.1 hd).2 (hok.1 hd).1) rfl rfl ⟨⟨rfl, rfl, rfl, trivial⟩, rfl, rfl, trivial⟩ ?_
          refine awP ?_
          refine ⟨(z + 1, _), ⟨?_, ?_, ?_⟩, ?_, LeK⟩
          · exact h1'
          · exact step _ (by unfold delM; rw [if_neg (by rw [hb]; simp), if_pos hd]; simp only [etaT, hd])
          · simp only [List.length_append, List.length_cons, List.length_nil]; omega
          · simp only; omega
        · refine awP ?_
          refine ⟨(z + 1, _), ⟨?_, ?_, ?_⟩, ?_, LeK⟩
          · exact h1'
          · exact step _ (by unfold delM; rw [if_neg (by rw [hb]; simp), if_neg (by rw [hd]; simp)]; simp only [etaT, hd, (hok.2 hd).1, (hok.2 hd).2])
          · simp only [List.length_append, List.length_cons, List.length_nil]; omega
          · simp only; omega
    · refine awP ?_
      rw [List.drop_of_length_le (by omega), delF, List.append_nil] at i2
      exact ⟨acc, i2, LeK⟩
  · rintro o rfl
    refine awP ?_
    exact ⟨.inl rfl, res1 rfl rfl ⟨rfl, trivial⟩⟩
section
variable {c : Cx} {n : Nat} {ops : Array Oper} {Q : Exit → St → Prop} {st : St} {rest : List Oper} {σ : List (Nat × Ent)} {μ : Nat → Value} {w w' : World}
variable {d ty : Nat} {p : String} {af : Array Edge} {x y z : Operand}
theorem M_max {t : Array TypeId} {vx vy : Int} (hd : Nat.ble (d + 1) n = true) (hx : aEv st x = some (.c (.v (.int .i64 vx)))) (hy : aEv st y = some (.c (.v (.int .i64 vy)))) (h : aL Tryz.prog c n ops rest Q (st.set d (.c (.v (.int .i64 (if vy > vx then vy else vx)))))) : aL Tryz.prog c n ops (⟨some d, .call ⟨.builtin .max, #[x, y], t⟩, ty, p, af, none⟩ :: rest) Q st :=
  aL_val d (.c (.v (.int .i64 (if vy > vx then vy else vx)))) rfl (.inl rfl) (ltb hd) (fun μ a w _ he => ⟨_, by
    have h1 : a.eval x = .int .i64 vx := aEv_rel he hx
    have h2 : a.eval y = .int .i64 vy := aEv_rel he hy
    simp [execOp, resolve, invoke, builtin, h1, h2, run_max_int2], rfl⟩) h
theorem fz_of_R {k : Ki} {e base : Nat} {ok : Nat → Prop} {v : Value} {xs : List k.T} (hv : Hv c σ μ w) (h : Kd.R k.d e w' base ok v xs) (hb : w.heap.size ≤ base) : RelC c σ μ w' (.fz k xs) v := by
  obtain ⟨A, q, rfl, hle, hF⟩ := Kd.R_V (base' := base) (Kd.R_bound h)
  exact ⟨A, q, rfl, hle, Kd.F_mono hF fun b hb' => ⟨hv.ok b (Nat.le_trans hv.fr.size (Nat.le_trans hb hb'.2.1)), fun id e he hbk => Nat.not_lt.2 (Nat.le_trans hb hb'.2.1) (hv.lt he hbk).1⟩⟩
end
abbrev cxV (w : World) (P : Nat → Prop) : Cx := ⟨w, fun b => P b ∨ w.heap.size ≤ b, none, w⟩
theorem cxV_hv (w : World) (P : Nat → Prop) : Hv (cxV w P) [] (fun _ => undef) w :=
  ⟨⟨rfl, rfl, rfl, Nat.le_refl _, fun _ _ _ => rfl⟩, fun b hb => .inr hb, fun _ _ _ h => (by cases h), fun _ _ _ h => (by cases h), fun _ _ _ _ _ h => (by cases h), fun _ _ _ h => (by cases h), fun _ h => (by cases h)⟩
theorem fz_of_V {k : Ki} {e base : Nat} {w : World} {P : Nat → Prop} {v : Value} {xs : List k.T} (h : Kd.V k.d e w base (fun k_ => P k_) v xs) : RelC (cxV w P) [] (fun _ => undef) w (.fz k xs) v := by
  obtain ⟨A, q, rfl, h1, h2⟩ := h
  exact ⟨A, q, rfl, h1, Kd.F_mono h2 fun b hb => ⟨.inl hb, fun _ _ h => by cases h⟩⟩
theorem V_of_fz {k : Ki} {e base : Nat} {c : Cx} {σ : List (Nat × Ent)} {μ : Nat → Value} {w' : World} {P : Nat → Prop} {v : Value} {xs : List k.T} (h : RelC c σ μ w' (.fz k xs) v) (hP : ∀ b, Bok c σ μ b → P b) : Kd.V k.d e w' base (fun k_ => P k_) v xs := by
  obtain ⟨A, q, rfl, h1, h2⟩ := h
  exact ⟨A, q, rfl, h1, Kd.F_mono h2 hP⟩
theorem sn_hasN {s : Nat} (hs : s < 1024) (k : Int) : Sn 104 [iv (s : Int), iv k] (.c (.v (.bool (inS s k)))) :=
  ⟨⟨_, Tryz.func104, by kernel_rfl, rfl⟩, fun c σ μ w us hv hr => by
    obtain ⟨u0, r0, rfl, h0, u1, r1, rfl, h1, h2⟩ := hr
    rw [show u0 = _ from h0, show u1 = _ from h1, show r1 = [] from h2]
    exact (nodeset_Has.calls _ _ _ w (Has_eq hs k)).mono fun e w' ⟨h3, h4⟩ => ⟨_, h3, rfl, h4.below⟩⟩
theorem sn_validN {s : Nat} (hs : s < 1024) : Sn 160 [iv (s : Int)] (.c (.v (.bool true))) :=
  ⟨⟨_, Tryz.func160, by kernel_rfl, rfl⟩, fun c σ μ w us hv hr => by
    obtain ⟨u0, r0, rfl, h0, h2⟩ := hr
    rw [show u0 = _ from h0, show r0 = [] from h2]
    exact (nodeset_Valid.calls _ _ w ((Valid_eq _).trans (congrArg some (vld_nat hs)))).mono fun e w' ⟨h3, h4⟩ => ⟨_, h3, rfl, h4.below⟩⟩
theorem mx_max (a b : Int) : mx a b = max a b := by unfold mx; split <;> omega
theorem lowered_eq {t : Int} (h0 : 0 ≤ t) (h1 : t ≤ 1000000000) : deletion_lowered.f t 1 = some (max t 1 - 1) := by
  unfold deletion_lowered.f
  rw [mx_max, w64 (by omega) (by omega)]
theorem sn_lowered {t : Int} (h0 : 0 ≤ t) (h1 : t ≤ 1000000000) : Sn 223 [iv t, iv 1] (iv (max t 1 - 1)) :=
  ⟨⟨_, Tryz.func223, by kernel_rfl, rfl⟩, fun c σ μ w us hv hr => by
    obtain ⟨u0, r0, rfl, h0', u1, r1, rfl, h1', h2⟩ := hr
    rw [show u0 = _ from h0', show u1 = _ from h1', show r1 = [] from h2]
    exact (deletion_lowered.calls _ _ _ w (lowered_eq h0 h1)).mono fun e w' ⟨h3, h4⟩ => ⟨_, h3, rfl, h4⟩⟩
theorem sn_copied (t : S90) (h1 : t.f1 = []) (h2 : t.f2 = []) : Sn 173 [tv t] (tv t) :=
  ⟨⟨_, Tryz.func173, by kernel_rfl, rfl⟩, fun c σ μ w us hv hr => by
    obtain ⟨u, r0, rfl, ⟨us, rfl, u0, _, rfl, h0, u1, _, rfl, ⟨A1, q1, rfl, l1, g1⟩, u2, _, rfl, ⟨A2, q2, rfl, l2, g2⟩, h3⟩, h1'⟩ := hr
    rw [show u0 = _ from h0, show r0 = [] from h1']
    subst h3
    refine (deletion_copied.calls t.f0 A1 q1 t.f1 A2 q2 t.f2 t.f0 t.f1 t.f2 w (Kd.F_now g1) l1 (Kd.F_now g2) l2 (by unfold deletion_copied.f; rw [if_pos h1, if_pos h2, h1, h2])).mono ?_
    rintro e w' ⟨v1, v2, rfl, k1, k2, k3⟩
    exact ⟨_, rfl, ⟨_, rfl, _, _, rfl, rfl, _, _, rfl, fz_of_R (k := .i) hv k1 (Nat.le_refl _), _, _, rfl, fz_of_R (k := .t) hv k2 (Nat.le_refl _), rfl⟩, k3⟩⟩
set_option maxHeartbeats 1000000 in
theorem level_sn {s : Nat} (hs : s < 1024) : ∀ (m : Nat) (t : S90), wt t < m → m ≤ 1000000 → chk t = 0 → Sn 202 [tv t, iv (s : Int)] (tv (lv s t))
  | 0, t, h, _, _ => absurd h (by omega)
  | m + 1, t, h, hm, hc => by
    obtain ⟨hci, hf1, hf2⟩ := chk_inner hc
    rw [wt_eq] at h
    have hl := len_wtL t.f2
    refine sn_of (n := 60) Tryz.func202 (by kernel_rfl) rfl rfl _ _ rfl rfl fun c => ?_
    refine awP ?_
    refine M_max rfl rfl rfl ?_
    refine awP ?_
    refine aW_le (a_ownB 0 5 1005 1 90 .i _ rfl rfl rfl rfl) ?_
    refine W_loop (fun y : Nat × Int × List Int => ⟨[(1, iv (s : Int)), (2, .c (.ptr 2 0)), (4, .c (.ptr 4 0)), (5, .c (.ptr 5 0)), (15, .c (.fz .i t.f1)), (16, iv (t.f1.length : Int)), (17, iv (y.1 : Int))], [(2, .box 90 (Ki.t.cells t)), (4, .box 90 [.v (.int .i64 0), .v (.slice none 0 0), .v (.slice none 0 0)]), (5, .box 90 [.v (.int .i64 y.2.1), .own 1005, .v (.slice none 0 0)]), (1005, .row .i y.2.2)]⟩)
      (fun y => y.1 ≤ t.f1.length ∧ 0 ≤ y.2.1 ∧ y.2.1 ≤ 1000000000 ∧ max (y.2.1 - ((t.f1.drop y.1).countP (fun x => inS s x) : Nat)) 0 = max (t.f0 - (t.f1.countP (fun x => inS s x) : Nat)) 0 ∧ y.2.2 ++ (t.f1.drop y.1).filter (fun x => !inS s x) = t.f1.filter (fun x => !inS s x) ∧ y.2.2.length ≤ y.1) (fun y => t.f1.length - y.1) (0, (if (0 : Int) > t.f0 then 0 else t.f0), [])
      (fun y : Int × List Int => ⟨[(1, iv (s : Int)), (2, .c (.ptr 2 0)), (4, .c (.ptr 4 0)), (5, .c (.ptr 5 0))], [(2, .box 90 (Ki.t.cells t)), (4, .box 90 [.v (.int .i64 0), .v (.slice none 0 0), .v (.slice none 0 0)]), (5, .box 90 [.v (.int .i64 y.1), .own 1005, .v (.slice none 0 0)]), (1005, .row .i y.2)]⟩)
      (fun y => y.1 = max (t.f0 - (t.f1.countP (fun x => inS s x) : Nat)) 0 ∧ y.2 = t.f1.filter (fun x => !inS s x) ∧ y.1 ≤ 1000000000) LeK ⟨Nat.zero_le _, by simp only; rw [if_neg (by omega)]; omega, by simp only; rw [if_neg (by omega)]; omega, by simp only; rw [if_neg (by omega)]; rfl, rfl, Nat.le_refl _⟩ ?_ ?_
    · rintro ⟨z, f, acc⟩ ⟨i1, i2, i3, i4, i5, i6⟩
      simp only at i1 i2 i3 i4 i5 i6
      refine awP ?_
      refine W_cond_d rfl (fun h1 => ?_) (fun h1 => ?_)
      · have h1' : z < t.f1.length := by omega
        have hinc : z < 9223372036854775807 := by omega
        obtain ⟨x, hx, hx2⟩ := hxl t.f1 z h1'
        have h0 : (0 : Int) ≤ (z : Int) := Int.natCast_nonneg _
        rw [hx2, List.countP_cons] at i4
        rw [hx2, List.filter_cons] at i5
        refine awP ?_
        refine M_callS (sn_hasN hs x) rfl rfl ⟨rfl, rfl, trivial⟩ rfl ?_
        refine awP ?_
        refine W_cond rfl (fun hb => ?_) (fun hb => ?_)
        · rw [hb] at i4 i5
          simp only [if_true, Bool.not_true, Bool.false_eq_true, if_false] at i4 i5
          refine awP ?_
          refine M_callS (sn_lowered i2 i3) rfl rfl ⟨rfl, rfl, trivial⟩ rfl ?_
          refine awP ?_
          exact ⟨(z + 1, max f 1 - 1, acc), ⟨h1', by simp only; omega, by simp only; omega, by simp only; omega, i5, by simp only; omega⟩, by simp only; omega, LeK⟩
        · rw [hb] at i4 i5
          simp only [Bool.not_false, if_true, Bool.false_eq_true, if_false] at i4 i5
          refine awP ?_
          exact ⟨(z + 1, f, acc ++ [x]), ⟨h1', i2, i3, i4, by simp only; rw [List.append_assoc]; exact i5, by simp only [List.length_append, List.length_cons, List.length_nil]; omega⟩, by simp only; omega, LeK⟩
      · refine awP ?_
        rw [List.drop_of_length_le (by omega)] at i4 i5
        rw [List.countP_nil] at i4
        rw [List.filter_nil, List.append_nil] at i5
        exact ⟨(f, acc), ⟨by simp only; omega, i5, i3⟩, LeK⟩
    · rintro ⟨f, acc⟩ ⟨j1, j2, j3⟩
      simp only at j1 j2 j3
      refine awP ?_
      refine aW_le (a_ownB 0 5 1006 2 90 .t _ rfl rfl rfl rfl) ?_
      refine W_loop (fun y : Nat × Int × List S90 => ⟨[(1, iv (s : Int)), (4, .c (.ptr 4 0)), (5, .c (.ptr 5 0)), (36, .c (.fz .t t.f2)), (37, iv (t.f2.length : Int)), (38, iv (y.1 : Int))], [(4, .box 90 [.v (.int .i64 0), .v (.slice none 0 0), .v (.slice none 0 0)]), (5, .box 90 [.v (.int .i64 y.2.1), .own 1005, .own 1006]), (1005, .row .i acc), (1006, .row .t y.2.2)]⟩)
        (fun y => y.1 ≤ t.f2.length ∧ 0 ≤ y.2.1 ∧ y.2.1 ≤ 1000000000 ∧ max (y.2.1 - (lvC s (t.f2.drop y.1) : Nat)) 0 = max (f - (lvC s t.f2 : Nat)) 0 ∧ y.2.2 ++ lvI s (t.f2.drop y.1) = lvI s t.f2 ∧ y.2.2.length ≤ y.1) (fun y => t.f2.length - y.1) (0, f, [])
        (fun y : Int × List S90 => ⟨[(4, .c (.ptr 4 0)), (5, .c (.ptr 5 0))], [(4, .box 90 [.v (.int .i64 0), .v (.slice none 0 0), .v (.slice none 0 0)]), (5, .box 90 [.v (.int .i64 y.1), .own 1005, .own 1006]), (1005, .row .i acc), (1006, .row .t y.2)]⟩)
        (fun y => y.1 = max (f - (lvC s t.f2 : Nat)) 0 ∧ y.2 = lvI s t.f2) LeK ⟨Nat.zero_le _, by simp only; omega, j3, rfl, rfl, Nat.le_refl _⟩ ?_ ?_
      · rintro ⟨z, g, acc2⟩ ⟨i1, i2, i3, i4, i5, i6⟩
        simp only at i1 i2 i3 i4 i5 i6
        refine awP ?_
        refine W_cond_d rfl (fun h1 => ?_) (fun h1 => ?_)
        · have h1' : z < t.f2.length := by omega
          have hinc : z < 9223372036854775807 := by omega
          obtain ⟨x, hx, hx2⟩ := hxl t.f2 z h1'
          have h0 : (0 : Int) ≤ (z : Int) := Int.natCast_nonneg _
          have hmem : x ∈ t.f2 := List.mem_of_getElem? hx
          have hwx := wt_mem hmem
          have hpos := lv_pos s x
          rw [hx2, lvC] at i4
          rw [hx2, lvI] at i5
          refine awP ?_
          refine M_call (level_sn hs m x (by omega) (by omega) (chkL_mem hmem hci)) rfl rfl ⟨⟨rfl, rfl, rfl, trivial⟩, rfl, trivial⟩ ?_
          refine awP ?_
          refine W_cond_d rfl (fun hb => ?_) (fun hb => ?_)
          · have hb' : (lv s x).f0 = 0 := by omega
            rw [if_pos hb'] at i4 i5
            refine awP ?_
            refine M_callS (sn_lowered i2 i3) rfl rfl ⟨rfl, rfl, trivial⟩ rfl ?_
            refine awP ?_
            exact ⟨(z + 1, max g 1 - 1, acc2), ⟨h1', by simp only; omega, by simp only; omega, by simp only; omega, i5, by simp only; omega⟩, by simp only; omega, LeK⟩
          · have hb' : ¬ (lv s x).f0 = 0 := by omega
            rw [if_neg hb'] at i4 i5
            refine awP ?_
            exact ⟨(z + 1, g, acc2 ++ [⟨(lv s x).f0, (lv s x).f1, (lv s x).f2⟩]), ⟨h1', i2, i3, by simp only; omega, by simp only [etaT]; rw [List.append_assoc]; exact i5, by simp only [List.length_append, List.length_cons, List.length_nil]; omega⟩, by simp only; omega, LeK⟩
        · refine awP ?_
          rw [List.drop_of_length_le (by omega), lvC] at i4
          rw [List.drop_of_length_le (by omega), lvI, List.append_nil] at i5
          exact ⟨(g, acc2), ⟨by simp only; omega, i5⟩, LeK⟩
      · rintro ⟨g, acc2⟩ ⟨k1, k2⟩
        simp only at k1 k2
        refine awP ?_
        have e := lv_eq s t
        have e0 : g = (lv s t).f0 := by rw [e]; simp only; omega
        have e1 : acc = (lv s t).f1 := by rw [e]; exact j2
        have e2 : acc2 = (lv s t).f2 := by rw [e]; exact k2
        exact ⟨.inl rfl, res1 rfl rfl ⟨congrArg (Value.int .i64) e0, congrArg (fun x => some (Ent.row .i x)) e1, congrArg (fun x => some (Ent.row .t x)) e2, trivial⟩⟩
theorem dtrust_sn {s : Nat} (hs : s < 1024) (j : Int) (t : S90) (h : wt t < 1000000) (hc : chk t = 0) : Sn 172 [tv t, iv j, iv (s : Int)] (tv (delT s j t)) := by
  refine sn_of (n := 23) Tryz.func172 (by kernel_rfl) rfl rfl _ _ rfl rfl fun c => ?_
  refine awP ?_
  refine M_callS (sn_validN hs) rfl rfl ⟨rfl, trivial⟩ rfl ?_
  refine awP ?_
  refine W_false rfl ?_
  refine awP ?_
  refine M_call (level_sn hs 1000000 t h (Nat.le_refl _) hc) rfl rfl ⟨⟨rfl, rfl, rfl, trivial⟩, rfl, trivial⟩ ?_
  have hpos := lv_pos s t
  refine awP ?_
  refine W_cond_d rfl (fun hb => ?_) (fun hb => ?_)
  · refine awP ?_
    have e : delT s j t = ⟨1, [j], []⟩ := by unfold delT; rw [if_pos (by omega)]
    rw [e]
    exact ⟨.inl rfl, res1 rfl rfl ⟨rfl, rfl, rfl, trivial⟩⟩
  · refine awP ?_
    have e : delT s j t = lv s t := by unfold delT; rw [if_neg (by omega)]
    rw [e]
    exact ⟨.inl rfl, res1 rfl rfl ⟨rfl, rfl, rfl, trivial⟩⟩
set_option maxHeartbeats 1000000 in
theorem ddelete_sn {s : Nat} (hs : s < 1024) (l : List S92) (hl : l.length < 1000000) (hm : ∀ m ∈ l, okD m) : Sn 114 [.g [.fz .m l], iv (s : Int)] (.g [.fz .m (delC l s)]) := by
  refine sn_of (n := 42) Tryz.func114 (by kernel_rfl) rfl rfl _ _ rfl rfl fun c => ?_
  refine awP ?_
  refine aW_le (a_ownB 0 5 1005 0 25 .m _ rfl rfl rfl rfl) ?_
  refine W_loop (fun y : Nat × List S92 => ⟨[(1, iv (s : Int)), (4, .c (.ptr 4 0)), (5, .c (.ptr 5 0)), (9, .c (.fz .m l)), (10, iv (l.length : Int)), (11, iv (y.1 : Int))], [(4, .box 25 [.v (.slice none 0 0)]), (5, .box 25 [.own 1005]), (1005, .row .m y.2)]⟩)
    (fun y => y.1 ≤ l.length ∧ y.2 ++ delF s y.1 (l.drop y.1) = delC l s ∧ y.2.length = y.1) (fun y => l.length - y.1) (0, [])
    (fun y : List S92 => ⟨[(4, .c (.ptr 4 0)), (5, .c (.ptr 5 0))], [(4, .box 25 [.v (.slice none 0 0)]), (5, .box 25 [.own 1005]), (1005, .row .m y)]⟩) (fun y => y = delC l s) LeK ⟨Nat.zero_le _, rfl, rfl⟩ ?_ ?_
  · rintro ⟨z, acc⟩ ⟨i1, i2, i3⟩
    simp only at i1 i2 i3
    refine awP ?_
    refine W_cond_d rfl (fun h1 => ?_) (fun h1 => ?_)
    · have h1' : z < l.length := by omega
      have hinc : z < 9223372036854775807 := by omega
      obtain ⟨x, hx, hx2⟩ := hxl l z h1'
      have h0 : (0 : Int) ≤ (z : Int) := Int.natCast_nonneg _
      have hok := hm x (List.mem_of_getElem? hx)
      rw [hx2, delF] at i2
      have step : ∀ y : S92, y = delM s z x → (acc ++ [y]) ++ delF s (z + 1) (l.drop (z + 1)) = delC l s := fun y hy => by rw [List.append_assoc, hy]; exact i2
      refine awP ?_
      refine M_callS (sn_hasN hs (z : Int)) rfl rfl ⟨rfl, rfl, trivial⟩ rfl ?_
      refine awP ?_
      refine W_cond rfl (fun hb => ?_) (fun hb => ?_)
      · refine awP ?_
        refine ⟨(z + 1, _), ⟨?_, ?_, ?_⟩, ?_, LeK⟩
        · exact h1'
        · exact step _ (by unfold delM; rw [if_pos hb])
        · simp only [List.length_append, List.length_cons, List.length_nil]; omega
        · simp only; omega
      · refine awP ?_
        refine W_cond rfl (fun hd => ?_) (fun hd => ?_)
        · refine awP ?_
          refine M_call (dtrust_sn hs (z : Int) x.f1 (hok.1 hd).2 (hok.1 hd).1) rfl rfl ⟨⟨rfl, rfl, rfl, trivial⟩, rfl, rfl, trivial⟩ ?_
          refine awP ?_
          refine ⟨(z + 1, _), ⟨?_, ?_, ?_⟩, ?_, LeK⟩
          · exact h1'
          · exact step _ (by unfold delM; rw [if_neg (by rw [hb]; simp), if_pos hd]; simp only [etaT, hd])
          · simp only [List.length_append, List.length_cons, List.length_nil]; omega
          · simp only; omega
        · refine awP ?_
          refine M_call (sn_copied x.f1 (hok.2 hd).1 (hok.2 hd).2) rfl rfl ⟨⟨rfl, rfl, rfl, trivial⟩, trivial⟩ ?_
          refine awP ?_
          refine ⟨(z + 1, _), ⟨?_, ?_, ?_⟩, ?_, LeK⟩
          · exact h1'
          · exact step _ (by unfold delM; rw [if_neg (by rw [hb]; simp), if_neg (by rw [hd]; simp)]; simp only [etaT, hd, (hok.2 hd).1, (hok.2 hd).2])
          · simp only [List.length_append, List.length_cons, List.length_nil]; omega
          · simp only; omega
    · refine awP ?_
      rw [List.drop_of_length_le (by omega), delF, List.append_nil] at i2
      exact ⟨acc, i2, LeK⟩
  · rintro o rfl
    refine awP ?_
    exact ⟨.inl rfl, res1 rfl rfl ⟨rfl, trivial⟩⟩
def okDb (m:S92):Bool:=if m.f0=true then decide (chk m.f1=0) && decide (wt m.f1 < 1000000) else m.f1.f1.isEmpty && m.f1.f2.isEmpty
theorem okDb_ok {m:S92} (h:okDb m=true):okD m:=by
 unfold okDb at h
 refine ⟨fun e=>?_,fun e=>?_⟩
 ·rw [if_pos e] at h;simpa using h
 ·rw [if_neg (by rw [e];simp)] at h;simpa using h
def qref13_Delete.f (k:Nat) (l:List S92) (a:Int):Option (List S92) :=
 if (decide (0≤a) && decide (a < 1024) && decide (l.length < 1000000) && l.all okDb)=true then some (delC l a.toNat) else none
theorem qref13_Delete.calls (k:Nat) (P0_0_:Nat→Prop) (A0_0:Option Addr) (c0_0:Nat) (l0_0:List (S92)) (a1:Int) (r:List (S92)) (w:World) (hs0_0:Kd.V k92 92 w w.heap.size (fun k_=>P0_0_ k_) (.slice A0_0 l0_0.length c0_0) l0_0) (h:qref13_Delete.f k l0_0 a1=some r) :
  Calls Tryz.prog 42 #[.agg #[.slice A0_0 l0_0.length c0_0],.int .i64 a1] w fun e w'=>∃ v0_:Value,e=.returned (.agg #[v0_])∧Kd.V k92 92 w' w.heap.size (fun k_=>(P0_0_ k_ ∨ w.heap.size≤k_)) v0_ r∧Below w.heap.size w w':=by
 unfold qref13_Delete.f at h
 split at h
 case isFalse=>cases h
 rename_i hc
 cases h
 simp only [Bool.and_eq_true,decide_eq_true_eq,List.all_eq_true] at hc
 obtain ⟨⟨⟨h1,h2⟩,h3⟩,h4⟩:=hc
 have e1:((a1.toNat:Nat):Int)=a1:=Int.toNat_of_nonneg h1
 have h5:=(delete_sn (s:=a1.toNat) (by omega) l0_0 h3 (fun m hm=>okDb_ok (h4 m hm))).2 (cxV w P0_0_) [] (fun _=>undef) w [.agg #[.slice A0_0 l0_0.length c0_0],.int .i64 a1] (cxV_hv w P0_0_) ⟨_,_,rfl,⟨[_],rfl,_,_,rfl,fz_of_V (k:=.m) hs0_0,rfl⟩,_,_,rfl,(by show _=_;rw [e1]),rfl⟩
 refine h5.mono ?_
 rintro e w' ⟨u,rfl,⟨us,rfl,v0,_,rfl,q0,e0⟩,hb⟩
 subst e0
 exact ⟨v0,rfl,V_of_fz (k:=.m) q0 fun b hb=>hb.1,hb⟩
def deletion_Delete.f (k:Nat) (l:List S92) (a:Int):Option (List S92) :=
 if (decide (0≤a) && decide (a < 1024) && decide (l.length < 1000000) && l.all okDb)=true then some (delC l a.toNat) else none
theorem deletion_Delete.calls (k:Nat) (P0_0_:Nat→Prop) (A0_0:Option Addr) (c0_0:Nat) (l0_0:List (S92)) (a1:Int) (r:List (S92)) (w:World) (hs0_0:Kd.V k92 92 w w.heap.size (fun k_=>P0_0_ k_) (.slice A0_0 l0_0.length c0_0) l0_0) (h:deletion_Delete.f k l0_0 a1=some r) :
  Calls Tryz.prog 114 #[.agg #[.slice A0_0 l0_0.length c0_0],.int .i64 a1] w fun e w'=>∃ v0_:Value,e=.returned (.agg #[v0_])∧Kd.V k92 92 w' w.heap.size (fun k_=>(P0_0_ k_ ∨ w.heap.size≤k_)) v0_ r∧Below w.heap.size w w':=by
 unfold deletion_Delete.f at h
 split at h
 case isFalse=>cases h
 rename_i hc
 cases h
 simp only [Bool.and_eq_true,decide_eq_true_eq,List.all_eq_true] at hc
 obtain ⟨⟨⟨h1,h2⟩,h3⟩,h4⟩:=hc
 have e1:((a1.toNat:Nat):Int)=a1:=Int.toNat_of_nonneg h1
 have h5:=(ddelete_sn (s:=a1.toNat) (by omega) l0_0 h3 (fun m hm=>okDb_ok (h4 m hm))).2 (cxV w P0_0_) [] (fun _=>undef) w [.agg #[.slice A0_0 l0_0.length c0_0],.int .i64 a1] (cxV_hv w P0_0_) ⟨_,_,rfl,⟨[_],rfl,_,_,rfl,fz_of_V (k:=.m) hs0_0,rfl⟩,_,_,rfl,(by show _=_;rw [e1]),rfl⟩
 refine h5.mono ?_
 rintro e w' ⟨u,rfl,⟨us,rfl,v0,_,rfl,q0,e0⟩,hb⟩
 subst e0
 exact ⟨v0,rfl,V_of_fz (k:=.m) q0 fun b hb=>hb.1,hb⟩
end Go.Proofs.YtkjlcbfjllpcnaaGreat.X
namespace Go.Proofs.YtkjlcbfjllpcnaaGreat.X
open Go.RowKit YtkjlcbfjllpcnaaGreatW.PrintWords YtkjlcbfjllpcnaaGreatW.PrintLast YtkjlcbfjllpcnaaGreatW.PrintMore
attribute [local go_sem] max2_int min2_int max_two min_two max_three min_three max_four min_four
def danger_splits.f (k:Nat) (l0_0:List (S92)) (a1:Int):Option (Bool):=(deletion_Delete.f k l0_0 a1).bind fun t581=>((intersection_Holds.f k t581).bind fun bt584=>(some (!bt584.1)))
set_option maxHeartbeats 8000000 in
set_option maxRecDepth 100000 in
theorem danger_splits.calls (k:Nat) (A0_0:Option Addr) (c0_0:Nat) (l0_0:List (S92)) (a1:Int) (r:Bool) (w:World) (hr0_0:Kd.C k92 w A0_0 l0_0.length l0_0) (hc0_0:l0_0.length≤c0_0) (h:danger_splits.f k l0_0 a1=some r) :
  Calls Tryz.prog 112 #[.agg #[.slice A0_0 l0_0.length c0_0],.int .i64 a1] w fun e w'=>e=.returned (.bool r)∧Below w.heap.size w w':=by
 have hu25:=Tryz.underlying25
 have HR0_0:=Z hr0_0
 have HC0_0:=Z hc0_0
 clear hr0_0 hc0_0
 have HB:=Z (Below.refl w.heap.size w)
 have H:((deletion_Delete.f k l0_0 a1).bind fun t581=>((intersection_Holds.f k t581).bind fun bt584=>(some (!bt584.1))))=some r:=h
 clear h
 replace H:=pO H
 obtain ⟨t581,A30,H⟩:=H
 try dsimp only at H
 have A3:=Z A30
 clear A30
 replace H:=pO H
 obtain ⟨⟨t584,t585⟩,A40,H⟩:=H
 try dsimp only at H
 have A4:=Z A40
 clear A40
 obtain rfl:=Option.some.inj H
 go_enter Tryz.func112,Tryz.ntmps112
 go_wp2_with (first|((with_reducible refine gate_dst (N:=2) rfl ?_);refine box_event ?hg (N:=2) ?hd (cs:=#[.slice A0_0 l0_0.length c0_0]) (t:=25) ?hr ?_;(case hd=>rfl);(case hg=>rfl);(case hr=>first|(go_simp;done)|(go_simp;rfl));intro gb580 hg w5 hbox hb;have n0_:=Z (below_step pB hb);have BK580:=Z (hbox);have GW580:=Z ((pT hg:w.heap.size≤gb580));have GE580:=Z ((pT hg:w.heap.size≤gb580));clear HB;have HB:=n0_;clear n0_ hb hbox hg;obtain ⟨hcz6_0,hfz6_0⟩:=p1 BK580)|((with_reducible refine gate_callee (f:=114) rfl ?_);refine goesL_ (some 10) rfl rfl Tryz.func114 pU rfl #[.agg #[.slice A0_0 l0_0.length c0_0],.int .i64 a1] rfl pG ?_;(with_reducible refine (deletion_Delete.calls k (fun k_=>k_ < w.heap.size) _ _ l0_0 a1 t581 _ ?side1 A3.out).mono ?_);(case side1=>exact Kd.V_mk HC0_0.out (Kd.F_below (Kd.C_F k92_heap HR0_0.out) pB));rintro e w7 ⟨v582,rfl,ho0,hb⟩;refine ⟨_,rfl,?_⟩;have HO583:=Z (Kd.V_lower (Kd.V_mono (ok':=fun k_=>k_ ≠ gb580) ho0 (fun k_ hk_=>Or.elim hk_ (fun hs_=>fun e_=>Nat.not_le.2 hs_ (by rw [e_];exact GW580.out)) (fun hn_=>(Kd.freshB (g:=gb580) (o:=.cells #[.slice A0_0 l0_0.length c0_0] 25 (0,0)) (pK BK580) k_ hn_)))) (below_size pB));replace BK580:=Z (blk_below (g:=gb580) (o:=.cells #[.slice A0_0 l0_0.length c0_0] 25 (0,0)) (pK BK580) hb);have n2_:=Z (below_step pB hb);clear HB;have HB:=n2_;clear n2_;(try clear hb);(try clear hb2);(try clear hk);(try clear hi);(try clear ho0);obtain ⟨Ao8,co8,eo8⟩:=Kd.V_slice HO583.out;subst eo8)|((with_reducible refine gate_callee (f:=140) rfl ?_);refine goesL_ (some 11) rfl rfl Tryz.func140 pU rfl #[.agg #[.slice Ao8 t581.length co8]] rfl pG ?_;(with_reducible refine (intersection_Holds.calls k _ _ t581 t584 t585 _ ?side1 ?side2 A4.out).mono ?_);(case side1=>repeat (first|exact (Kd.V_reads' HO583.out).2.2|(with_reducible refine Kd.C_alloc ?_ _)|(with_reducible refine Kd.C_drewN ?_ _)|(with_reducible refine Kd.C_drew ?_)));(case side2=>exact (Kd.V_reads' HO583.out).2.1);rintro e w9 ⟨rfl,hb⟩;refine ⟨_,rfl,?_⟩;replace HO583:=Z (Kd.V_below (by (with_reducible repeat (first|apply Kd.V_alloc|apply Kd.V_drewN|apply Kd.V_drew));exact HO583.out) hb);replace BK580:=Z (blk_below (g:=gb580) (o:=.cells #[.slice A0_0 l0_0.length c0_0] 25 (0,0)) (pK BK580) hb);have n2_:=Z (below_step pB hb);clear HB;have HB:=n2_;clear n2_;(try clear hb);(try clear hb2);(try clear hk);(try clear hi)))
 go_ret
 exact ⟨pF,pB⟩
def danger_least_splits.l0:Nat→List Int→List Int→Int→Int→List (S92)→Option (List Int)
 | 0,_,_,_,_,_=>none
 | k+1,x5,x10,x11,x12,x287000=>if x12 < x11 then (if 0≤x12 then (if x12 < (x10.length:Int) then ((danger_splits.f k x287000 (rd x10 x12)).bind fun t292=>(if t292=true then (if x5.length < 17592186044416 then (danger_least_splits.l0 k (x5++[rd x10 x12]) x10 x11 (wrap64 (x12+1)) x287000) else (none)) else (danger_least_splits.l0 k x5 x10 x11 (wrap64 (x12+1)) x287000))) else (none)) else (none)) else ((nodeset_Least.f x5).bind fun t296=>(some t296))
def danger_least_splits.f (k:Nat) (l0_0:List (S92)):Option (List Int):=(danger_members.f l0_0).bind fun t287=>((nodeset_Subsets.f t287).bind fun t288=>(danger_least_splits.l0 k ([]:List Int) t288 (t288.length:Int) 0 l0_0))
set_option maxHeartbeats 8000000 in
set_option maxRecDepth 100000 in
theorem danger_least_splits.calls (k:Nat) (A0_0:Option Addr) (c0_0:Nat) (l0_0:List (S92)) (r:List Int) (w:World) (hr0_0:Kd.C k92 w A0_0 l0_0.length l0_0) (hc0_0:l0_0.length≤c0_0) (h:danger_least_splits.f k l0_0=some r) :
  Calls Tryz.prog 108 #[.agg #[.slice A0_0 l0_0.length c0_0],.func (.func 112) #[] #[]] w fun e w'=>∃ v0_:Value,e=.returned (v0_)∧Kd.R (Kd.int .i64) 3 w' w.heap.size (fun _=>True) v0_ r∧Below w.heap.size w w':=by
 have hu25:=Tryz.underlying25
 have HR0_0:=Z hr0_0
 have HC0_0:=Z hc0_0
 clear hr0_0 hc0_0
 have HB:=Z (Below.refl w.heap.size w)
 have H:((danger_members.f l0_0).bind fun t287=>((nodeset_Subsets.f t287).bind fun t288=>(danger_least_splits.l0 k ([]:List Int) t288 (t288.length:Int) 0 l0_0)))=some r:=h
 clear h
 replace H:=pO H
 obtain ⟨t287,A20,H⟩:=H
 try dsimp only at H
 have A2:=Z A20
 clear A20
 replace H:=pO H
 obtain ⟨t288,A30,H⟩:=H
 try dsimp only at H
 have A3:=Z A30
 clear A30
 have H':=Z H
 clear H
 go_enter Tryz.func108,Tryz.ntmps108
 go_wp2_with (first|((with_reducible refine gate_dst (N:=2) rfl ?_);refine box_event ?hg (N:=2) ?hd (cs:=#[.slice A0_0 l0_0.length c0_0]) (t:=25) ?hr ?_;(case hd=>rfl);(case hg=>rfl);(case hr=>first|(go_simp;done)|(go_simp;rfl));intro gb286 hg w4 hbox hb;have n0_:=Z (below_step pB hb);have BK286:=Z (hbox);have GW286:=Z ((pT hg:w.heap.size≤gb286));have GE286:=Z ((pT hg:w.heap.size≤gb286));clear HB;have HB:=n0_;clear n0_ hb hbox hg;obtain ⟨hcz5_0,hfz5_0⟩:=p1 BK286)|((with_reducible refine gate_callee (f:=169) rfl ?_);refine goesL_ (some 9) rfl rfl Tryz.func169 pU rfl #[.agg #[.slice A0_0 l0_0.length c0_0]] rfl pG ?_;(with_reducible refine (danger_members.calls _ _ l0_0 t287 _ ?side1 ?side2 A2.out).mono ?_);(case side1=>exact pC HR0_0);(case side2=>exact HC0_0.out);rintro e w6 ⟨rfl,hb⟩;refine ⟨_,rfl,?_⟩;replace BK286:=Z (blk_below (g:=gb286) (o:=.cells #[.slice A0_0 l0_0.length c0_0] 25 (0,0)) (pK BK286) hb);have n1_:=Z (below_step pB hb);clear HB;have HB:=n1_;clear n1_;(try clear hb);(try clear hb2);(try clear hk);(try clear hi))|((with_reducible refine gate_callee (f:=136) rfl ?_);refine goesL_ (some 10) rfl rfl Tryz.func136 pU rfl #[.int .i64 t287] rfl pG ?_;(with_reducible refine (nodeset_Subsets.calls t287 t288 _ A3.out).mono ?_);rintro e w7 ⟨v289,rfl,ho0,hb⟩;refine ⟨_,rfl,?_⟩;have HO290:=Z (Kd.R_lower ho0 (below_size pB));replace BK286:=Z (blk_below (g:=gb286) (o:=.cells #[.slice A0_0 l0_0.length c0_0] 25 (0,0)) (pK BK286) hb);have n2_:=Z (below_step pB hb);clear HB;have HB:=n2_;clear n2_;(try clear hb);(try clear hb2);(try clear hk);(try clear hi);(try clear ho0);obtain ⟨Ao8,co8,eo8⟩:=Kd.R_slice HO290.out;subst eo8))
 go_loopg [5,12] k (fun kq v5 v12 w'=>∃ (x5_1:List Int) (x12_1:Int),v12=.int .i64 x12_1∧Aside0 (danger_least_splits.l0 kq x5_1 t288 (t288.length:Int) x12_1 l0_0=some r)∧Aside0 (kq≤k)∧Aside0 (Kd.R (Kd.int .i64) 3 w' w.heap.size (fun k_=>some k_ ≠ ((.slice Ao8 t288.length co8):Value).ownBlock) v5 x5_1)∧Aside0 (Kd.R (Kd.int .i64) 3 w' w.heap.size (fun k_=>some k_ ≠ (v5:Value).ownBlock) (.slice Ao8 t288.length co8) t288)∧Aside0 (w'.heap[gb286]?=some (.cells #[(.slice A0_0 l0_0.length c0_0)] 25 (0,0)))∧Aside0 (Below w.heap.size w w'))
 case atStart=>exact ⟨(([]:List Int)),(0),pE,H',⟨Nat.le_refl _⟩,⟨pN⟩,⟨by refine pP ?_;exact Kd.R_mono HO290.out (fun _ hk=>(by simp [Value.ownBlock]))⟩,⟨pK BK286⟩,⟨pB⟩⟩
 case round =>
  clear H'
  try clear c1
  try clear p2
  try clear hcz5_0
  try clear hfz5_0
  obtain ⟨x5_1,x12_1,rfl,HA,HK1,HO_5,HO_10,BK286,HB⟩:=hrel
  cases gk with
  | zero=>exact absurd HA.out (by simp [danger_least_splits.l0])
  | succ k1 =>
   have H:=HA.out
   clear HA
   simp only [danger_least_splits.l0] at H
   by_cases c9:x12_1 < (t288.length:Int)
   ·rw [if_pos c9] at H
    have c9b0:decide (x12_1 < (t288.length:Int))=true:=decide_eq_true c9
    clear c9
    by_cases c10:0≤x12_1
    ·rw [if_pos c10] at H
     have c10b0:decide (0≤x12_1)=true:=decide_eq_true c10
     clear c10
     by_cases c11:x12_1 < (t288.length:Int)
     ·rw [if_pos c11] at H
      have c11b0:decide (x12_1 < (t288.length:Int))=true:=decide_eq_true c11
      clear c11
      replace H:=pO H
      obtain ⟨t292,A120,H⟩:=H
      try dsimp only at H
      have A12:=Z A120
      clear A120
      by_cases c13:t292=true
      ·subst c13
       rw [if_pos rfl] at H
       by_cases c14:x5_1.length < 17592186044416
       ·rw [if_pos c14] at H
        have LMc14:=Z c14
        clear c14
        obtain ⟨y293,hy293⟩:∃ y_:List Int,y_=(x5_1++[rd t288 x12_1]):=⟨_,rfl⟩
        first|rw [← hy293] at H|(replace H:=(Option.bind_some _ _).symm.trans H;rw [← hy293] at H)
        have Ny293:=Z hy293
        clear hy293
        have H':=Z H
        clear H
        have p291:0≤(x12_1:Int):=of_decide_eq_true pA
        have q291:x12_1 < (t288.length:Int):=of_decide_eq_true pA
        obtain ⟨ad291,e291,hx291_0⟩:=Kd.at_int (Kd.R_reads' HO_10.out).2.2 x12_1 p291 q291
        cases e291
        replace p291:=eq_true p291
        replace q291:=eq_true q291
        have hcz15_0:=pV BK286 (.slice A0_0 l0_0.length c0_0) 0 rfl
        have hfz15_0:=kF BK286.out 0
        go_wp2_with (first|((with_reducible refine gate_val (x:=.tmp 16) rfl ?_);refine goesV_ (some 19) rfl rfl (x:=.tmp 16) Tryz.func112 pU rfl #[.agg #[.slice A0_0 l0_0.length c0_0],.int .i64 (rd t288 x12_1)] rfl rfl pG ?_;(with_reducible refine (danger_splits.calls k1 _ _ l0_0 (rd t288 x12_1) true _ ?side1 ?side2 A12.out).mono ?_);(case side1=>exact pC HR0_0);(case side2=>exact HC0_0.out);rintro e w16 ⟨rfl,hb⟩;refine ⟨_,rfl,?_⟩;replace HO_5:=Z (Kd.R_below (pR HO_5) hb);replace HO_10:=Z (Kd.R_below (pR HO_10) hb);replace BK286:=Z (blk_below (g:=gb286) (o:=.cells #[.slice A0_0 l0_0.length c0_0] 25 (0,0)) (pK BK286) hb);have n3_:=Z (below_step pB hb);clear HB;have HB:=n3_;clear n3_;(try clear hb);(try clear hb2);(try clear hk);(try clear hi))|((with_reducible refine gate_builtin (b:=.append) (xs:=#[.tmp 20,.tmp 22]) rfl ?_);at_builtin;refine Kd.R_append (Kd.int .i64) (w0:=w) w.heap.size rfl (.tmp 20) (.tmp 22) 22 3 (.int .i64 0) 8 rfl Tryz.underlying22 info3 rfl (by decide) (by omega) u5 x5_1 (rd t288 x12_1) [.int .i64 (rd t288 x12_1)] (fun k_=>some k_ ≠ (.slice (some ad291) t288.length co8:Value).ownBlock) (fun _=>False) rfl rfl ?aP (fun _ hk=>hk.elim) ?aF ?aO ?aB ?aS ?aL ?_;(case aP=>exact rfl);(case aB=>exact pB);(case aF=>exact (fun k_ hk=>Kd.fresh' (Kd.R_lt (pR HO_10)) k_ hk));(case aO=>exact (pR HO_5));(case aS=>exact (below_size pB));(case aL=>have:=LMc14.out;omega);intro v294 w17 ho hb hg hat;rw [← Ny293.out] at ho;have n0_:=Z (Kd.R_after (ok:=(fun _=>True)) (by refine pP ?_;exact Kd.R_mono HO_10.out (fun _ hk=>⟨trivial,hk⟩)) hg hat);have n1_:=Z (blk_grown (g:=gb286) (o:=.cells #[.slice A0_0 l0_0.length c0_0] 25 (0,0)) (pK BK286) hg (Kd.R_ne HO_5.out BK286.out (by decide)));have n2_:=Z (hb);have n3_:=Z (ho);clear HO_10 BK286 HB HO_5;have HO_10:=n0_;have BK286:=n1_;have HB:=n2_;have HO295:=n3_;clear n0_ n1_ n2_ n3_ ho hb hg hat))
        go_roundg k1
        case measure=>have:=HK1.out;omega
        case rel=>exact ⟨(y293),(wrap64 (x12_1+1)),pE,H',⟨by have:=HK1.out;omega⟩,⟨pR HO295⟩,⟨by refine pP ?_;exact Kd.R_mono HO_10.out (fun _ hk=>hk.2)⟩,⟨pK BK286⟩,⟨pB⟩⟩
       ·rw [if_neg c14] at H
        exact absurd H (by simp)
      ·replace c13:=Bool.eq_false_iff.mpr c13
       subst c13
       rw [if_neg (show ¬ (false=true) by decide)] at H
       have H':=Z H
       clear H
       have p291:0≤(x12_1:Int):=of_decide_eq_true pA
       have q291:x12_1 < (t288.length:Int):=of_decide_eq_true pA
       obtain ⟨ad291,e291,hx291_0⟩:=Kd.at_int (Kd.R_reads' HO_10.out).2.2 x12_1 p291 q291
       cases e291
       replace p291:=eq_true p291
       replace q291:=eq_true q291
       have hcz18_0:=pV BK286 (.slice A0_0 l0_0.length c0_0) 0 rfl
       have hfz18_0:=kF BK286.out 0
       go_wp2_with (first|((with_reducible refine gate_val (x:=.tmp 16) rfl ?_);refine goesV_ (some 19) rfl rfl (x:=.tmp 16) Tryz.func112 pU rfl #[.agg #[.slice A0_0 l0_0.length c0_0],.int .i64 (rd t288 x12_1)] rfl rfl pG ?_;(with_reducible refine (danger_splits.calls k1 _ _ l0_0 (rd t288 x12_1) false _ ?side1 ?side2 A12.out).mono ?_);(case side1=>exact pC HR0_0);(case side2=>exact HC0_0.out);rintro e w19 ⟨rfl,hb⟩;refine ⟨_,rfl,?_⟩;replace HO_5:=Z (Kd.R_below (pR HO_5) hb);replace HO_10:=Z (Kd.R_below (pR HO_10) hb);replace BK286:=Z (blk_below (g:=gb286) (o:=.cells #[.slice A0_0 l0_0.length c0_0] 25 (0,0)) (pK BK286) hb);have n3_:=Z (below_step pB hb);clear HB;have HB:=n3_;clear n3_;(try clear hb);(try clear hb2);(try clear hk);(try clear hi)))
       go_roundg k1
       case measure=>have:=HK1.out;omega
       case rel=>exact ⟨(x5_1),(wrap64 (x12_1+1)),pE,H',⟨by have:=HK1.out;omega⟩,⟨pR HO_5⟩,⟨pR HO_10⟩,⟨pK BK286⟩,⟨pB⟩⟩
     ·rw [if_neg c11] at H
      exact absurd H (by simp)
    ·rw [if_neg c10] at H
     exact absurd H (by simp)
   ·rw [if_neg c9] at H
    have c9b0:decide (x12_1 < (t288.length:Int))=false:=decide_eq_false c9
    clear c9
    replace H:=pO H
    obtain ⟨t296,A200,H⟩:=H
    try dsimp only at H
    have A20:=Z A200
    clear A200
    obtain rfl:=Option.some.inj H
    obtain ⟨Ao21,co21,eo21⟩:=Kd.R_slice HO_5.out
    subst eo21
    go_wp2_with (first|((with_reducible refine gate_callee (f:=96) rfl ?_);refine goesL_ (some 26) rfl rfl Tryz.func96 pU rfl #[.slice Ao21 x5_1.length co21] rfl pG ?_;(with_reducible refine (nodeset_Least.calls _ _ x5_1 t296 _ ?side1 ?side2 A20.out).mono ?_);(case side1=>repeat (first|exact (Kd.R_reads' HO_5.out).2.2|(with_reducible refine Kd.C_alloc ?_ _)|(with_reducible refine Kd.C_drewN ?_ _)|(with_reducible refine Kd.C_drew ?_)));(case side2=>exact (Kd.R_reads' HO_5.out).2.1);rintro e w22 ⟨v297,rfl,ho0,hb⟩;refine ⟨_,rfl,?_⟩;have n0_:=Z (Kd.R_elder' (pR HO_5) (Kd.R_base ho0) hb);have n1_:=Z (Kd.R_elder' (pR HO_10) (Kd.R_base ho0) hb);have HO298:=Z (Kd.R_lower (Kd.R_new' (Kd.R_new' ho0 (Kd.R_lt (pR HO_5))) (Kd.R_lt (pR HO_10))) (below_size pB));replace BK286:=Z (blk_below (g:=gb286) (o:=.cells #[.slice A0_0 l0_0.length c0_0] 25 (0,0)) (pK BK286) hb);have n4_:=Z (below_step pB hb);clear HO_5 HO_10 HB;have HO_5:=n0_;have HO_10:=n1_;have HB:=n4_;clear n0_ n1_ n4_;(try clear hb);(try clear hb2);(try clear hk);(try clear hi);(try clear ho0)))
    go_ret
    exact ⟨_,pF,by refine pP ?_;exact Kd.R_mono HO298.out (fun _ hk=>trivial),pB⟩
def danger_Splitting.f (k:Nat) (l0_0:List (S92)):Option (List Int × Int):=(danger_small.f k l0_0).bind fun t589=>(if t589=0 then ((danger_least_splits.f k l0_0).bind fun t590=>(some (t590,0))) else (some (([]:List Int),t589)))
set_option maxHeartbeats 8000000 in
set_option maxRecDepth 100000 in
theorem danger_Splitting.calls (k:Nat) (A0_0:Option Addr) (c0_0:Nat) (l0_0:List (S92)) (r1:List Int) (r2:Int) (w:World) (hr0_0:Kd.C k92 w A0_0 l0_0.length l0_0) (hc0_0:l0_0.length≤c0_0) (h:danger_Splitting.f k l0_0=some (r1,r2)) :
  Calls Tryz.prog 48 #[.agg #[.slice A0_0 l0_0.length c0_0]] w fun e w'=>∃ v0_:Value,e=.returned (.tuple #[v0_,.int .i64 r2])∧Kd.R (Kd.int .i64) 3 w' w.heap.size (fun _=>True) v0_ r1∧Below w.heap.size w w':=by
 have hu25:=Tryz.underlying25
 have HR0_0:=Z hr0_0
 have HC0_0:=Z hc0_0
 clear hr0_0 hc0_0
 have HB:=Z (Below.refl w.heap.size w)
 have H:((danger_small.f k l0_0).bind fun t589=>(if t589=0 then ((danger_least_splits.f k l0_0).bind fun t590=>(some (t590,0))) else (some (([]:List Int),t589))))=some (r1,r2):=h
 clear h
 replace H:=pO H
 obtain ⟨t589,A20,H⟩:=H
 try dsimp only at H
 have A2:=Z A20
 clear A20
 by_cases c3:t589=0
 ·rw [if_pos c3] at H
  have c3b0:(t589 == 0)=true:=beq_iff_eq.mpr c3
  have c3b1:(t589 != 0)=false:=bne_eq_false_iff_eq.mpr c3
  clear c3
  replace H:=pO H
  obtain ⟨t590,A40,H⟩:=H
  try dsimp only at H
  have A4:=Z A40
  clear A40
  simp only [Option.some.injEq,Prod.mk.injEq] at H
  obtain ⟨rfl,rfl⟩:=H
  go_enter Tryz.func48,Tryz.ntmps48
  go_wp2_with (first|((with_reducible refine gate_dst (N:=1) rfl ?_);refine box_event ?hg (N:=1) ?hd (cs:=#[.slice A0_0 l0_0.length c0_0]) (t:=25) ?hr ?_;(case hd=>rfl);(case hg=>rfl);(case hr=>first|(go_simp;done)|(go_simp;rfl));intro gb588 hg w5 hbox hb;have n0_:=Z (below_step pB hb);have BK588:=Z (hbox);have GW588:=Z ((pT hg:w.heap.size≤gb588));have GE588:=Z ((pT hg:w.heap.size≤gb588));clear HB;have HB:=n0_;clear n0_ hb hbox hg;obtain ⟨hcz6_0,hfz6_0⟩:=p1 BK588)|((with_reducible refine gate_callee (f:=121) rfl ?_);refine goesL_ (some 6) rfl rfl Tryz.func121 pU rfl #[.agg #[.slice A0_0 l0_0.length c0_0]] rfl pG ?_;(with_reducible refine (danger_small.calls k _ _ l0_0 t589 _ ?side1 ?side2 A2.out).mono ?_);(case side1=>exact pC HR0_0);(case side2=>exact HC0_0.out);rintro e w7 ⟨rfl,hb⟩;refine ⟨_,rfl,?_⟩;replace BK588:=Z (blk_below (g:=gb588) (o:=.cells #[.slice A0_0 l0_0.length c0_0] 25 (0,0)) (pK BK588) hb);have n1_:=Z (below_step pB hb);clear HB;have HB:=n1_;clear n1_;(try clear hb);(try clear hb2);(try clear hk);(try clear hi);obtain ⟨hcz8_0,hfz8_0⟩:=p1 BK588)|((with_reducible refine gate_callee (f:=108) rfl ?_);refine goesL_ (some 11) rfl rfl Tryz.func108 pU rfl #[.agg #[.slice A0_0 l0_0.length c0_0],.func (.func 112) #[] #[]] rfl pG ?_;(with_reducible refine (danger_least_splits.calls k _ _ l0_0 t590 _ ?side1 ?side2 A4.out).mono ?_);(case side1=>exact pC HR0_0);(case side2=>exact HC0_0.out);rintro e w9 ⟨v591,rfl,ho0,hb⟩;refine ⟨_,rfl,?_⟩;have HO592:=Z (Kd.R_lower ho0 (below_size pB));replace BK588:=Z (blk_below (g:=gb588) (o:=.cells #[.slice A0_0 l0_0.length c0_0] 25 (0,0)) (pK BK588) hb);have n2_:=Z (below_step pB hb);clear HB;have HB:=n2_;clear n2_;(try clear hb);(try clear hb2);(try clear hk);(try clear hi);(try clear ho0)))
  go_ret2
  exact ⟨_,pF,pR HO592,pB⟩
 ·rw [if_neg c3] at H
  have c3b0:(t589 == 0)=false:=beq_eq_false_iff_ne.mpr c3
  have c3b1:(t589 != 0)=true:=bne_iff_ne.mpr c3
  simp only [Option.some.injEq,Prod.mk.injEq] at H
  obtain ⟨rfl,rfl⟩:=H
  go_enter Tryz.func48,Tryz.ntmps48
  go_wp2_with (first|((with_reducible refine gate_dst (N:=1) rfl ?_);refine box_event ?hg (N:=1) ?hd (cs:=#[.slice A0_0 l0_0.length c0_0]) (t:=25) ?hr ?_;(case hd=>rfl);(case hg=>rfl);(case hr=>first|(go_simp;done)|(go_simp;rfl));intro gb588 hg w10 hbox hb;have n0_:=Z (below_step pB hb);have BK588:=Z (hbox);have GW588:=Z ((pT hg:w.heap.size≤gb588));have GE588:=Z ((pT hg:w.heap.size≤gb588));clear HB;have HB:=n0_;clear n0_ hb hbox hg;obtain ⟨hcz11_0,hfz11_0⟩:=p1 BK588)|((with_reducible refine gate_callee (f:=121) rfl ?_);refine goesL_ (some 6) rfl rfl Tryz.func121 pU rfl #[.agg #[.slice A0_0 l0_0.length c0_0]] rfl pG ?_;(with_reducible refine (danger_small.calls k _ _ l0_0 t589 _ ?side1 ?side2 A2.out).mono ?_);(case side1=>exact pC HR0_0);(case side2=>exact HC0_0.out);rintro e w12 ⟨rfl,hb⟩;refine ⟨_,rfl,?_⟩;replace BK588:=Z (blk_below (g:=gb588) (o:=.cells #[.slice A0_0 l0_0.length c0_0] 25 (0,0)) (pK BK588) hb);have n1_:=Z (below_step pB hb);clear HB;have HB:=n1_;clear n1_;(try clear hb);(try clear hb2);(try clear hk);(try clear hi)))
  go_ret2
  exact ⟨_,pF,pN,pB⟩
def danger_Tolerates.f (k:Nat) (l0_0:List (S92)):Option (Int × Int × Int):=(danger_small.f k l0_0).bind fun t597=>(if t597=0 then ((danger_least_splits.f k l0_0).bind fun t598=>((danger_tolerated.f l0_0 t598).bind fun t601=>((danger_least_halts.f k l0_0).bind fun t602=>((danger_tolerated.f l0_0 t602).bind fun t605=>(some (t601,t605,0)))))) else (some (0,0,t597)))
def danger_Tolerates.T4:Bool × List (List Nat × List Nat):=(true,[([],[]),([],[]),([1],[1]),([0,2,2],[0,2]),([],[]),([],[]),([5,3],[5]),([4,6,6],[4,6]),([3,7,0,1,2,3],[3]),([7,8,0,1,2,3,4,5,6,7,8],[7]),([9,0,1,2,3,4,5,6,7,8,9],[])])
def danger_Tolerates.B4:List Nat:=[0,0,2,7,0,0,47,127,255,511,1023]
theorem danger_Tolerates.tab4:rtab .any (opsOf Tryz.f51 4)=danger_Tolerates.T4:=by kernel_rfl
theorem danger_Tolerates.bits4:waitsOk danger_Tolerates.T4.2 danger_Tolerates.B4=true:=by kernel_rfl
set_option maxHeartbeats 8000000 in
set_option maxRecDepth 100000 in
theorem danger_Tolerates.calls (k:Nat) (A0_0:Option Addr) (c0_0:Nat) (l0_0:List (S92)) (r1:Int) (r2:Int) (r3:Int) (w:World) (hr0_0:Kd.C k92 w A0_0 l0_0.length l0_0) (hc0_0:l0_0.length≤c0_0) (h:danger_Tolerates.f k l0_0=some (r1,r2,r3)) :
  Calls Tryz.prog 51 #[.agg #[.slice A0_0 l0_0.length c0_0]] w fun e w'=>e=.returned (.tuple #[.int .i64 r1,.int .i64 r2,.int .i64 r3])∧Below w.heap.size w w':=by
 have hu25:=Tryz.underlying25
 have HR0_0:=Z hr0_0
 have HC0_0:=Z hc0_0
 clear hr0_0 hc0_0
 have HB:=Z (Below.refl w.heap.size w)
 have H:((danger_small.f k l0_0).bind fun t597=>(if t597=0 then ((danger_least_splits.f k l0_0).bind fun t598=>((danger_tolerated.f l0_0 t598).bind fun t601=>((danger_least_halts.f k l0_0).bind fun t602=>((danger_tolerated.f l0_0 t602).bind fun t605=>(some (t601,t605,0)))))) else (some (0,0,t597))))=some (r1,r2,r3):=h
 clear h
 replace H:=pO H
 obtain ⟨t597,A20,H⟩:=H
 try dsimp only at H
 have A2:=Z A20
 clear A20
 by_cases c3:t597=0
 ·rw [if_pos c3] at H
  have c3b0:(t597 == 0)=true:=beq_iff_eq.mpr c3
  have c3b1:(t597 != 0)=false:=bne_eq_false_iff_eq.mpr c3
  clear c3
  replace H:=pO H
  obtain ⟨t598,A40,H⟩:=H
  try dsimp only at H
  have A4:=Z A40
  clear A40
  replace H:=pO H
  obtain ⟨t601,A50,H⟩:=H
  try dsimp only at H
  have A5:=Z A50
  clear A50
  replace H:=pO H
  obtain ⟨t602,A60,H⟩:=H
  try dsimp only at H
  have A6:=Z A60
  clear A60
  replace H:=pO H
  obtain ⟨t605,A70,H⟩:=H
  try dsimp only at H
  have A7:=Z A70
  clear A70
  simp only [Option.some.injEq,Prod.mk.injEq] at H
  obtain ⟨rfl,rfl,rfl⟩:=H
  go_enter Tryz.func51,Tryz.ntmps51
  try go_wp2_with (first|((with_reducible refine gate_dst (N:=1) rfl ?_);refine box_event ?hg (N:=1) ?hd (cs:=#[.slice A0_0 l0_0.length c0_0]) (t:=25) ?hr ?_;(case hd=>rfl);(case hg=>rfl);(case hr=>first|(go_simp;done)|(go_simp;rfl));intro gb596 hg w8 hbox hb;have n0_:=Z (below_step pB hb);have BK596:=Z (hbox);have GW596:=Z ((pT hg:w.heap.size≤gb596));have GE596:=Z ((pT hg:w.heap.size≤gb596));clear HB;have HB:=n0_;clear n0_ hb hbox hg;obtain ⟨hcz9_0,hfz9_0⟩:=p1 BK596)|((with_reducible refine gate_callee (f:=121) rfl ?_);refine goesL_ (some 7) rfl rfl Tryz.func121 pU rfl #[.agg #[.slice A0_0 l0_0.length c0_0]] rfl pG ?_;(with_reducible refine (danger_small.calls k _ _ l0_0 t597 _ ?side1 ?side2 A2.out).mono ?_);(case side1=>exact pC HR0_0);(case side2=>exact HC0_0.out);rintro e w10 ⟨rfl,hb⟩;refine ⟨_,rfl,?_⟩;replace BK596:=Z (blk_below (g:=gb596) (o:=.cells #[.slice A0_0 l0_0.length c0_0] 25 (0,0)) (pK BK596) hb);have n1_:=Z (below_step pB hb);clear HB;have HB:=n1_;clear n1_;(try clear hb);(try clear hb2);(try clear hk);(try clear hi)))
  have n0_:=Z (kD BK596.out)
  have n1_:=Z (wD HB.out)
  clear BK596 HB
  have BK596:=n0_
  have HB:=n1_
  clear n0_ n1_
  refine start_ (n:=11) (S:=fun w'=>w'.cell? ⟨gb596,0,none⟩=some (.slice A0_0 l0_0.length c0_0)) (ds:=[]) #[false,false,false,false,false,false,false,false,false,false,false] pU rfl rfl ((kC BK596.out 0).trans rfl) (fun hHeld=>?_);refine with_tabW danger_Tolerates.tab4 danger_Tolerates.bits4 (fun HT_ HW_=>?_)
  generalize w10.drew=w11 at BK596 HB hHeld ⊢
  refine take_ (i:=0) (N:=some 11) (v:=?_) (a':=?_) #[true,false,false,false,false,false,false,false,false,false,false] rfl rfl (take_ofW HT_.out HW_.out pU) (fun _ _ _ h=>h) (Or.inl ⟨by rfl,?_⟩) hHeld ?_ ?_
  rotate_left
  ·intro w' s0
   go_simp
   with_reducible rfl
  rotate_left
  ·simp only [Act.put,List.setIfInBounds_toArray,List.set_cons_zero,List.set_cons_succ,i64_w,i32_w]
   rfl
  refine take_ (i:=1) (N:=some 12) (v:=?_) (a':=?_) #[true,true,false,false,false,false,false,false,false,false,false] rfl rfl (take_ofW HT_.out HW_.out pU) (fun _ _ _ h=>h) (Or.inl ⟨by rfl,?_⟩) hHeld ?_ ?_
  rotate_left
  ·intro w' s0
   go_simp
   with_reducible rfl
  rotate_left
  ·simp only [Act.put,List.setIfInBounds_toArray,List.set_cons_zero,List.set_cons_succ,i64_w,i32_w]
   rfl
  refine take_ (i:=4) (N:=some 15) (v:=?_) (a':=?_) #[true,true,false,false,true,false,false,false,false,false,false] rfl rfl (take_ofW HT_.out HW_.out pU) (fun _ _ _ h=>h) (Or.inl ⟨by rfl,?_⟩) hHeld ?_ ?_
  rotate_left
  ·intro w' s0
   go_simp
   with_reducible rfl
  rotate_left
  ·simp only [Act.put,List.setIfInBounds_toArray,List.set_cons_zero,List.set_cons_succ,i64_w,i32_w]
   rfl
  refine take_ (i:=5) (N:=some 16) (v:=?_) (a':=?_) #[true,true,false,false,true,true,false,false,false,false,false] rfl rfl (take_ofW HT_.out HW_.out pU) (fun _ _ _ h=>h) (Or.inl ⟨by rfl,?_⟩) hHeld ?_ ?_
  rotate_left
  ·intro w' s0
   go_simp
   with_reducible rfl
  rotate_left
  ·simp only [Act.put,List.setIfInBounds_toArray,List.set_cons_zero,List.set_cons_succ,i64_w,i32_w]
   rfl
  refine one_ (i:=2) (N:=some 13) #[true,true,true,false,true,true,false,false,false,false,false] rfl rfl (one_of HT_.out pU) (by decide) (fun K hK=>?_)
  refine goes_ Tryz.func108 pU rfl #[.agg #[.slice A0_0 l0_0.length c0_0],.func (.func 112) #[] #[]] (by rfl) rfl rfl pG ?_
  with_reducible refine (danger_least_splits.calls k _ _ l0_0 t598 _ ?side1 ?side2 A4.out).mono ?_
  (case side1=>exact pC HR0_0)
  (case side2=>exact HC0_0.out)
  rintro e w12 ⟨v599,rfl,ho0,hb⟩
  refine ⟨_,rfl,?_⟩
  have n0_:=Z (Kd.R_lower ho0 (below_size pB))
  have n1_:=Z (blk_below (g:=gb596) (o:=.cells #[.slice A0_0 l0_0.length c0_0] 25 (0,0)) (pK BK596) hb)
  have n2_:=Z (below_step pB hb)
  clear BK596 HB
  have HO600:=n0_
  have BK596:=n1_
  have HB:=n2_
  clear n0_ n1_ n2_
  (try clear hb)
  (try clear hb2)
  (try clear hk)
  (try clear hi)
  (try clear ho0)
  obtain ⟨Ao13,co13,eo13⟩:=Kd.R_slice HO600.out
  (first|subst eo13|(injection eo13 with f1_ f2_ f3_;have f4_:=f1_.symm;have f5_:=f3_.symm;clear f1_ f2_ f3_;subst f4_;subst f5_))
  refine hK.out _ _ ((kC BK596.out 0).trans rfl) (fun hHeld=>?_)
  clear hK K
  refine norm_ (a':=?_) ?_ ?_
  rotate_left
  ·show Act.put _ (some 13) _=_
   simp only [Act.put,List.setIfInBounds_toArray,List.set_cons_zero,List.set_cons_succ,i64_w,i32_w]
   rfl
  refine one_ (i:=3) (N:=some 14) #[true,true,true,true,true,true,false,false,false,false,false] rfl rfl (one_of HT_.out pU) (by decide) (fun K hK=>?_)
  refine goes_ Tryz.func122 pU rfl #[.agg #[.slice A0_0 l0_0.length c0_0],.slice Ao13 t598.length co13] (by rfl) rfl rfl pG ?_
  with_reducible refine (danger_tolerated.calls _ _ l0_0 _ _ t598 t601 _ ?side1 ?side2 ?side3 ?side4 A5.out).mono ?_
  (case side1=>exact pC HR0_0)
  (case side2=>exact HC0_0.out)
  (case side3=>repeat (first|exact (Kd.R_reads' HO600.out).2.2|(with_reducible refine Kd.C_alloc ?_ _)|(with_reducible refine Kd.C_drewN ?_ _)|(with_reducible refine Kd.C_drew ?_)))
  (case side4=>exact (Kd.R_reads' HO600.out).2.1)
  rintro e w14 ⟨rfl,hb⟩
  refine ⟨_,rfl,?_⟩
  have n0_:=Z (Kd.R_below (pR HO600) hb)
  have n1_:=Z (blk_below (g:=gb596) (o:=.cells #[.slice A0_0 l0_0.length c0_0] 25 (0,0)) (pK BK596) hb)
  have n2_:=Z (below_step pB hb)
  clear HO600 BK596 HB
  have HO600:=n0_
  have BK596:=n1_
  have HB:=n2_
  clear n0_ n1_ n2_
  (try clear hb)
  (try clear hb2)
  (try clear hk)
  (try clear hi)
  refine hK.out _ _ ((kC BK596.out 0).trans rfl) (fun hHeld=>?_)
  clear hK K
  refine norm_ (a':=?_) ?_ ?_
  rotate_left
  ·show Act.put _ (some 14) _=_
   simp only [Act.put,List.setIfInBounds_toArray,List.set_cons_zero,List.set_cons_succ,i64_w,i32_w]
   rfl
  refine one_ (i:=6) (N:=some 17) #[true,true,true,true,true,true,true,false,false,false,false] rfl rfl (one_of HT_.out pU) (by decide) (fun K hK=>?_)
  refine goes_ Tryz.func108 pU rfl #[.agg #[.slice A0_0 l0_0.length c0_0],.func (.func 109) #[] #[]] (by rfl) rfl rfl pG ?_
  with_reducible refine (danger_least_halts.calls k _ _ l0_0 t602 _ ?side1 ?side2 A6.out).mono ?_
  (case side1=>exact pC HR0_0)
  (case side2=>exact HC0_0.out)
  rintro e w15 ⟨v603,rfl,ho0,hb⟩
  refine ⟨_,rfl,?_⟩
  have n0_:=Z (Kd.R_elder' (pR HO600) (Kd.R_base ho0) hb)
  have n1_:=Z (Kd.R_lower (Kd.R_new' ho0 (Kd.R_lt (pR HO600))) (below_size pB))
  have n2_:=Z (blk_below (g:=gb596) (o:=.cells #[.slice A0_0 l0_0.length c0_0] 25 (0,0)) (pK BK596) hb)
  have n3_:=Z (below_step pB hb)
  clear HO600 BK596 HB
  have HO600:=n0_
  have HO604:=n1_
  have BK596:=n2_
  have HB:=n3_
  clear n0_ n1_ n2_ n3_
  (try clear hb)
  (try clear hb2)
  (try clear hk)
  (try clear hi)
  (try clear ho0)
  obtain ⟨Ao16,co16,eo16⟩:=Kd.R_slice HO604.out
  (first|subst eo16|(injection eo16 with f1_ f2_ f3_;have f4_:=f1_.symm;have f5_:=f3_.symm;clear f1_ f2_ f3_;subst f4_;subst f5_))
  refine hK.out _ _ ((kC BK596.out 0).trans rfl) (fun hHeld=>?_)
  clear hK K
  refine norm_ (a':=?_) ?_ ?_
  rotate_left
  ·show Act.put _ (some 17) _=_
   simp only [Act.put,List.setIfInBounds_toArray,List.set_cons_zero,List.set_cons_succ,i64_w,i32_w]
   rfl
  refine one_ (i:=7) (N:=some 18) #[true,true,true,true,true,true,true,true,false,false,false] rfl rfl (one_of HT_.out pU) (by decide) (fun K hK=>?_)
  refine goes_ Tryz.func122 pU rfl #[.agg #[.slice A0_0 l0_0.length c0_0],.slice Ao16 t602.length co16] (by rfl) rfl rfl pG ?_
  with_reducible refine (danger_tolerated.calls _ _ l0_0 _ _ t602 t605 _ ?side1 ?side2 ?side3 ?side4 A7.out).mono ?_
  (case side1=>exact pC HR0_0)
  (case side2=>exact HC0_0.out)
  (case side3=>repeat (first|exact (Kd.R_reads' HO604.out).2.2|(with_reducible refine Kd.C_alloc ?_ _)|(with_reducible refine Kd.C_drewN ?_ _)|(with_reducible refine Kd.C_drew ?_)))
  (case side4=>exact (Kd.R_reads' HO604.out).2.1)
  rintro e w17 ⟨rfl,hb⟩
  refine ⟨_,rfl,?_⟩
  have n0_:=Z (Kd.R_below (pR HO600) hb)
  have n1_:=Z (Kd.R_below (pR HO604) hb)
  have n2_:=Z (blk_below (g:=gb596) (o:=.cells #[.slice A0_0 l0_0.length c0_0] 25 (0,0)) (pK BK596) hb)
  have n3_:=Z (below_step pB hb)
  clear HO600 HO604 BK596 HB
  have HO600:=n0_
  have HO604:=n1_
  have BK596:=n2_
  have HB:=n3_
  clear n0_ n1_ n2_ n3_
  (try clear hb)
  (try clear hb2)
  (try clear hk)
  (try clear hi)
  refine hK.out _ _ ((kC BK596.out 0).trans rfl) (fun hHeld=>?_)
  clear hK K
  refine norm_ (a':=?_) ?_ ?_
  rotate_left
  ·show Act.put _ (some 18) _=_
   simp only [Act.put,List.setIfInBounds_toArray,List.set_cons_zero,List.set_cons_succ,i64_w,i32_w]
   rfl
  refine pure_ (i:=8) (N:=some 2) (v:=?_) (a':=?_) #[true,true,true,true,true,true,true,true,true,false,false] rfl rfl (any_of HT_.out pU) (fun _ _ _ h=>h) (Or.inl ⟨by rfl,?_⟩) ?_ ?_
  rotate_left
  ·intro w'
   go_simp
   with_reducible rfl
  rotate_left
  ·simp only [Act.put,List.setIfInBounds_toArray,List.set_cons_zero,List.set_cons_succ,i64_w,i32_w]
   rfl
  refine pure_ (i:=9) (N:=some 3) (v:=?_) (a':=?_) #[true,true,true,true,true,true,true,true,true,true,false] rfl rfl (any_of HT_.out pU) (fun _ _ _ h=>h) (Or.inl ⟨by rfl,?_⟩) ?_ ?_
  rotate_left
  ·intro w'
   go_simp
   with_reducible rfl
  rotate_left
  ·simp only [Act.put,List.setIfInBounds_toArray,List.set_cons_zero,List.set_cons_succ,i64_w,i32_w]
   rfl
  refine pure_ (i:=10) (N:=some 4) (v:=?_) (a':=?_) #[true,true,true,true,true,true,true,true,true,true,true] rfl rfl (any_of HT_.out pU) (fun _ _ _ h=>h) (Or.inl ⟨by rfl,?_⟩) ?_ ?_
  rotate_left
  ·intro w'
   go_simp
   with_reducible rfl
  rotate_left
  ·simp only [Act.put,List.setIfInBounds_toArray,List.set_cons_zero,List.set_cons_succ,i64_w,i32_w]
   rfl
  refine done_ (done_of HT_.out pU) ?_
  try go_wp2
  go_ret3
  exact ⟨pF,pB⟩
 ·rw [if_neg c3] at H
  have c3b0:(t597 == 0)=false:=beq_eq_false_iff_ne.mpr c3
  have c3b1:(t597 != 0)=true:=bne_iff_ne.mpr c3
  simp only [Option.some.injEq,Prod.mk.injEq] at H
  obtain ⟨rfl,rfl,rfl⟩:=H
  go_enter Tryz.func51,Tryz.ntmps51
  go_wp2_with (first|((with_reducible refine gate_dst (N:=1) rfl ?_);refine box_event ?hg (N:=1) ?hd (cs:=#[.slice A0_0 l0_0.length c0_0]) (t:=25) ?hr ?_;(case hd=>rfl);(case hg=>rfl);(case hr=>first|(go_simp;done)|(go_simp;rfl));intro gb596 hg w18 hbox hb;have n0_:=Z (below_step pB hb);have BK596:=Z (hbox);have GW596:=Z ((pT hg:w.heap.size≤gb596));have GE596:=Z ((pT hg:w.heap.size≤gb596));clear HB;have HB:=n0_;clear n0_ hb hbox hg;obtain ⟨hcz19_0,hfz19_0⟩:=p1 BK596)|((with_reducible refine gate_callee (f:=121) rfl ?_);refine goesL_ (some 7) rfl rfl Tryz.func121 pU rfl #[.agg #[.slice A0_0 l0_0.length c0_0]] rfl pG ?_;(with_reducible refine (danger_small.calls k _ _ l0_0 t597 _ ?side1 ?side2 A2.out).mono ?_);(case side1=>exact pC HR0_0);(case side2=>exact HC0_0.out);rintro e w20 ⟨rfl,hb⟩;refine ⟨_,rfl,?_⟩;replace BK596:=Z (blk_below (g:=gb596) (o:=.cells #[.slice A0_0 l0_0.length c0_0] 25 (0,0)) (pK BK596) hb);have n1_:=Z (below_step pB hb);clear HB;have HB:=n1_;clear n1_;(try clear hb);(try clear hb2);(try clear hk);(try clear hi)))
  go_ret3
  exact ⟨pF,pB⟩
def qlaw16_awake.f (k:Nat) :Option (Bool):=(qlaw16_same.f k 4 3).bind fun t606=>((danger_Splitting.f k t606).bind fun bt609=>((qlaw16_same.f k 4 3).bind fun t613=>((danger_Halting.f k t613).bind fun bt616=>((qlaw16_same.f k 4 3).bind fun t620=>((danger_Tolerates.f k t620).bind fun bt623=>(if bt609.2=0 then (if bt616.2=0 then (if bt623.2.2=0 then ((qmake_Ints.f k bt609.1 (([3,5,6,9,10,12]:List Int))).bind fun t629=>(if t629=true then ((qmake_Ints.f k bt616.1 bt609.1).bind fun t630=>(if t630=true then (if bt623.1=1 then (some (bt623.2.1 == 1)) else (some false)) else (some false))) else (some false))) else (some false)) else (some false)) else (some false)))))))
set_option maxHeartbeats 8000000 in
set_option maxRecDepth 100000 in
theorem qlaw16_awake.calls (k:Nat)  (w:World) (h:qlaw16_awake.f k =some true) :
  Calls Tryz.prog 38 #[] w fun e w'=>e=.returned (.bool true)∧Below w.heap.size w w':=by
 have HB:=Z (Below.refl w.heap.size w)
 have H:((qlaw16_same.f k 4 3).bind fun t606=>((danger_Splitting.f k t606).bind fun bt609=>((qlaw16_same.f k 4 3).bind fun t613=>((danger_Halting.f k t613).bind fun bt616=>((qlaw16_same.f k 4 3).bind fun t620=>((danger_Tolerates.f k t620).bind fun bt623=>(if bt609.2=0 then (if bt616.2=0 then (if bt623.2.2=0 then ((qmake_Ints.f k bt609.1 (([3,5,6,9,10,12]:List Int))).bind fun t629=>(if t629=true then ((qmake_Ints.f k bt616.1 bt609.1).bind fun t630=>(if t630=true then (if bt623.1=1 then (some (bt623.2.1 == 1)) else (some false)) else (some false))) else (some false))) else (some false)) else (some false)) else (some false))))))))=some true:=h
 clear h
 replace H:=pO H
 obtain ⟨t606,A10,H⟩:=H
 try dsimp only at H
 have A1:=Z A10
 clear A10
 replace H:=pO H
 obtain ⟨⟨t609,t612⟩,A20,H⟩:=H
 try dsimp only at H
 have A2:=Z A20
 clear A20
 replace H:=pO H
 obtain ⟨t613,A30,H⟩:=H
 try dsimp only at H
 have A3:=Z A30
 clear A30
 replace H:=pO H
 obtain ⟨⟨t616,t619⟩,A40,H⟩:=H
 try dsimp only at H
 have A4:=Z A40
 clear A40
 replace H:=pO H
 obtain ⟨t620,A50,H⟩:=H
 try dsimp only at H
 have A5:=Z A50
 clear A50
 replace H:=pO H
 obtain ⟨⟨t623,t624,t625⟩,A60,H⟩:=H
 try dsimp only at H
 have A6:=Z A60
 clear A60
 by_cases c7:t612=0
 ·rw [if_pos c7] at H
  have c7b0:(t612 == 0)=true:=beq_iff_eq.mpr c7
  have c7b1:(t612 != 0)=false:=bne_eq_false_iff_eq.mpr c7
  clear c7
  by_cases c8:t619=0
  ·rw [if_pos c8] at H
   have c8b0:(t619 == 0)=true:=beq_iff_eq.mpr c8
   have c8b1:(t619 != 0)=false:=bne_eq_false_iff_eq.mpr c8
   clear c8
   by_cases c9:t625=0
   ·rw [if_pos c9] at H
    have c9b0:(t625 == 0)=true:=beq_iff_eq.mpr c9
    have c9b1:(t625 != 0)=false:=bne_eq_false_iff_eq.mpr c9
    clear c9
    obtain ⟨y626,hy626⟩:∃ y_:List Int,y_=(([3,5,6,9,10,12]:List Int)):=⟨_,rfl⟩
    first|rw [← hy626] at H|(replace H:=(Option.bind_some _ _).symm.trans H;rw [← hy626] at H)
    have Ny626:=Z hy626
    clear hy626
    replace H:=pO H
    obtain ⟨t629,A100,H⟩:=H
    try dsimp only at H
    have A10:=Z A100
    clear A100
    by_cases c11:t629=true
    ·subst c11
     rw [if_pos rfl] at H
     replace H:=pO H
     obtain ⟨t630,A120,H⟩:=H
     try dsimp only at H
     have A12:=Z A120
     clear A120
     by_cases c13:t630=true
     ·subst c13
      rw [if_pos rfl] at H
      by_cases c14:t623=1
      ·rw [if_pos c14] at H
       have c14b0:(t623 == 1)=true:=beq_iff_eq.mpr c14
       have c14b1:(t623 != 1)=false:=bne_eq_false_iff_eq.mpr c14
       clear c14
       have HT:=Z (Option.some.inj H)
       clear H
       go_enter Tryz.func38,Tryz.ntmps38
       go_wp2_with (first|((with_reducible refine gate_callee (f:=111) rfl ?_);refine goesL_ (some 9) rfl rfl Tryz.func111 pU rfl #[.int .i64 4,.int .i64 3] rfl pG ?_;(with_reducible refine (qlaw16_same.calls k 4 3 t606 _ A1.out).mono ?_);rintro e w15 ⟨v607,rfl,ho0,hb⟩;refine ⟨_,rfl,?_⟩;have HO608:=Z (Kd.R_lower ho0 (below_size pB));have n1_:=Z (below_step pB hb);clear HB;have HB:=n1_;clear n1_;(try clear hb);(try clear hb2);(try clear hk);(try clear hi);(try clear ho0);obtain ⟨Ao16,co16,eo16⟩:=Kd.R_slice HO608.out;subst eo16)|((with_reducible refine gate_callee (f:=48) rfl ?_);refine goesL_ (some 10) rfl rfl Tryz.func48 pU rfl #[.agg #[.slice Ao16 t606.length co16]] rfl pG ?_;(with_reducible refine (danger_Splitting.calls k _ _ t606 t609 t612 _ ?side1 ?side2 A2.out).mono ?_);(case side1=>repeat (first|exact (Kd.R_reads' HO608.out).2.2|(with_reducible refine Kd.C_alloc ?_ _)|(with_reducible refine Kd.C_drewN ?_ _)|(with_reducible refine Kd.C_drew ?_)));(case side2=>exact (Kd.R_reads' HO608.out).2.1);rintro e w17 ⟨v610,rfl,ho0,hb⟩;refine ⟨_,rfl,?_⟩;replace HO608:=Z (Kd.R_elder' (pR HO608) (Kd.R_base ho0) hb);have HO611:=Z (Kd.R_lower ho0 (below_size pB));have n2_:=Z (below_step pB hb);clear HB;have HB:=n2_;clear n2_;(try clear hb);(try clear hb2);(try clear hk);(try clear hi);(try clear ho0))|((with_reducible refine gate_callee (f:=111) rfl ?_);refine goesL_ (some 14) rfl rfl Tryz.func111 pU rfl #[.int .i64 4,.int .i64 3] rfl pG ?_;(with_reducible refine (qlaw16_same.calls k 4 3 t613 _ A3.out).mono ?_);rintro e w18 ⟨v614,rfl,ho0,hb⟩;refine ⟨_,rfl,?_⟩;have n0_:=Z (Kd.R_elder' (pR HO608) (Kd.R_base ho0) hb);have n1_:=Z (Kd.R_below (pR HO611) hb);have HO615:=Z (Kd.R_lower (Kd.R_new' (Kd.R_new' ho0 (Kd.R_lt (pR HO608))) (Kd.R_lt (pR HO611))) (below_size pB));have n3_:=Z (below_step pB hb);clear HO608 HO611 HB;have HO608:=n0_;have HO611:=n1_;have HB:=n3_;clear n0_ n1_ n3_;(try clear hb);(try clear hb2);(try clear hk);(try clear hi);(try clear ho0);obtain ⟨Ao19,co19,eo19⟩:=Kd.R_slice HO615.out;subst eo19)|((with_reducible refine gate_callee (f:=34) rfl ?_);refine goesL_ (some 15) rfl rfl Tryz.func34 pU rfl #[.agg #[.slice Ao19 t613.length co19]] rfl pG ?_;(with_reducible refine (danger_Halting.calls k _ _ t613 t616 t619 _ ?side1 ?side2 A4.out).mono ?_);(case side1=>repeat (first|exact (Kd.R_reads' HO615.out).2.2|(with_reducible refine Kd.C_alloc ?_ _)|(with_reducible refine Kd.C_drewN ?_ _)|(with_reducible refine Kd.C_drew ?_)));(case side2=>exact (Kd.R_reads' HO615.out).2.1);rintro e w20 ⟨v617,rfl,ho0,hb⟩;refine ⟨_,rfl,?_⟩;replace HO608:=Z (Kd.R_elder' (pR HO608) (Kd.R_base ho0) hb);have n1_:=Z (Kd.R_elder' (pR HO611) (Kd.R_base ho0) hb);replace HO615:=Z (Kd.R_elder' (pR HO615) (Kd.R_base ho0) hb);have HO618:=Z (Kd.R_lower (Kd.R_new' ho0 (Kd.R_lt (pR HO611))) (below_size pB));have n4_:=Z (below_step pB hb);clear HO611 HB;have HO611:=n1_;have HB:=n4_;clear n1_ n4_;(try clear hb);(try clear hb2);(try clear hk);(try clear hi);(try clear ho0))|((with_reducible refine gate_callee (f:=111) rfl ?_);refine goesL_ (some 19) rfl rfl Tryz.func111 pU rfl #[.int .i64 4,.int .i64 3] rfl pG ?_;(with_reducible refine (qlaw16_same.calls k 4 3 t620 _ A5.out).mono ?_);rintro e w21 ⟨v621,rfl,ho0,hb⟩;refine ⟨_,rfl,?_⟩;have n0_:=Z (Kd.R_elder' (pR HO608) (Kd.R_base ho0) hb);have n1_:=Z (Kd.R_below (pR HO611) hb);have n2_:=Z (Kd.R_elder' (pR HO615) (Kd.R_base ho0) hb);have n3_:=Z (Kd.R_below (pR HO618) hb);have HO622:=Z (Kd.R_lower (Kd.R_new' (Kd.R_new' (Kd.R_new' (Kd.R_new' ho0 (Kd.R_lt (pR HO608))) (Kd.R_lt (pR HO611))) (Kd.R_lt (pR HO615))) (Kd.R_lt (pR HO618))) (below_size pB));have n5_:=Z (below_step pB hb);clear HO608 HO611 HO615 HO618 HB;have HO608:=n0_;have HO611:=n1_;have HO615:=n2_;have HO618:=n3_;have HB:=n5_;clear n0_ n1_ n2_ n3_ n5_;(try clear hb);(try clear hb2);(try clear hk);(try clear hi);(try clear ho0);obtain ⟨Ao22,co22,eo22⟩:=Kd.R_slice HO622.out;subst eo22)|((with_reducible refine gate_callee (f:=51) rfl ?_);refine goesL_ (some 20) rfl rfl Tryz.func51 pU rfl #[.agg #[.slice Ao22 t620.length co22]] rfl pG ?_;(with_reducible refine (danger_Tolerates.calls k _ _ t620 t623 t624 t625 _ ?side1 ?side2 A6.out).mono ?_);(case side1=>repeat (first|exact (Kd.R_reads' HO622.out).2.2|(with_reducible refine Kd.C_alloc ?_ _)|(with_reducible refine Kd.C_drewN ?_ _)|(with_reducible refine Kd.C_drew ?_)));(case side2=>exact (Kd.R_reads' HO622.out).2.1);rintro e w23 ⟨rfl,hb⟩;refine ⟨_,rfl,?_⟩;replace HO608:=Z (Kd.R_below (pR HO608) hb);replace HO611:=Z (Kd.R_below (pR HO611) hb);replace HO615:=Z (Kd.R_below (pR HO615) hb);replace HO618:=Z (Kd.R_below (pR HO618) hb);replace HO622:=Z (Kd.R_below (pR HO622) hb);have n5_:=Z (below_step pB hb);clear HB;have HB:=n5_;clear n5_;(try clear hb);(try clear hb2);(try clear hk);(try clear hi))|((with_reducible refine gate_dst (N:=36) rfl ?_);(try (refine gate_guard (by rfl) ?_;dsimp only));refine Kd.R_lit (Kd.int .i64) _ 3 ?hg (N:=36) ?hd (xs:=([3,5,6,9,10,12]:List Int)) (inner:=[.int .i64 3,.int .i64 5,.int .i64 6,.int .i64 9,.int .i64 10,.int .i64 12]) (ok:=fun _=>True) (okp:=fun _=>True) ?hr ?hp (fun _ hk=>hk) trivial (Below.refl _ _) (Nat.le_refl _) (by simp) ?_;(case hd=>rfl);(case hg=>rfl);(case hr=>first|(go_simp;done)|(go_simp;rfl));(case hp=>exact (Reps.one (show Kd.M (Kd.int .i64) _ _ _ 3 [.int .i64 3] from rfl) (Reps.one (show Kd.M (Kd.int .i64) _ _ _ 5 [.int .i64 5] from rfl) (Reps.one (show Kd.M (Kd.int .i64) _ _ _ 6 [.int .i64 6] from rfl) (Reps.one (show Kd.M (Kd.int .i64) _ _ _ 9 [.int .i64 9] from rfl) (Reps.one (show Kd.M (Kd.int .i64) _ _ _ 10 [.int .i64 10] from rfl) (Reps.one (show Kd.M (Kd.int .i64) _ _ _ 12 [.int .i64 12] from rfl) (Reps.none _ _))))))));intro v627 w24 ho25 hb hg_ hnew_;clear hg_ hnew_;(first|rw [← Ny626.out] at ho25|(simp only [Int.reduceToNat] at ho25;rw [← Ny626.out] at ho25));replace HO608:=Z (Kd.R_elder' (pR HO608) (Kd.R_base ho25) hb);have n1_:=Z (Kd.R_elder' (pR HO611) (Kd.R_base ho25) hb);replace HO615:=Z (Kd.R_elder' (pR HO615) (Kd.R_base ho25) hb);have n3_:=Z (Kd.R_elder' (pR HO618) (Kd.R_base ho25) hb);replace HO622:=Z (Kd.R_elder' (pR HO622) (Kd.R_base ho25) hb);have HO628:=Z (Kd.R_lower (Kd.R_new' (Kd.R_new' ho25 (Kd.R_lt (pR HO611))) (Kd.R_lt (pR HO618))) (below_size pB));have n6_:=Z (below_step pB hb);clear HO611 HO618 HB;have HO611:=n1_;have HO618:=n3_;have HB:=n6_;clear n1_ n3_ n6_ hb ho25;obtain ⟨Ao26,co26,eo26⟩:=Kd.R_slice HO611.out;subst eo26;obtain ⟨Ao27,co27,eo27⟩:=Kd.R_slice HO628.out;subst eo27)|(go_at_call 33;(with_reducible refine (qmake_Ints.calls k _ _ t609 _ _ y626 true _ ?side1 ?side2 ?side3 ?side4 A10.out).mono ?_);(case side1=>repeat (first|exact (Kd.R_reads' HO611.out).2.2|(with_reducible refine Kd.C_alloc ?_ _)|(with_reducible refine Kd.C_drewN ?_ _)|(with_reducible refine Kd.C_drew ?_)));(case side2=>exact (Kd.R_reads' HO611.out).2.1);(case side3=>repeat (first|exact (Kd.R_reads' HO628.out).2.2|(with_reducible refine Kd.C_alloc ?_ _)|(with_reducible refine Kd.C_drewN ?_ _)|(with_reducible refine Kd.C_drew ?_)));(case side4=>exact (Kd.R_reads' HO628.out).2.1);rintro e w' ⟨rfl,⟨nd,rfl⟩⟩;obtain ⟨Ao28,co28,eo28⟩:=Kd.R_slice HO618.out;subst eo28)|(go_at_call 33;(with_reducible refine (qmake_Ints.calls k _ _ t616 _ _ t609 true _ ?side1 ?side2 ?side3 ?side4 A12.out).mono ?_);(case side1=>repeat (first|exact (Kd.R_reads' HO618.out).2.2|(with_reducible refine Kd.C_alloc ?_ _)|(with_reducible refine Kd.C_drewN ?_ _)|(with_reducible refine Kd.C_drew ?_)));(case side2=>exact (Kd.R_reads' HO618.out).2.1);(case side3=>repeat (first|exact (Kd.R_reads' HO611.out).2.2|(with_reducible refine Kd.C_alloc ?_ _)|(with_reducible refine Kd.C_drewN ?_ _)|(with_reducible refine Kd.C_drew ?_)));(case side4=>exact (Kd.R_reads' HO611.out).2.1);rintro e w' ⟨rfl,⟨nd,rfl⟩⟩))
       go_ret
       exact ⟨by first|rfl|exact congrArg (fun b_:Bool=>Ending.returned (Value.bool b_)) HT.out|(simp [errW_none,errW_some] <;> rfl)|(simp [*,errW_none,errW_some] <;> rfl),pB⟩
      ·rw [if_neg c14] at H
       have c14b0:(t623 == 1)=false:=beq_eq_false_iff_ne.mpr c14
       have c14b1:(t623 != 1)=true:=bne_iff_ne.mpr c14
       exact absurd H (by simp)
     ·replace c13:=Bool.eq_false_iff.mpr c13
      subst c13
      rw [if_neg (show ¬ (false=true) by decide)] at H
      exact absurd H (by simp)
    ·replace c11:=Bool.eq_false_iff.mpr c11
     subst c11
     rw [if_neg (show ¬ (false=true) by decide)] at H
     exact absurd H (by simp)
   ·rw [if_neg c9] at H
    have c9b0:(t625 == 0)=false:=beq_eq_false_iff_ne.mpr c9
    have c9b1:(t625 != 0)=true:=bne_iff_ne.mpr c9
    exact absurd H (by simp)
  ·rw [if_neg c8] at H
   have c8b0:(t619 == 0)=false:=beq_eq_false_iff_ne.mpr c8
   have c8b1:(t619 != 0)=true:=bne_iff_ne.mpr c8
   exact absurd H (by simp)
 ·rw [if_neg c7] at H
  have c7b0:(t612 == 0)=false:=beq_eq_false_iff_ne.mpr c7
  have c7b1:(t612 != 0)=true:=bne_iff_ne.mpr c7
  exact absurd H (by simp)
def danger_asked.f (k:Nat) (l0_0:List (S92)) (a1:Int):Option (Int):=(configuration_Valid.f k l0_0).bind fun t558=>(if t558=0 then (if a1 < 0 then (some 1) else ((danger_members.f l0_0).bind fun t559=>(if a1 > t559 then (some 1) else (some 0)))) else (some t558))
set_option maxHeartbeats 8000000 in
set_option maxRecDepth 100000 in
theorem danger_asked.calls (k:Nat) (A0_0:Option Addr) (c0_0:Nat) (l0_0:List (S92)) (a1:Int) (r:Int) (w:World) (hr0_0:Kd.C k92 w A0_0 l0_0.length l0_0) (hc0_0:l0_0.length≤c0_0) (h:danger_asked.f k l0_0 a1=some r) :
  Calls Tryz.prog 110 #[.agg #[.slice A0_0 l0_0.length c0_0],.int .i64 a1] w fun e w'=>e=.returned (.int .i64 r)∧Below w.heap.size w w':=by
 have hu25:=Tryz.underlying25
 have HR0_0:=Z hr0_0
 have HC0_0:=Z hc0_0
 clear hr0_0 hc0_0
 have HB:=Z (Below.refl w.heap.size w)
 have H:((configuration_Valid.f k l0_0).bind fun t558=>(if t558=0 then (if a1 < 0 then (some 1) else ((danger_members.f l0_0).bind fun t559=>(if a1 > t559 then (some 1) else (some 0)))) else (some t558)))=some r:=h
 clear h
 replace H:=pO H
 obtain ⟨t558,A30,H⟩:=H
 try dsimp only at H
 have A3:=Z A30
 clear A30
 by_cases c4:t558=0
 ·rw [if_pos c4] at H
  have c4b0:(t558 == 0)=true:=beq_iff_eq.mpr c4
  have c4b1:(t558 != 0)=false:=bne_eq_false_iff_eq.mpr c4
  clear c4
  by_cases c5:a1 < 0
  ·rw [if_pos c5] at H
   have c5b0:decide (a1 < 0)=true:=decide_eq_true c5
   clear c5
   obtain rfl:=Option.some.inj H
   go_enter Tryz.func110,Tryz.ntmps110
   go_wp2_with (first|((with_reducible refine gate_dst (N:=2) rfl ?_);refine box_event ?hg (N:=2) ?hd (cs:=#[.slice A0_0 l0_0.length c0_0]) (t:=25) ?hr ?_;(case hd=>rfl);(case hg=>rfl);(case hr=>first|(go_simp;done)|(go_simp;rfl));intro gb557 hg w6 hbox hb;have n0_:=Z (below_step pB hb);have BK557:=Z (hbox);have GW557:=Z ((pT hg:w.heap.size≤gb557));have GE557:=Z ((pT hg:w.heap.size≤gb557));clear HB;have HB:=n0_;clear n0_ hb hbox hg;obtain ⟨hcz7_0,hfz7_0⟩:=p1 BK557)|((with_reducible refine gate_callee (f:=95) rfl ?_);refine goesL_ (some 7) rfl rfl Tryz.func95 pU rfl #[.agg #[.slice A0_0 l0_0.length c0_0]] rfl pG ?_;(with_reducible refine (configuration_Valid.calls k _ _ l0_0 t558 _ ?side1 ?side2 A3.out).mono ?_);(case side1=>exact pC HR0_0);(case side2=>exact HC0_0.out);rintro e w8 ⟨rfl,hb⟩;refine ⟨_,rfl,?_⟩;replace BK557:=Z (blk_below (g:=gb557) (o:=.cells #[.slice A0_0 l0_0.length c0_0] 25 (0,0)) (pK BK557) hb);have n1_:=Z (below_step pB hb);clear HB;have HB:=n1_;clear n1_;(try clear hb);(try clear hb2);(try clear hk);(try clear hi)))
   go_ret
   exact ⟨pF,pB⟩
  ·rw [if_neg c5] at H
   have c5b0:decide (a1 < 0)=false:=decide_eq_false c5
   clear c5
   replace H:=pO H
   obtain ⟨t559,A90,H⟩:=H
   try dsimp only at H
   have A9:=Z A90
   clear A90
   by_cases c10:a1 > t559
   ·rw [if_pos c10] at H
    have c10b0:decide (t559 < a1)=true:=decide_eq_true c10
    clear c10
    obtain rfl:=Option.some.inj H
    go_enter Tryz.func110,Tryz.ntmps110
    go_wp2_with (first|((with_reducible refine gate_dst (N:=2) rfl ?_);refine box_event ?hg (N:=2) ?hd (cs:=#[.slice A0_0 l0_0.length c0_0]) (t:=25) ?hr ?_;(case hd=>rfl);(case hg=>rfl);(case hr=>first|(go_simp;done)|(go_simp;rfl));intro gb557 hg w11 hbox hb;have n0_:=Z (below_step pB hb);have BK557:=Z (hbox);have GW557:=Z ((pT hg:w.heap.size≤gb557));have GE557:=Z ((pT hg:w.heap.size≤gb557));clear HB;have HB:=n0_;clear n0_ hb hbox hg;obtain ⟨hcz12_0,hfz12_0⟩:=p1 BK557)|((with_reducible refine gate_callee (f:=95) rfl ?_);refine goesL_ (some 7) rfl rfl Tryz.func95 pU rfl #[.agg #[.slice A0_0 l0_0.length c0_0]] rfl pG ?_;(with_reducible refine (configuration_Valid.calls k _ _ l0_0 t558 _ ?side1 ?side2 A3.out).mono ?_);(case side1=>exact pC HR0_0);(case side2=>exact HC0_0.out);rintro e w13 ⟨rfl,hb⟩;refine ⟨_,rfl,?_⟩;replace BK557:=Z (blk_below (g:=gb557) (o:=.cells #[.slice A0_0 l0_0.length c0_0] 25 (0,0)) (pK BK557) hb);have n1_:=Z (below_step pB hb);clear HB;have HB:=n1_;clear n1_;(try clear hb);(try clear hb2);(try clear hk);(try clear hi);obtain ⟨hcz14_0,hfz14_0⟩:=p1 BK557)|(go_at_call 169;(with_reducible refine (danger_members.calls _ _ l0_0 t559 _ ?side1 ?side2 A9.out).mono ?_);(case side1=>exact pC HR0_0);(case side2=>exact HC0_0.out);rintro e w15 ⟨rfl,hb⟩;replace BK557:=Z (blk_below (g:=gb557) (o:=.cells #[.slice A0_0 l0_0.length c0_0] 25 (0,0)) (pK BK557) hb);have n1_:=Z (below_step pB hb);clear HB;have HB:=n1_;clear n1_;(try clear hb);(try clear hb2);(try clear hk);(try clear hi)))
    go_ret
    exact ⟨pF,pB⟩
   ·rw [if_neg c10] at H
    have c10b0:decide (t559 < a1)=false:=decide_eq_false c10
    clear c10
    obtain rfl:=Option.some.inj H
    go_enter Tryz.func110,Tryz.ntmps110
    go_wp2_with (first|((with_reducible refine gate_dst (N:=2) rfl ?_);refine box_event ?hg (N:=2) ?hd (cs:=#[.slice A0_0 l0_0.length c0_0]) (t:=25) ?hr ?_;(case hd=>rfl);(case hg=>rfl);(case hr=>first|(go_simp;done)|(go_simp;rfl));intro gb557 hg w16 hbox hb;have n0_:=Z (below_step pB hb);have BK557:=Z (hbox);have GW557:=Z ((pT hg:w.heap.size≤gb557));have GE557:=Z ((pT hg:w.heap.size≤gb557));clear HB;have HB:=n0_;clear n0_ hb hbox hg;obtain ⟨hcz17_0,hfz17_0⟩:=p1 BK557)|((with_reducible refine gate_callee (f:=95) rfl ?_);refine goesL_ (some 7) rfl rfl Tryz.func95 pU rfl #[.agg #[.slice A0_0 l0_0.length c0_0]] rfl pG ?_;(with_reducible refine (configuration_Valid.calls k _ _ l0_0 t558 _ ?side1 ?side2 A3.out).mono ?_);(case side1=>exact pC HR0_0);(case side2=>exact HC0_0.out);rintro e w18 ⟨rfl,hb⟩;refine ⟨_,rfl,?_⟩;replace BK557:=Z (blk_below (g:=gb557) (o:=.cells #[.slice A0_0 l0_0.length c0_0] 25 (0,0)) (pK BK557) hb);have n1_:=Z (below_step pB hb);clear HB;have HB:=n1_;clear n1_;(try clear hb);(try clear hb2);(try clear hk);(try clear hi);obtain ⟨hcz19_0,hfz19_0⟩:=p1 BK557)|(go_at_call 169;(with_reducible refine (danger_members.calls _ _ l0_0 t559 _ ?side1 ?side2 A9.out).mono ?_);(case side1=>exact pC HR0_0);(case side2=>exact HC0_0.out);rintro e w20 ⟨rfl,hb⟩;replace BK557:=Z (blk_below (g:=gb557) (o:=.cells #[.slice A0_0 l0_0.length c0_0] 25 (0,0)) (pK BK557) hb);have n1_:=Z (below_step pB hb);clear HB;have HB:=n1_;clear n1_;(try clear hb);(try clear hb2);(try clear hk);(try clear hi)))
    go_ret
    exact ⟨pF,pB⟩
 ·rw [if_neg c4] at H
  have c4b0:(t558 == 0)=false:=beq_eq_false_iff_ne.mpr c4
  have c4b1:(t558 != 0)=true:=bne_iff_ne.mpr c4
  obtain rfl:=Option.some.inj H
  go_enter Tryz.func110,Tryz.ntmps110
  go_wp2_with (first|((with_reducible refine gate_dst (N:=2) rfl ?_);refine box_event ?hg (N:=2) ?hd (cs:=#[.slice A0_0 l0_0.length c0_0]) (t:=25) ?hr ?_;(case hd=>rfl);(case hg=>rfl);(case hr=>first|(go_simp;done)|(go_simp;rfl));intro gb557 hg w21 hbox hb;have n0_:=Z (below_step pB hb);have BK557:=Z (hbox);have GW557:=Z ((pT hg:w.heap.size≤gb557));have GE557:=Z ((pT hg:w.heap.size≤gb557));clear HB;have HB:=n0_;clear n0_ hb hbox hg;obtain ⟨hcz22_0,hfz22_0⟩:=p1 BK557)|((with_reducible refine gate_callee (f:=95) rfl ?_);refine goesL_ (some 7) rfl rfl Tryz.func95 pU rfl #[.agg #[.slice A0_0 l0_0.length c0_0]] rfl pG ?_;(with_reducible refine (configuration_Valid.calls k _ _ l0_0 t558 _ ?side1 ?side2 A3.out).mono ?_);(case side1=>exact pC HR0_0);(case side2=>exact HC0_0.out);rintro e w23 ⟨rfl,hb⟩;refine ⟨_,rfl,?_⟩;replace BK557:=Z (blk_below (g:=gb557) (o:=.cells #[.slice A0_0 l0_0.length c0_0] 25 (0,0)) (pK BK557) hb);have n1_:=Z (below_step pB hb);clear HB;have HB:=n1_;clear n1_;(try clear hb);(try clear hb2);(try clear hk);(try clear hi)))
  go_ret
  exact ⟨pF,pB⟩
def danger_Splits.f (k:Nat) (l0_0:List (S92)) (a1:Int):Option (Bool × Int):=(danger_asked.f k l0_0 a1).bind fun t670=>(if t670=0 then ((danger_splits.f k l0_0 a1).bind fun t671=>(some (t671,0))) else (some (false,t670)))
set_option maxHeartbeats 8000000 in
set_option maxRecDepth 100000 in
theorem danger_Splits.calls (k:Nat) (A0_0:Option Addr) (c0_0:Nat) (l0_0:List (S92)) (a1:Int) (r1:Bool) (r2:Int) (w:World) (hr0_0:Kd.C k92 w A0_0 l0_0.length l0_0) (hc0_0:l0_0.length≤c0_0) (h:danger_Splits.f k l0_0 a1=some (r1,r2)) :
  Calls Tryz.prog 40 #[.agg #[.slice A0_0 l0_0.length c0_0],.int .i64 a1] w fun e w'=>e=.returned (.tuple #[.bool r1,.int .i64 r2])∧Below w.heap.size w w':=by
 have hu25:=Tryz.underlying25
 have HR0_0:=Z hr0_0
 have HC0_0:=Z hc0_0
 clear hr0_0 hc0_0
 have HB:=Z (Below.refl w.heap.size w)
 have H:((danger_asked.f k l0_0 a1).bind fun t670=>(if t670=0 then ((danger_splits.f k l0_0 a1).bind fun t671=>(some (t671,0))) else (some (false,t670))))=some (r1,r2):=h
 clear h
 replace H:=pO H
 obtain ⟨t670,A30,H⟩:=H
 try dsimp only at H
 have A3:=Z A30
 clear A30
 by_cases c4:t670=0
 ·rw [if_pos c4] at H
  have c4b0:(t670 == 0)=true:=beq_iff_eq.mpr c4
  have c4b1:(t670 != 0)=false:=bne_eq_false_iff_eq.mpr c4
  clear c4
  replace H:=pO H
  obtain ⟨t671,A50,H⟩:=H
  try dsimp only at H
  have A5:=Z A50
  clear A50
  simp only [Option.some.injEq,Prod.mk.injEq] at H
  obtain ⟨rfl,rfl⟩:=H
  go_enter Tryz.func40,Tryz.ntmps40
  go_wp2_with (first|((with_reducible refine gate_dst (N:=2) rfl ?_);refine box_event ?hg (N:=2) ?hd (cs:=#[.slice A0_0 l0_0.length c0_0]) (t:=25) ?hr ?_;(case hd=>rfl);(case hg=>rfl);(case hr=>first|(go_simp;done)|(go_simp;rfl));intro gb669 hg w6 hbox hb;have n0_:=Z (below_step pB hb);have BK669:=Z (hbox);have GW669:=Z ((pT hg:w.heap.size≤gb669));have GE669:=Z ((pT hg:w.heap.size≤gb669));clear HB;have HB:=n0_;clear n0_ hb hbox hg;obtain ⟨hcz7_0,hfz7_0⟩:=p1 BK669)|((with_reducible refine gate_callee (f:=110) rfl ?_);refine goesL_ (some 9) rfl rfl Tryz.func110 pU rfl #[.agg #[.slice A0_0 l0_0.length c0_0],.int .i64 a1] rfl pG ?_;(with_reducible refine (danger_asked.calls k _ _ l0_0 a1 t670 _ ?side1 ?side2 A3.out).mono ?_);(case side1=>exact pC HR0_0);(case side2=>exact HC0_0.out);rintro e w8 ⟨rfl,hb⟩;refine ⟨_,rfl,?_⟩;replace BK669:=Z (blk_below (g:=gb669) (o:=.cells #[.slice A0_0 l0_0.length c0_0] 25 (0,0)) (pK BK669) hb);have n1_:=Z (below_step pB hb);clear HB;have HB:=n1_;clear n1_;(try clear hb);(try clear hb2);(try clear hk);(try clear hi);obtain ⟨hcz9_0,hfz9_0⟩:=p1 BK669)|((with_reducible refine gate_callee (f:=112) rfl ?_);refine goesL_ (some 15) rfl rfl Tryz.func112 pU rfl #[.agg #[.slice A0_0 l0_0.length c0_0],.int .i64 a1] rfl pG ?_;(with_reducible refine (danger_splits.calls k _ _ l0_0 a1 t671 _ ?side1 ?side2 A5.out).mono ?_);(case side1=>exact pC HR0_0);(case side2=>exact HC0_0.out);rintro e w10 ⟨rfl,hb⟩;refine ⟨_,rfl,?_⟩;replace BK669:=Z (blk_below (g:=gb669) (o:=.cells #[.slice A0_0 l0_0.length c0_0] 25 (0,0)) (pK BK669) hb);have n1_:=Z (below_step pB hb);clear HB;have HB:=n1_;clear n1_;(try clear hb);(try clear hb2);(try clear hk);(try clear hi)))
  go_ret2
  exact ⟨pF,pB⟩
 ·rw [if_neg c4] at H
  have c4b0:(t670 == 0)=false:=beq_eq_false_iff_ne.mpr c4
  have c4b1:(t670 != 0)=true:=bne_iff_ne.mpr c4
  simp only [Option.some.injEq,Prod.mk.injEq] at H
  obtain ⟨rfl,rfl⟩:=H
  go_enter Tryz.func40,Tryz.ntmps40
  go_wp2_with (first|((with_reducible refine gate_dst (N:=2) rfl ?_);refine box_event ?hg (N:=2) ?hd (cs:=#[.slice A0_0 l0_0.length c0_0]) (t:=25) ?hr ?_;(case hd=>rfl);(case hg=>rfl);(case hr=>first|(go_simp;done)|(go_simp;rfl));intro gb669 hg w11 hbox hb;have n0_:=Z (below_step pB hb);have BK669:=Z (hbox);have GW669:=Z ((pT hg:w.heap.size≤gb669));have GE669:=Z ((pT hg:w.heap.size≤gb669));clear HB;have HB:=n0_;clear n0_ hb hbox hg;obtain ⟨hcz12_0,hfz12_0⟩:=p1 BK669)|((with_reducible refine gate_callee (f:=110) rfl ?_);refine goesL_ (some 9) rfl rfl Tryz.func110 pU rfl #[.agg #[.slice A0_0 l0_0.length c0_0],.int .i64 a1] rfl pG ?_;(with_reducible refine (danger_asked.calls k _ _ l0_0 a1 t670 _ ?side1 ?side2 A3.out).mono ?_);(case side1=>exact pC HR0_0);(case side2=>exact HC0_0.out);rintro e w13 ⟨rfl,hb⟩;refine ⟨_,rfl,?_⟩;replace BK669:=Z (blk_below (g:=gb669) (o:=.cells #[.slice A0_0 l0_0.length c0_0] 25 (0,0)) (pK BK669) hb);have n1_:=Z (below_step pB hb);clear HB;have HB:=n1_;clear n1_;(try clear hb);(try clear hb2);(try clear hk);(try clear hi)))
  go_ret2
  exact ⟨pF,pB⟩
def intersection_Disjoint.f (k:Nat) (l0_0:List (S92)):Option (Int × Int × Int):=(configuration_Valid.f k l0_0).bind fun t673=>(if t673=0 then ((intersection_find.f k l0_0).bind fun bt674=>(if bt674.1=0 then (some (0,0,11)) else (some (bt674.1,bt674.2,0)))) else (some (0,0,t673)))
set_option maxHeartbeats 8000000 in
set_option maxRecDepth 100000 in
theorem intersection_Disjoint.calls (k:Nat) (A0_0:Option Addr) (c0_0:Nat) (l0_0:List (S92)) (r1:Int) (r2:Int) (r3:Int) (w:World) (hr0_0:Kd.C k92 w A0_0 l0_0.length l0_0) (hc0_0:l0_0.length≤c0_0) (h:intersection_Disjoint.f k l0_0=some (r1,r2,r3)) :
  Calls Tryz.prog 113 #[.agg #[.slice A0_0 l0_0.length c0_0]] w fun e w'=>e=.returned (.tuple #[.int .i64 r1,.int .i64 r2,.int .i64 r3])∧Below w.heap.size w w':=by
 have hu25:=Tryz.underlying25
 have HR0_0:=Z hr0_0
 have HC0_0:=Z hc0_0
 clear hr0_0 hc0_0
 have HB:=Z (Below.refl w.heap.size w)
 have H:((configuration_Valid.f k l0_0).bind fun t673=>(if t673=0 then ((intersection_find.f k l0_0).bind fun bt674=>(if bt674.1=0 then (some (0,0,11)) else (some (bt674.1,bt674.2,0)))) else (some (0,0,t673))))=some (r1,r2,r3):=h
 clear h
 replace H:=pO H
 obtain ⟨t673,A20,H⟩:=H
 try dsimp only at H
 have A2:=Z A20
 clear A20
 by_cases c3:t673=0
 ·rw [if_pos c3] at H
  have c3b0:(t673 == 0)=true:=beq_iff_eq.mpr c3
  have c3b1:(t673 != 0)=false:=bne_eq_false_iff_eq.mpr c3
  clear c3
  replace H:=pO H
  obtain ⟨⟨t674,t675⟩,A40,H⟩:=H
  try dsimp only at H
  have A4:=Z A40
  clear A40
  by_cases c5:t674=0
  ·rw [if_pos c5] at H
   have c5b0:(t674 == 0)=true:=beq_iff_eq.mpr c5
   have c5b1:(t674 != 0)=false:=bne_eq_false_iff_eq.mpr c5
   clear c5
   simp only [Option.some.injEq,Prod.mk.injEq] at H
   obtain ⟨rfl,rfl,rfl⟩:=H
   go_enter Tryz.func113,Tryz.ntmps113
   go_wp2_with (first|((with_reducible refine gate_dst (N:=1) rfl ?_);refine box_event ?hg (N:=1) ?hd (cs:=#[.slice A0_0 l0_0.length c0_0]) (t:=25) ?hr ?_;(case hd=>rfl);(case hg=>rfl);(case hr=>first|(go_simp;done)|(go_simp;rfl));intro gb672 hg w6 hbox hb;have n0_:=Z (below_step pB hb);have BK672:=Z (hbox);have GW672:=Z ((pT hg:w.heap.size≤gb672));have GE672:=Z ((pT hg:w.heap.size≤gb672));clear HB;have HB:=n0_;clear n0_ hb hbox hg;obtain ⟨hcz7_0,hfz7_0⟩:=p1 BK672)|((with_reducible refine gate_callee (f:=95) rfl ?_);refine goesL_ (some 9) rfl rfl Tryz.func95 pU rfl #[.agg #[.slice A0_0 l0_0.length c0_0]] rfl pG ?_;(with_reducible refine (configuration_Valid.calls k _ _ l0_0 t673 _ ?side1 ?side2 A2.out).mono ?_);(case side1=>exact pC HR0_0);(case side2=>exact HC0_0.out);rintro e w8 ⟨rfl,hb⟩;refine ⟨_,rfl,?_⟩;replace BK672:=Z (blk_below (g:=gb672) (o:=.cells #[.slice A0_0 l0_0.length c0_0] 25 (0,0)) (pK BK672) hb);have n1_:=Z (below_step pB hb);clear HB;have HB:=n1_;clear n1_;(try clear hb);(try clear hb2);(try clear hk);(try clear hi);obtain ⟨hcz9_0,hfz9_0⟩:=p1 BK672)|((with_reducible refine gate_callee (f:=171) rfl ?_);refine goesL_ (some 15) rfl rfl Tryz.func171 pU rfl #[.agg #[.slice A0_0 l0_0.length c0_0]] rfl pG ?_;(with_reducible refine (intersection_find.calls k _ _ l0_0 t674 t675 _ ?side1 ?side2 A4.out).mono ?_);(case side1=>exact pC HR0_0);(case side2=>exact HC0_0.out);rintro e w10 ⟨rfl,hb⟩;refine ⟨_,rfl,?_⟩;replace BK672:=Z (blk_below (g:=gb672) (o:=.cells #[.slice A0_0 l0_0.length c0_0] 25 (0,0)) (pK BK672) hb);have n1_:=Z (below_step pB hb);clear HB;have HB:=n1_;clear n1_;(try clear hb);(try clear hb2);(try clear hk);(try clear hi)))
   go_ret3
   exact ⟨pF,pB⟩
  ·rw [if_neg c5] at H
   have c5b0:(t674 == 0)=false:=beq_eq_false_iff_ne.mpr c5
   have c5b1:(t674 != 0)=true:=bne_iff_ne.mpr c5
   simp only [Option.some.injEq,Prod.mk.injEq] at H
   obtain ⟨rfl,rfl,rfl⟩:=H
   go_enter Tryz.func113,Tryz.ntmps113
   go_wp2_with (first|((with_reducible refine gate_dst (N:=1) rfl ?_);refine box_event ?hg (N:=1) ?hd (cs:=#[.slice A0_0 l0_0.length c0_0]) (t:=25) ?hr ?_;(case hd=>rfl);(case hg=>rfl);(case hr=>first|(go_simp;done)|(go_simp;rfl));intro gb672 hg w11 hbox hb;have n0_:=Z (below_step pB hb);have BK672:=Z (hbox);have GW672:=Z ((pT hg:w.heap.size≤gb672));have GE672:=Z ((pT hg:w.heap.size≤gb672));clear HB;have HB:=n0_;clear n0_ hb hbox hg;obtain ⟨hcz12_0,hfz12_0⟩:=p1 BK672)|((with_reducible refine gate_callee (f:=95) rfl ?_);refine goesL_ (some 9) rfl rfl Tryz.func95 pU rfl #[.agg #[.slice A0_0 l0_0.length c0_0]] rfl pG ?_;(with_reducible refine (configuration_Valid.calls k _ _ l0_0 t673 _ ?side1 ?side2 A2.out).mono ?_);(case side1=>exact pC HR0_0);(case side2=>exact HC0_0.out);rintro e w13 ⟨rfl,hb⟩;refine ⟨_,rfl,?_⟩;replace BK672:=Z (blk_below (g:=gb672) (o:=.cells #[.slice A0_0 l0_0.length c0_0] 25 (0,0)) (pK BK672) hb);have n1_:=Z (below_step pB hb);clear HB;have HB:=n1_;clear n1_;(try clear hb);(try clear hb2);(try clear hk);(try clear hi);obtain ⟨hcz14_0,hfz14_0⟩:=p1 BK672)|((with_reducible refine gate_callee (f:=171) rfl ?_);refine goesL_ (some 15) rfl rfl Tryz.func171 pU rfl #[.agg #[.slice A0_0 l0_0.length c0_0]] rfl pG ?_;(with_reducible refine (intersection_find.calls k _ _ l0_0 t674 t675 _ ?side1 ?side2 A4.out).mono ?_);(case side1=>exact pC HR0_0);(case side2=>exact HC0_0.out);rintro e w15 ⟨rfl,hb⟩;refine ⟨_,rfl,?_⟩;replace BK672:=Z (blk_below (g:=gb672) (o:=.cells #[.slice A0_0 l0_0.length c0_0] 25 (0,0)) (pK BK672) hb);have n1_:=Z (below_step pB hb);clear HB;have HB:=n1_;clear n1_;(try clear hb);(try clear hb2);(try clear hk);(try clear hi)))
   go_ret3
   exact ⟨pF,pB⟩
 ·rw [if_neg c3] at H
  have c3b0:(t673 == 0)=false:=beq_eq_false_iff_ne.mpr c3
  have c3b1:(t673 != 0)=true:=bne_iff_ne.mpr c3
  simp only [Option.some.injEq,Prod.mk.injEq] at H
  obtain ⟨rfl,rfl,rfl⟩:=H
  go_enter Tryz.func113,Tryz.ntmps113
  go_wp2_with (first|((with_reducible refine gate_dst (N:=1) rfl ?_);refine box_event ?hg (N:=1) ?hd (cs:=#[.slice A0_0 l0_0.length c0_0]) (t:=25) ?hr ?_;(case hd=>rfl);(case hg=>rfl);(case hr=>first|(go_simp;done)|(go_simp;rfl));intro gb672 hg w16 hbox hb;have n0_:=Z (below_step pB hb);have BK672:=Z (hbox);have GW672:=Z ((pT hg:w.heap.size≤gb672));have GE672:=Z ((pT hg:w.heap.size≤gb672));clear HB;have HB:=n0_;clear n0_ hb hbox hg;obtain ⟨hcz17_0,hfz17_0⟩:=p1 BK672)|((with_reducible refine gate_callee (f:=95) rfl ?_);refine goesL_ (some 9) rfl rfl Tryz.func95 pU rfl #[.agg #[.slice A0_0 l0_0.length c0_0]] rfl pG ?_;(with_reducible refine (configuration_Valid.calls k _ _ l0_0 t673 _ ?side1 ?side2 A2.out).mono ?_);(case side1=>exact pC HR0_0);(case side2=>exact HC0_0.out);rintro e w18 ⟨rfl,hb⟩;refine ⟨_,rfl,?_⟩;replace BK672:=Z (blk_below (g:=gb672) (o:=.cells #[.slice A0_0 l0_0.length c0_0] 25 (0,0)) (pK BK672) hb);have n1_:=Z (below_step pB hb);clear HB;have HB:=n1_;clear n1_;(try clear hb);(try clear hb2);(try clear hk);(try clear hi)))
  go_ret3
  exact ⟨pF,pB⟩
def danger_Pair.f (k:Nat) (l0_0:List (S92)) (a1:Int):Option (Int × Int × Int):=(danger_asked.f k l0_0 a1).bind fun t677=>(if t677=0 then ((deletion_Delete.f k l0_0 a1).bind fun t678=>((intersection_Disjoint.f k t678).bind fun bt681=>(some (bt681.1,bt681.2.1,bt681.2.2)))) else (some (0,0,t677)))
set_option maxHeartbeats 8000000 in
set_option maxRecDepth 100000 in
theorem danger_Pair.calls (k:Nat) (A0_0:Option Addr) (c0_0:Nat) (l0_0:List (S92)) (a1:Int) (r1:Int) (r2:Int) (r3:Int) (w:World) (hr0_0:Kd.C k92 w A0_0 l0_0.length l0_0) (hc0_0:l0_0.length≤c0_0) (h:danger_Pair.f k l0_0 a1=some (r1,r2,r3)) :
  Calls Tryz.prog 41 #[.agg #[.slice A0_0 l0_0.length c0_0],.int .i64 a1] w fun e w'=>e=.returned (.tuple #[.int .i64 r1,.int .i64 r2,.int .i64 r3])∧Below w.heap.size w w':=by
 have hu25:=Tryz.underlying25
 have HR0_0:=Z hr0_0
 have HC0_0:=Z hc0_0
 clear hr0_0 hc0_0
 have HB:=Z (Below.refl w.heap.size w)
 have H:((danger_asked.f k l0_0 a1).bind fun t677=>(if t677=0 then ((deletion_Delete.f k l0_0 a1).bind fun t678=>((intersection_Disjoint.f k t678).bind fun bt681=>(some (bt681.1,bt681.2.1,bt681.2.2)))) else (some (0,0,t677))))=some (r1,r2,r3):=h
 clear h
 replace H:=pO H
 obtain ⟨t677,A30,H⟩:=H
 try dsimp only at H
 have A3:=Z A30
 clear A30
 by_cases c4:t677=0
 ·rw [if_pos c4] at H
  have c4b0:(t677 == 0)=true:=beq_iff_eq.mpr c4
  have c4b1:(t677 != 0)=false:=bne_eq_false_iff_eq.mpr c4
  clear c4
  replace H:=pO H
  obtain ⟨t678,A50,H⟩:=H
  try dsimp only at H
  have A5:=Z A50
  clear A50
  replace H:=pO H
  obtain ⟨⟨t681,t682,t683⟩,A60,H⟩:=H
  try dsimp only at H
  have A6:=Z A60
  clear A60
  simp only [Option.some.injEq,Prod.mk.injEq] at H
  obtain ⟨rfl,rfl,rfl⟩:=H
  go_enter Tryz.func41,Tryz.ntmps41
  go_wp2_with (first|((with_reducible refine gate_dst (N:=2) rfl ?_);refine box_event ?hg (N:=2) ?hd (cs:=#[.slice A0_0 l0_0.length c0_0]) (t:=25) ?hr ?_;(case hd=>rfl);(case hg=>rfl);(case hr=>first|(go_simp;done)|(go_simp;rfl));intro gb676 hg w7 hbox hb;have n0_:=Z (below_step pB hb);have BK676:=Z (hbox);have GW676:=Z ((pT hg:w.heap.size≤gb676));have GE676:=Z ((pT hg:w.heap.size≤gb676));clear HB;have HB:=n0_;clear n0_ hb hbox hg;obtain ⟨hcz8_0,hfz8_0⟩:=p1 BK676)|((with_reducible refine gate_callee (f:=110) rfl ?_);refine goesL_ (some 10) rfl rfl Tryz.func110 pU rfl #[.agg #[.slice A0_0 l0_0.length c0_0],.int .i64 a1] rfl pG ?_;(with_reducible refine (danger_asked.calls k _ _ l0_0 a1 t677 _ ?side1 ?side2 A3.out).mono ?_);(case side1=>exact pC HR0_0);(case side2=>exact HC0_0.out);rintro e w9 ⟨rfl,hb⟩;refine ⟨_,rfl,?_⟩;replace BK676:=Z (blk_below (g:=gb676) (o:=.cells #[.slice A0_0 l0_0.length c0_0] 25 (0,0)) (pK BK676) hb);have n1_:=Z (below_step pB hb);clear HB;have HB:=n1_;clear n1_;(try clear hb);(try clear hb2);(try clear hk);(try clear hi);obtain ⟨hcz10_0,hfz10_0⟩:=p1 BK676)|((with_reducible refine gate_callee (f:=114) rfl ?_);refine goesL_ (some 16) rfl rfl Tryz.func114 pU rfl #[.agg #[.slice A0_0 l0_0.length c0_0],.int .i64 a1] rfl pG ?_;(with_reducible refine (deletion_Delete.calls k (fun k_=>k_ < w.heap.size) _ _ l0_0 a1 t678 _ ?side1 A5.out).mono ?_);(case side1=>exact Kd.V_mk HC0_0.out (Kd.F_below (Kd.C_F k92_heap HR0_0.out) pB));rintro e w11 ⟨v679,rfl,ho0,hb⟩;refine ⟨_,rfl,?_⟩;have HO680:=Z (Kd.V_lower (Kd.V_mono (ok':=fun k_=>k_ ≠ gb676) ho0 (fun k_ hk_=>Or.elim hk_ (fun hs_=>fun e_=>Nat.not_le.2 hs_ (by rw [e_];exact GW676.out)) (fun hn_=>(Kd.freshB (g:=gb676) (o:=.cells #[.slice A0_0 l0_0.length c0_0] 25 (0,0)) (pK BK676) k_ hn_)))) (below_size pB));replace BK676:=Z (blk_below (g:=gb676) (o:=.cells #[.slice A0_0 l0_0.length c0_0] 25 (0,0)) (pK BK676) hb);have n2_:=Z (below_step pB hb);clear HB;have HB:=n2_;clear n2_;(try clear hb);(try clear hb2);(try clear hk);(try clear hi);(try clear ho0);obtain ⟨Ao12,co12,eo12⟩:=Kd.V_slice HO680.out;subst eo12)|((with_reducible refine gate_callee (f:=113) rfl ?_);refine goesL_ (some 17) rfl rfl Tryz.func113 pU rfl #[.agg #[.slice Ao12 t678.length co12]] rfl pG ?_;(with_reducible refine (intersection_Disjoint.calls k _ _ t678 t681 t682 t683 _ ?side1 ?side2 A6.out).mono ?_);(case side1=>repeat (first|exact (Kd.V_reads' HO680.out).2.2|(with_reducible refine Kd.C_alloc ?_ _)|(with_reducible refine Kd.C_drewN ?_ _)|(with_reducible refine Kd.C_drew ?_)));(case side2=>exact (Kd.V_reads' HO680.out).2.1);rintro e w13 ⟨rfl,hb⟩;refine ⟨_,rfl,?_⟩;replace HO680:=Z (Kd.V_below (by (with_reducible repeat (first|apply Kd.V_alloc|apply Kd.V_drewN|apply Kd.V_drew));exact HO680.out) hb);replace BK676:=Z (blk_below (g:=gb676) (o:=.cells #[.slice A0_0 l0_0.length c0_0] 25 (0,0)) (pK BK676) hb);have n2_:=Z (below_step pB hb);clear HB;have HB:=n2_;clear n2_;(try clear hb);(try clear hb2);(try clear hk);(try clear hi)))
  go_ret3
  exact ⟨pF,pB⟩
 ·rw [if_neg c4] at H
  have c4b0:(t677 == 0)=false:=beq_eq_false_iff_ne.mpr c4
  have c4b1:(t677 != 0)=true:=bne_iff_ne.mpr c4
  simp only [Option.some.injEq,Prod.mk.injEq] at H
  obtain ⟨rfl,rfl,rfl⟩:=H
  go_enter Tryz.func41,Tryz.ntmps41
  go_wp2_with (first|((with_reducible refine gate_dst (N:=2) rfl ?_);refine box_event ?hg (N:=2) ?hd (cs:=#[.slice A0_0 l0_0.length c0_0]) (t:=25) ?hr ?_;(case hd=>rfl);(case hg=>rfl);(case hr=>first|(go_simp;done)|(go_simp;rfl));intro gb676 hg w14 hbox hb;have n0_:=Z (below_step pB hb);have BK676:=Z (hbox);have GW676:=Z ((pT hg:w.heap.size≤gb676));have GE676:=Z ((pT hg:w.heap.size≤gb676));clear HB;have HB:=n0_;clear n0_ hb hbox hg;obtain ⟨hcz15_0,hfz15_0⟩:=p1 BK676)|((with_reducible refine gate_callee (f:=110) rfl ?_);refine goesL_ (some 10) rfl rfl Tryz.func110 pU rfl #[.agg #[.slice A0_0 l0_0.length c0_0],.int .i64 a1] rfl pG ?_;(with_reducible refine (danger_asked.calls k _ _ l0_0 a1 t677 _ ?side1 ?side2 A3.out).mono ?_);(case side1=>exact pC HR0_0);(case side2=>exact HC0_0.out);rintro e w16 ⟨rfl,hb⟩;refine ⟨_,rfl,?_⟩;replace BK676:=Z (blk_below (g:=gb676) (o:=.cells #[.slice A0_0 l0_0.length c0_0] 25 (0,0)) (pK BK676) hb);have n1_:=Z (below_step pB hb);clear HB;have HB:=n1_;clear n1_;(try clear hb);(try clear hb2);(try clear hk);(try clear hi)))
  go_ret3
  exact ⟨pF,pB⟩
end Go.Proofs.YtkjlcbfjllpcnaaGreat.X
