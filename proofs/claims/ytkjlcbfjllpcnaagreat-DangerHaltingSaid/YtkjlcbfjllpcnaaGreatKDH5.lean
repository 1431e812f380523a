/- Proof of the statement DangerHalting: part 5 of 9, what it computes and why that answers true. -/
import Derived.Test.YtkjlcbfjllpcnaaGreatKDH4
import Derived.Deep.RegionLaw
set_option linter.unusedVariables false
set_option linter.unusedSimpArgs false
namespace Go.Proofs.YtkjlcbfjllpcnaaGreat.X
open Go.RowKit Go.Proofs.YtkjlcbfjllpcnaaGreatW.PrintWords Go.Proofs.YtkjlcbfjllpcnaaGreatW.PrintLast Go.Proofs.YtkjlcbfjllpcnaaGreatW.PrintMore
set_option linter.unusedVariables false
def deletion_copied.f (a0:Int) (a1:List Int) (a2:List S90):Option (Int × List Int × List S90):=if a1=[] then (if a2=[] then some (a0,[],[]) else none) else none
theorem step_append_void {P:Program} {ops:Array Oper} {o:Oper} {a:Act} {w:World} {K:Act→World→Prop} {Q:Exit→Act→World→Prop} {E:Prop} (hg:o.guard=none) (s x:Operand) (t e:TypeId)
  (hop:o.op=Op.call { callee:=Callee.builtin Builtin.append,args:=#[s,x],argTypes:=#[t,t] }) (ht:P.underlying t=some (.slice e)) (i:TypeInfo) (hi:P.info? e=some i) (A:Option Addr) (c:Nat) (hs:a.eval s=.slice none 0 0) (hx:a.eval x=.slice A 0 c)
  (hK:K (a.put o.dst (.slice none 0 0)) w):if Region.wanted o (yielded ops a.tmps)=true then Oper.wp P o a w K Q else E:=by
 have hw:Region.wanted o (yielded ops a.tmps)=true:=by simp [Region.wanted,hg]
 rw [if_pos hw]
 have hrun:(Builtin.append_ #[t,t] o.type #[.slice none 0 0,.slice A 0 c]).run P w=.ok (.slice none 0 0) w:=by
  cases A <;> simp [Builtin.append_,run_underlying ht,sizeOf,typeInfo,hi,Builtin.lenOf,Builtin.firstCells,loadCells,loadCellsFrom]
 unfold Oper.wp
 simp [execOp,hop,resolve,invoke,builtin,hs,hx,hrun,Result.andThen]
 exact hK
set_option maxHeartbeats 4000000 in
theorem deletion_copied.calls (a0_0:Int) (A0_1:Option Addr) (c0_1:Nat) (l0_1:List Int) (A0_2:Option Addr) (c0_2:Nat) (l0_2:List (S90)) (r1:Int) (r2:List Int) (r3:List S90) (w:World) (hr0_1:Kd.C (Kd.int .i64) w A0_1 l0_1.length l0_1) (hc0_1:l0_1.length≤c0_1) (hr0_2:Kd.C k90 w A0_2 l0_2.length l0_2) (hc0_2:l0_2.length≤c0_2) (h:deletion_copied.f a0_0 l0_1 l0_2=some (r1,r2,r3)):Calls Tryz.prog 173 #[.agg #[.int .i64 a0_0,.slice A0_1 l0_1.length c0_1,.slice A0_2 l0_2.length c0_2]] w fun e w'=>∃ v1_ v2_:Value,e=.returned (.agg #[.int .i64 r1,v1_,v2_])∧Kd.R (Kd.int .i64) 3 w' w.heap.size (fun _=>True) v1_ r2∧Kd.R k90 90 w' w.heap.size (fun k_=>some k_ ≠ (v1_:Value).ownBlock) v2_ r3∧Below w.heap.size w w':=by
 unfold deletion_copied.f at h
 by_cases h1:l0_1=[]
 case neg=>rw [if_neg h1] at h;cases h
 by_cases h2:l0_2=[]
 case neg=>rw [if_pos h1,if_neg h2] at h;cases h
 rw [if_pos h1,if_pos h2] at h
 simp only [Option.some.injEq,Prod.mk.injEq] at h
 obtain ⟨rfl,rfl,rfl⟩:=h
 subst h1
 subst h2
 have hu32:=Tryz.underlying90
 have hu27:=Tryz.underlying25
 have hu3:=Tryz.underlying3
 have hu22:=Tryz.underlying22
 clear hr0_1 hr0_2
 simp only [List.length_nil] at hc0_1 hc0_2 ⊢
 go_enter Tryz.func173,Tryz.ntmps173
 obtain ⟨i3,hi3,_⟩:=Option.map_eq_some_iff.1 info3
 go_wp2
 go_region_law (refine step_append_void rfl _ (.tmp 9) 22 3 rfl Tryz.underlying22 i3 hi3 A0_1 c0_1 rfl (by simp [Act.eval,Act.put]) ?_)
 all_goals
  obtain ⟨W,hW⟩:∃ W,W=(((w.alloc (.cells #[.int .i64 a0_0,.slice A0_1 0 c0_1,.slice A0_2 0 c0_2] 90)).alloc (.cells #[.int .i64 0,.slice none 0 0,.slice none 0 0] 90)).alloc (.cells #[.int .i64 a0_0,.slice none 0 0,.slice none 0 0] 90)).drew:=⟨_,rfl⟩
  rw [← hW]
  have hs0:W.heap[w.heap.size]?=some (.cells #[.int .i64 a0_0,.slice A0_1 0 c0_1,.slice A0_2 0 c0_2] 90 (0,0)):=by rw [hW];exact kD (kA (kA (heap_alloc_new _ _) _) _)
  have hs1:W.heap[w.heap.size+1]?=some (.cells #[.int .i64 0,.slice none 0 0,.slice none 0 0] 90 (0,0)):=by rw [hW,show w.heap.size+1=(w.alloc (.cells #[.int .i64 a0_0,.slice A0_1 0 c0_1,.slice A0_2 0 c0_2] 90)).heap.size by simp];exact kD (kA (heap_alloc_new _ _) _)
  have hs2:W.heap[w.heap.size+1+1]?=some (.cells #[.int .i64 a0_0,.slice none 0 0,.slice none 0 0] 90 (0,0)):=by rw [hW,show w.heap.size+1+1=((w.alloc (.cells #[.int .i64 a0_0,.slice A0_1 0 c0_1,.slice A0_2 0 c0_2] 90)).alloc (.cells #[.int .i64 0,.slice none 0 0,.slice none 0 0] 90)).heap.size by simp];exact kD (heap_alloc_new _ _)
  have hb:RowKit.Below w.heap.size w W:=by rw [hW];exact wD (wA (wA (wA (Below.refl _ _) _) _) _)
  clear hW
  have c0:=kC hs0 2
  have c1:=kC hs1 0
  have c2:=kC hs1 1
  have c3:=kC hs1 2
  have d1:=kC hs2 0
  have d2:=kC hs2 1
  have d3:=kC hs2 2
  have f1:=kF hs1 0
  have f2:=kF hs1 1
  have f3:=kF hs1 2
  go_wp2
  go_loopw [15] (fun i wr=>i=.int .i64 0∧wr=W) (fun _ _=>0)
  case atStart=>exact ⟨rfl,rfl⟩
  case round =>
   obtain ⟨rfl,rfl⟩:=hrel
   go_wp2
   refine bodyPost_ret (results_cell_row rfl _ _ (w.heap.size+1) 90 #[.int .i64 a0_0,.slice none 0 0,.slice none 0 0] (0,0) _ rfl ?_ Tryz.underlying90 rfl pU) rfl ?_
   ·refine blk_put (cs:=#[.int .i64 a0_0,.slice none 0 0,.slice none 0 0]) ?_ 2 _ rfl
    refine blk_put (cs:=#[.int .i64 a0_0,.slice none 0 0,.slice none 0 0]) ?_ 1 _ rfl
    exact blk_put (cs:=#[.int .i64 0,.slice none 0 0,.slice none 0 0]) hs1 0 _ rfl
   ·exact ⟨_,_,rfl,Kd.R_nil _ _ _ _ _,Kd.R_nil _ _ _ _ _,wS (wS (wS hb (by omega)) (by omega)) (by omega)⟩
end Go.Proofs.YtkjlcbfjllpcnaaGreat.X
namespace Go.Proofs.YtkjlcbfjllpcnaaGreat.X
open Go.RowKit Go.Proofs.YtkjlcbfjllpcnaaGreatW.PrintWords Go.Proofs.YtkjlcbfjllpcnaaGreatW.PrintLast Go.Proofs.YtkjlcbfjllpcnaaGreatW.PrintMore
attribute [local go_sem] max2_int min2_int max_two min_two max_three min_three max_four min_four
set_option linter.unusedVariables false
set_option linter.unusedSimpArgs false
def deletion_Trust.f (k:Nat) (a0_0:Int) (l0_1:List Int) (l0_2:List (S90)) (a1:Int) (a2:Int):Option (Int × List Int × (List (S90))):=(nodeset_Valid.f a2).bind fun t587=>(if t587=true then ((deletion_level.f k a0_0 l0_1 l0_2 a2).bind fun bt588=>(if bt588.1=0 then (some (1,(([a1]:List Int)),([]:List (S90)))) else (some (bt588.1,bt588.2.1,bt588.2.2)))) else ((deletion_copied.f a0_0 l0_1 l0_2).bind fun bt599=>(some (bt599.1,bt599.2.1,bt599.2.2))))
set_option maxHeartbeats 8000000 in
set_option maxRecDepth 100000 in
theorem deletion_Trust.calls (k:Nat) (a0_0:Int) (A0_1:Option Addr) (c0_1:Nat) (l0_1:List Int) (A0_2:Option Addr) (c0_2:Nat) (l0_2:List (S90)) (a1:Int) (a2:Int) (r1:Int) (r2:List Int) (r3:List (S90)) (w:World) (hr0_1:Kd.C (Kd.int .i64) w A0_1 l0_1.length l0_1) (hc0_1:l0_1.length≤c0_1) (hr0_2:Kd.C k90 w A0_2 l0_2.length l0_2) (hc0_2:l0_2.length≤c0_2) (h:deletion_Trust.f k a0_0 l0_1 l0_2 a1 a2=some (r1,r2,r3)) :
  Calls Tryz.prog 172 #[.agg #[.int .i64 a0_0,.slice A0_1 l0_1.length c0_1,.slice A0_2 l0_2.length c0_2],.int .i64 a1,.int .i64 a2] w fun e w'=>∃ v1_ v2_:Value,e=.returned (.agg #[.int .i64 r1,v1_,v2_])∧Kd.R (Kd.int .i64) 3 w' w.heap.size (fun _=>True) v1_ r2∧Kd.R k90 90 w' w.heap.size (fun k_=>some k_ ≠ (v1_:Value).ownBlock) v2_ r3∧Below w.heap.size w w':=by
 have hu90:=Tryz.underlying90
 have HR0_1:=Z hr0_1
 have HC0_1:=Z hc0_1
 clear hr0_1 hc0_1
 have HR0_2:=Z hr0_2
 have HC0_2:=Z hc0_2
 clear hr0_2 hc0_2
 have HB:=Z (Below.refl w.heap.size w)
 have H:((nodeset_Valid.f a2).bind fun t587=>(if t587=true then ((deletion_level.f k a0_0 l0_1 l0_2 a2).bind fun bt588=>(if bt588.1=0 then (some (1,(([a1]:List Int)),([]:List (S90)))) else (some (bt588.1,bt588.2.1,bt588.2.2)))) else ((deletion_copied.f a0_0 l0_1 l0_2).bind fun bt599=>(some (bt599.1,bt599.2.1,bt599.2.2)))))=some (r1,r2,r3):=h
 clear h
 replace H:=pO H
 obtain ⟨t587,A40,H⟩:=H
 try dsimp only at H
 have A4:=Z A40
 clear A40
 by_cases c5:t587=true
 ·subst c5
  rw [if_pos rfl] at H
  replace H:=pO H
  obtain ⟨⟨t588,t589,t592⟩,A60,H⟩:=H
  try dsimp only at H
  have A6:=Z A60
  clear A60
  by_cases c7:t588=0
  ·rw [if_pos c7] at H
   have c7b0:(t588 == 0)=true:=beq_iff_eq.mpr c7
   have c7b1:(t588 != 0)=false:=bne_eq_false_iff_eq.mpr c7
   clear c7
   obtain ⟨y596,hy596⟩:∃ y_:List Int,y_=(([a1]:List Int)):=⟨_,rfl⟩
   first|rw [← hy596] at H|(replace H:=(Option.bind_some _ _).symm.trans H;rw [← hy596] at H)
   have Ny596:=Z hy596
   clear hy596
   simp only [Option.some.injEq,Prod.mk.injEq] at H
   obtain ⟨rfl,rfl,rfl⟩:=H
   go_enter Tryz.func172,Tryz.ntmps172
   go_wp2_with (first|((with_reducible refine gate_dst (N:=3) rfl ?_);refine box_event ?hg (N:=3) ?hd (cs:=#[.int .i64 a0_0,.slice A0_1 l0_1.length c0_1,.slice A0_2 l0_2.length c0_2]) (t:=90) ?hr ?_;(case hd=>rfl);(case hg=>rfl);(case hr=>first|(go_simp;done)|(go_simp;rfl));intro gb585 hg w8 hbox hb;have n0_:=Z (below_step pB hb);have BK585:=Z (hbox);have GW585:=Z ((pT hg:w.heap.size≤gb585));have GE585:=Z ((pT hg:w.heap.size≤gb585));clear HB;have HB:=n0_;clear n0_ hb hbox hg)|((with_reducible refine gate_dst (N:=6) rfl ?_);refine box_event ?hg (N:=6) ?hd (cs:=#[.int .i64 0,.slice none 0 0,.slice none 0 0]) (t:=90) ?hr ?_;(case hd=>rfl);(case hg=>rfl);(case hr=>first|(go_simp;done)|(go_simp;rfl));intro gb586 hg w9 hbox hb;have n0_:=Z (blk_below (g:=gb585) (o:=.cells #[.int .i64 a0_0,.slice A0_1 l0_1.length c0_1,.slice A0_2 l0_2.length c0_2] 90 (0,0)) (pK BK585) hb);have n1_:=Z (below_step pB hb);have BK586:=Z (hbox);have GW586:=Z ((pT hg:w.heap.size≤gb586));have GE586:=Z ((pT hg:w.heap.size≤gb586));have NB585_586:=Z ((pL hg (pK BK585):gb585 ≠ gb586));have NB586_585:=Z ((pM hg (pK BK585):gb586 ≠ gb585));clear BK585 HB;have BK585:=n0_;have HB:=n1_;clear n0_ n1_ hb hbox hg)|((with_reducible refine gate_callee (f:=160) rfl ?_);refine goesL_ (some 9) rfl rfl Tryz.func160 pU rfl #[.int .i64 a2] rfl pG ?_;(with_reducible refine (nodeset_Valid.calls a2 true _ A4.out).mono ?_);rintro e w' ⟨rfl,⟨nd,rfl⟩⟩;refine ⟨_,rfl,?_⟩;(try (rw [drewN_self w9];generalize hq_:World.drewN w9 _=w9;have n0_:Aside0 (w9.heap[gb585]?=some (.cells #[.int .i64 a0_0,.slice A0_1 l0_1.length c0_1,.slice A0_2 l0_2.length c0_2] 90 (0,0))):=⟨by rw [← hq_];exact (pK BK585)⟩;have n1_:Aside0 (w9.heap[gb586]?=some (.cells #[.int .i64 0,.slice none 0 0,.slice none 0 0] 90 (0,0))):=⟨by rw [← hq_];exact (pK BK586)⟩;have n2_:Aside0 (Below w.heap.size w w9):=⟨by rw [← hq_];exact pB⟩;clear BK585 BK586 HB hq_;have BK585:=n0_;have BK586:=n1_;have HB:=n2_;clear n0_ n1_ n2_));have hnb10:=NB585_586.out;have hnc10:=NB586_585.out;obtain ⟨hcz11_0,hcz11_1,hcz11_2,hfz11_0,hfz11_1,hfz11_2⟩:=p3 BK585)|((with_reducible refine gate_callee (f:=202) rfl ?_);refine goesL_ (some 15) rfl rfl Tryz.func202 pU rfl #[.agg #[.int .i64 a0_0,.slice A0_1 l0_1.length c0_1,.slice A0_2 l0_2.length c0_2],.int .i64 a2] rfl pG ?_;(with_reducible refine (deletion_level.calls k a0_0 _ _ l0_1 _ _ l0_2 a2 t588 t589 t592 _ ?side1 ?side2 ?side3 ?side4 A6.out).mono ?_);(case side1=>exact pC HR0_1);(case side2=>exact HC0_1.out);(case side3=>exact pC HR0_2);(case side4=>exact HC0_2.out);rintro e w12 ⟨v590,v593,rfl,ho0,ho1,hb⟩;refine ⟨_,rfl,?_⟩;have HO591:=Z (Kd.R_lower ho0 (below_size pB));have HO594:=Z (Kd.R_lower (Kd.R_newB (Kd.R_newB ho1 (g:=gb585) (o:=.cells #[.int .i64 a0_0,.slice A0_1 l0_1.length c0_1,.slice A0_2 l0_2.length c0_2] 90 (0,0)) (pK BK585)) (g:=gb586) (o:=.cells #[.int .i64 0,.slice none 0 0,.slice none 0 0] 90 (0,0)) (pK BK586)) (below_size pB));replace BK585:=Z (blk_below (g:=gb585) (o:=.cells #[.int .i64 a0_0,.slice A0_1 l0_1.length c0_1,.slice A0_2 l0_2.length c0_2] 90 (0,0)) (pK BK585) hb);replace BK586:=Z (blk_below (g:=gb586) (o:=.cells #[.int .i64 0,.slice none 0 0,.slice none 0 0] 90 (0,0)) (pK BK586) hb);have n4_:=Z (below_step pB hb);clear HB;have HB:=n4_;clear n4_;(try clear hb);(try clear hb2);(try clear hk);(try clear hi);(try clear ho0);(try clear ho1))|((with_reducible refine gate_dst (N:=7) rfl ?_);refine box_event ?hg (N:=7) ?hd (cs:=#[.int .i64 0,.slice none 0 0,.slice none 0 0]) (t:=90) ?hr ?_;(case hd=>rfl);(case hg=>rfl);(case hr=>first|(go_simp;done)|(go_simp;rfl));intro gb595 hg w13 hbox hb;replace HO591:=Z (Kd.R_below (pR HO591) hb);replace HO594:=Z (Kd.R_below (Kd.R_elderB (pR HO594) gb595 (Nat.le_of_eq hg.symm)) hb);have n2_:=Z (blk_below (g:=gb585) (o:=.cells #[.int .i64 a0_0,.slice A0_1 l0_1.length c0_1,.slice A0_2 l0_2.length c0_2] 90 (0,0)) (pK BK585) hb);have n3_:=Z (blk_below (g:=gb586) (o:=.cells #[.int .i64 0,.slice none 0 0,.slice none 0 0] 90 (0,0)) (pK BK586) hb);have n4_:=Z (below_step pB hb);have BK595:=Z (hbox);have GW595:=Z ((pT hg:w.heap.size≤gb595));have GE595:=Z ((pT hg:w.heap.size≤gb595));have NB585_595:=Z ((pL hg (pK BK585):gb585 ≠ gb595));have NB595_585:=Z ((pM hg (pK BK585):gb595 ≠ gb585));have NB586_595:=Z ((pL hg (pK BK586):gb586 ≠ gb595));have NB595_586:=Z ((pM hg (pK BK586):gb595 ≠ gb586));clear BK585 BK586 HB;have BK585:=n2_;have BK586:=n3_;have HB:=n4_;clear n2_ n3_ n4_ hb hbox hg;have hnb14:=NB595_585.out;have hnc14:=NB585_595.out;have hnb15:=NB595_586.out;have hnc15:=NB586_595.out;obtain ⟨hcz16_0,hcz16_1,hcz16_2,hfz16_0,hfz16_1,hfz16_2⟩:=p3 BK595;obtain ⟨Ao17,co17,eo17⟩:=Kd.R_slice HO591.out;subst eo17;obtain ⟨Ao18,co18,eo18⟩:=Kd.R_slice HO594.out;subst eo18)|((with_reducible refine gate_dst (N:=20) rfl ?_);refine Kd.R_lit (Kd.int .i64) _ 3 ?hg (N:=20) ?hd (xs:=([a1]:List Int)) (inner:=[.int .i64 a1]) (ok:=fun _=>True) (okp:=fun _=>True) ?hr ?hp (fun _ hk=>hk) trivial (Below.refl _ _) (Nat.le_refl _) (by simp) ?_;(case hd=>rfl);(case hg=>rfl);(case hr=>first|(go_simp;done)|(go_simp;rfl));(case hp=>exact (Reps.one (show Kd.M (Kd.int .i64) _ _ _ a1 [.int .i64 a1] from rfl) (Reps.none _ _)));intro v597 w19 ho20 hb hg_ hnew_;clear hg_ hnew_;(first|rw [← Ny596.out] at ho20|(simp only [Int.reduceToNat] at ho20;rw [← Ny596.out] at ho20));have n0_:=Z (Kd.R_elder' (by refine pP ?_;exact (Kd.R_mono (Kd.R_far (p:=⟨gb595,2,none⟩) (Kd.R_far (p:=⟨gb595,1,none⟩) (Kd.R_far (p:=⟨gb595,0,none⟩) (Kd.R_types HO591.out BK595.out (by decide)) (fun _ hk=>hk.2) (.int .i64 t588)) (fun _ hk=>hk.2) (.slice Ao17 t589.length co17)) (fun _ hk=>hk.2) (.slice Ao18 t592.length co18)) (fun _ h_=>h_.1))) (Kd.R_base ho20) hb);replace HO594:=Z (Kd.R_elder' (by refine pP ?_;exact (Kd.R_mono (Kd.R_far (p:=⟨gb595,2,none⟩) (Kd.R_far (p:=⟨gb595,1,none⟩) (Kd.R_far (p:=⟨gb595,0,none⟩) (Kd.R_mono HO594.out (fun k_ hk=>(⟨hk,hk.2⟩:_∧k_ ≠ gb595))) (fun _ hk=>hk.2) (.int .i64 t588)) (fun _ hk=>hk.2) (.slice Ao17 t589.length co17)) (fun _ hk=>hk.2) (.slice Ao18 t592.length co18)) (fun _ h_=>h_.1))) (Kd.R_base ho20) hb);have HO598:=Z (Kd.R_lower (Kd.R_new' ho20 (Kd.R_lt (by refine pP ?_;exact (Kd.R_mono (Kd.R_far (p:=⟨gb595,2,none⟩) (Kd.R_far (p:=⟨gb595,1,none⟩) (Kd.R_far (p:=⟨gb595,0,none⟩) (Kd.R_types HO591.out BK595.out (by decide)) (fun _ hk=>hk.2) (.int .i64 t588)) (fun _ hk=>hk.2) (.slice Ao17 t589.length co17)) (fun _ hk=>hk.2) (.slice Ao18 t592.length co18)) (fun _ h_=>h_.1))))) (below_size pB));replace BK585:=Z (blk_below (g:=gb585) (o:=.cells #[.int .i64 a0_0,.slice A0_1 l0_1.length c0_1,.slice A0_2 l0_2.length c0_2] 90 (0,0)) (by refine pQ ?_;refine blk_far ?_ NB585_595.out _;refine pQ ?_;refine blk_far ?_ NB585_595.out _;refine pQ ?_;refine blk_far ?_ NB585_595.out _;exact pK BK585) hb);replace BK586:=Z (blk_below (g:=gb586) (o:=.cells #[.int .i64 0,.slice none 0 0,.slice none 0 0] 90 (0,0)) (by refine pQ ?_;refine blk_far ?_ NB586_595.out _;refine pQ ?_;refine blk_far ?_ NB586_595.out _;refine pQ ?_;refine blk_far ?_ NB586_595.out _;exact pK BK586) hb);replace BK595:=Z (blk_below (g:=gb595) (o:=.cells #[.int .i64 t588,.slice Ao17 t589.length co17,.slice Ao18 t592.length co18] 90 (0,0)) (by refine pQ ?_;refine blk_put (cs:=#[.int .i64 t588,.slice Ao17 t589.length co17,.slice none 0 0]) ?_ 2 _ rfl;refine pQ ?_;refine blk_put (cs:=#[.int .i64 t588,.slice none 0 0,.slice none 0 0]) ?_ 1 _ rfl;refine pQ ?_;refine blk_put (cs:=#[.int .i64 0,.slice none 0 0,.slice none 0 0]) ?_ 0 _ rfl;exact pK BK595) hb);have n6_:=Z (below_step pB hb);clear HO591 HB;have HO591:=n0_;have HB:=n6_;clear n0_ n6_ hb ho20;obtain ⟨Ao21,co21,eo21⟩:=Kd.R_slice HO598.out;subst eo21;obtain ⟨hcz22_0,hcz22_1,hcz22_2,hfz22_0,hfz22_1,hfz22_2⟩:=p3 BK586))
   refine bodyPost_ret (results_cell_row rfl _ _ gb586 90 #[.int .i64 1,.slice Ao21 y596.length co21,.slice none 0 0] (0,0) _ rfl (by refine pQ ?_;refine blk_put (cs:=#[.int .i64 1,.slice Ao21 y596.length co21,.slice none 0 0]) ?_ 2 _ rfl;refine pQ ?_;refine blk_put (cs:=#[.int .i64 1,.slice none 0 0,.slice none 0 0]) ?_ 1 _ rfl;refine pQ ?_;refine blk_put (cs:=#[.int .i64 0,.slice none 0 0,.slice none 0 0]) ?_ 0 _ rfl;exact pK BK586) Tryz.underlying90 rfl pU) rfl ?_
   exact ⟨_,_,pF,by refine pP ?_;exact Kd.R_mono (Kd.R_far (p:=⟨gb586,2,none⟩) (Kd.R_far (p:=⟨gb586,1,none⟩) (Kd.R_far (p:=⟨gb586,0,none⟩) (Kd.R_types HO598.out BK586.out (by decide)) (fun _ hk=>hk.2) (.int .i64 1)) (fun _ hk=>hk.2) (.slice Ao21 y596.length co21)) (fun _ hk=>hk.2) (.slice none 0 0)) (fun _ hk=>trivial),pN,pB⟩
  ·rw [if_neg c7] at H
   have c7b0:(t588 == 0)=false:=beq_eq_false_iff_ne.mpr c7
   have c7b1:(t588 != 0)=true:=bne_iff_ne.mpr c7
   simp only [Option.some.injEq,Prod.mk.injEq] at H
   obtain ⟨rfl,rfl,rfl⟩:=H
   go_enter Tryz.func172,Tryz.ntmps172
   go_wp2_with (first|((with_reducible refine gate_dst (N:=3) rfl ?_);refine box_event ?hg (N:=3) ?hd (cs:=#[.int .i64 a0_0,.slice A0_1 l0_1.length c0_1,.slice A0_2 l0_2.length c0_2]) (t:=90) ?hr ?_;(case hd=>rfl);(case hg=>rfl);(case hr=>first|(go_simp;done)|(go_simp;rfl));intro gb585 hg w23 hbox hb;have n0_:=Z (below_step pB hb);have BK585:=Z (hbox);have GW585:=Z ((pT hg:w.heap.size≤gb585));have GE585:=Z ((pT hg:w.heap.size≤gb585));clear HB;have HB:=n0_;clear n0_ hb hbox hg)|((with_reducible refine gate_dst (N:=6) rfl ?_);refine box_event ?hg (N:=6) ?hd (cs:=#[.int .i64 0,.slice none 0 0,.slice none 0 0]) (t:=90) ?hr ?_;(case hd=>rfl);(case hg=>rfl);(case hr=>first|(go_simp;done)|(go_simp;rfl));intro gb586 hg w24 hbox hb;have n0_:=Z (blk_below (g:=gb585) (o:=.cells #[.int .i64 a0_0,.slice A0_1 l0_1.length c0_1,.slice A0_2 l0_2.length c0_2] 90 (0,0)) (pK BK585) hb);have n1_:=Z (below_step pB hb);have BK586:=Z (hbox);have GW586:=Z ((pT hg:w.heap.size≤gb586));have GE586:=Z ((pT hg:w.heap.size≤gb586));have NB585_586:=Z ((pL hg (pK BK585):gb585 ≠ gb586));have NB586_585:=Z ((pM hg (pK BK585):gb586 ≠ gb585));clear BK585 HB;have BK585:=n0_;have HB:=n1_;clear n0_ n1_ hb hbox hg)|((with_reducible refine gate_callee (f:=160) rfl ?_);refine goesL_ (some 9) rfl rfl Tryz.func160 pU rfl #[.int .i64 a2] rfl pG ?_;(with_reducible refine (nodeset_Valid.calls a2 true _ A4.out).mono ?_);rintro e w' ⟨rfl,⟨nd,rfl⟩⟩;refine ⟨_,rfl,?_⟩;(try (rw [drewN_self w24];generalize hq_:World.drewN w24 _=w24;have n0_:Aside0 (w24.heap[gb585]?=some (.cells #[.int .i64 a0_0,.slice A0_1 l0_1.length c0_1,.slice A0_2 l0_2.length c0_2] 90 (0,0))):=⟨by rw [← hq_];exact (pK BK585)⟩;have n1_:Aside0 (w24.heap[gb586]?=some (.cells #[.int .i64 0,.slice none 0 0,.slice none 0 0] 90 (0,0))):=⟨by rw [← hq_];exact (pK BK586)⟩;have n2_:Aside0 (Below w.heap.size w w24):=⟨by rw [← hq_];exact pB⟩;clear BK585 BK586 HB hq_;have BK585:=n0_;have BK586:=n1_;have HB:=n2_;clear n0_ n1_ n2_));have hnb25:=NB585_586.out;have hnc25:=NB586_585.out;obtain ⟨hcz26_0,hcz26_1,hcz26_2,hfz26_0,hfz26_1,hfz26_2⟩:=p3 BK585)|((with_reducible refine gate_callee (f:=202) rfl ?_);refine goesL_ (some 15) rfl rfl Tryz.func202 pU rfl #[.agg #[.int .i64 a0_0,.slice A0_1 l0_1.length c0_1,.slice A0_2 l0_2.length c0_2],.int .i64 a2] rfl pG ?_;(with_reducible refine (deletion_level.calls k a0_0 _ _ l0_1 _ _ l0_2 a2 t588 t589 t592 _ ?side1 ?side2 ?side3 ?side4 A6.out).mono ?_);(case side1=>exact pC HR0_1);(case side2=>exact HC0_1.out);(case side3=>exact pC HR0_2);(case side4=>exact HC0_2.out);rintro e w27 ⟨v590,v593,rfl,ho0,ho1,hb⟩;refine ⟨_,rfl,?_⟩;have HO591:=Z (Kd.R_lower ho0 (below_size pB));have HO594:=Z (Kd.R_lower (Kd.R_newB (Kd.R_newB ho1 (g:=gb585) (o:=.cells #[.int .i64 a0_0,.slice A0_1 l0_1.length c0_1,.slice A0_2 l0_2.length c0_2] 90 (0,0)) (pK BK585)) (g:=gb586) (o:=.cells #[.int .i64 0,.slice none 0 0,.slice none 0 0] 90 (0,0)) (pK BK586)) (below_size pB));replace BK585:=Z (blk_below (g:=gb585) (o:=.cells #[.int .i64 a0_0,.slice A0_1 l0_1.length c0_1,.slice A0_2 l0_2.length c0_2] 90 (0,0)) (pK BK585) hb);replace BK586:=Z (blk_below (g:=gb586) (o:=.cells #[.int .i64 0,.slice none 0 0,.slice none 0 0] 90 (0,0)) (pK BK586) hb);have n4_:=Z (below_step pB hb);clear HB;have HB:=n4_;clear n4_;(try clear hb);(try clear hb2);(try clear hk);(try clear hi);(try clear ho0);(try clear ho1))|((with_reducible refine gate_dst (N:=7) rfl ?_);refine box_event ?hg (N:=7) ?hd (cs:=#[.int .i64 0,.slice none 0 0,.slice none 0 0]) (t:=90) ?hr ?_;(case hd=>rfl);(case hg=>rfl);(case hr=>first|(go_simp;done)|(go_simp;rfl));intro gb595 hg w28 hbox hb;replace HO591:=Z (Kd.R_below (pR HO591) hb);replace HO594:=Z (Kd.R_below (Kd.R_elderB (pR HO594) gb595 (Nat.le_of_eq hg.symm)) hb);have n2_:=Z (blk_below (g:=gb585) (o:=.cells #[.int .i64 a0_0,.slice A0_1 l0_1.length c0_1,.slice A0_2 l0_2.length c0_2] 90 (0,0)) (pK BK585) hb);have n3_:=Z (blk_below (g:=gb586) (o:=.cells #[.int .i64 0,.slice none 0 0,.slice none 0 0] 90 (0,0)) (pK BK586) hb);have n4_:=Z (below_step pB hb);have BK595:=Z (hbox);have GW595:=Z ((pT hg:w.heap.size≤gb595));have GE595:=Z ((pT hg:w.heap.size≤gb595));have NB585_595:=Z ((pL hg (pK BK585):gb585 ≠ gb595));have NB595_585:=Z ((pM hg (pK BK585):gb595 ≠ gb585));have NB586_595:=Z ((pL hg (pK BK586):gb586 ≠ gb595));have NB595_586:=Z ((pM hg (pK BK586):gb595 ≠ gb586));clear BK585 BK586 HB;have BK585:=n2_;have BK586:=n3_;have HB:=n4_;clear n2_ n3_ n4_ hb hbox hg;have hnb29:=NB595_585.out;have hnc29:=NB585_595.out;have hnb30:=NB595_586.out;have hnc30:=NB586_595.out;obtain ⟨hcz31_0,hcz31_1,hcz31_2,hfz31_0,hfz31_1,hfz31_2⟩:=p3 BK595;obtain ⟨Ao32,co32,eo32⟩:=Kd.R_slice HO591.out;subst eo32;obtain ⟨Ao33,co33,eo33⟩:=Kd.R_slice HO594.out;subst eo33;obtain ⟨hcz34_0,hcz34_1,hcz34_2,hfz34_0,hfz34_1,hfz34_2⟩:=p3 BK586))
   refine bodyPost_ret (results_cell_row rfl _ _ gb586 90 #[.int .i64 t588,.slice Ao32 t589.length co32,.slice Ao33 t592.length co33] (0,0) _ rfl (by refine pQ ?_;refine blk_put (cs:=#[.int .i64 t588,.slice Ao32 t589.length co32,.slice none 0 0]) ?_ 2 _ rfl;refine pQ ?_;refine blk_put (cs:=#[.int .i64 t588,.slice none 0 0,.slice none 0 0]) ?_ 1 _ rfl;refine pQ ?_;refine blk_put (cs:=#[.int .i64 0,.slice none 0 0,.slice none 0 0]) ?_ 0 _ rfl;refine pQ ?_;refine blk_far ?_ NB586_595.out _;refine pQ ?_;refine blk_far ?_ NB586_595.out _;refine pQ ?_;refine blk_far ?_ NB586_595.out _;exact pK BK586) Tryz.underlying90 rfl pU) rfl ?_
   exact ⟨_,_,pF,by refine pP ?_;exact Kd.R_mono (Kd.R_far (p:=⟨gb586,2,none⟩) (Kd.R_far (p:=⟨gb586,1,none⟩) (Kd.R_far (p:=⟨gb586,0,none⟩) (Kd.R_far (p:=⟨gb595,2,none⟩) (Kd.R_far (p:=⟨gb595,1,none⟩) (Kd.R_far (p:=⟨gb595,0,none⟩) (Kd.R_types (Kd.R_types HO591.out BK595.out (by decide)) BK586.out (by decide)) (fun _ hk=>hk.1.2) (.int .i64 t588)) (fun _ hk=>hk.1.2) (.slice Ao32 t589.length co32)) (fun _ hk=>hk.1.2) (.slice Ao33 t592.length co33)) (fun _ hk=>hk.2) (.int .i64 t588)) (fun _ hk=>hk.2) (.slice Ao32 t589.length co32)) (fun _ hk=>hk.2) (.slice Ao33 t592.length co33)) (fun _ hk=>trivial),by refine pP ?_;exact Kd.R_mono (Kd.R_far (p:=⟨gb586,2,none⟩) (Kd.R_far (p:=⟨gb586,1,none⟩) (Kd.R_far (p:=⟨gb586,0,none⟩) (Kd.R_far (p:=⟨gb595,2,none⟩) (Kd.R_far (p:=⟨gb595,1,none⟩) (Kd.R_far (p:=⟨gb595,0,none⟩) (Kd.R_mono (Kd.R_mono HO594.out (fun k_ hk=>(⟨hk,hk.2⟩:_∧k_ ≠ gb595))) (fun k_ hk=>(⟨hk,hk.1.1.2⟩:_∧k_ ≠ gb586))) (fun _ hk=>hk.1.2) (.int .i64 t588)) (fun _ hk=>hk.1.2) (.slice Ao32 t589.length co32)) (fun _ hk=>hk.1.2) (.slice Ao33 t592.length co33)) (fun _ hk=>hk.2) (.int .i64 t588)) (fun _ hk=>hk.2) (.slice Ao32 t589.length co32)) (fun _ hk=>hk.2) (.slice Ao33 t592.length co33)) (fun _ hk=>hk.1.1.1.1.1),pB⟩
 ·replace c5:=Bool.eq_false_iff.mpr c5
  subst c5
  rw [if_neg (show ¬ (false=true) by decide)] at H
  replace H:=pO H
  obtain ⟨⟨t599,t600,t603⟩,A350,H⟩:=H
  try dsimp only at H
  have A35:=Z A350
  clear A350
  simp only [Option.some.injEq,Prod.mk.injEq] at H
  obtain ⟨rfl,rfl,rfl⟩:=H
  go_enter Tryz.func172,Tryz.ntmps172
  go_wp2_with (first|((with_reducible refine gate_dst (N:=3) rfl ?_);refine box_event ?hg (N:=3) ?hd (cs:=#[.int .i64 a0_0,.slice A0_1 l0_1.length c0_1,.slice A0_2 l0_2.length c0_2]) (t:=90) ?hr ?_;(case hd=>rfl);(case hg=>rfl);(case hr=>first|(go_simp;done)|(go_simp;rfl));intro gb585 hg w36 hbox hb;have n0_:=Z (below_step pB hb);have BK585:=Z (hbox);have GW585:=Z ((pT hg:w.heap.size≤gb585));have GE585:=Z ((pT hg:w.heap.size≤gb585));clear HB;have HB:=n0_;clear n0_ hb hbox hg)|((with_reducible refine gate_dst (N:=6) rfl ?_);refine box_event ?hg (N:=6) ?hd (cs:=#[.int .i64 0,.slice none 0 0,.slice none 0 0]) (t:=90) ?hr ?_;(case hd=>rfl);(case hg=>rfl);(case hr=>first|(go_simp;done)|(go_simp;rfl));intro gb586 hg w37 hbox hb;have n0_:=Z (blk_below (g:=gb585) (o:=.cells #[.int .i64 a0_0,.slice A0_1 l0_1.length c0_1,.slice A0_2 l0_2.length c0_2] 90 (0,0)) (pK BK585) hb);have n1_:=Z (below_step pB hb);have BK586:=Z (hbox);have GW586:=Z ((pT hg:w.heap.size≤gb586));have GE586:=Z ((pT hg:w.heap.size≤gb586));have NB585_586:=Z ((pL hg (pK BK585):gb585 ≠ gb586));have NB586_585:=Z ((pM hg (pK BK585):gb586 ≠ gb585));clear BK585 HB;have BK585:=n0_;have HB:=n1_;clear n0_ n1_ hb hbox hg)|((with_reducible refine gate_callee (f:=160) rfl ?_);refine goesL_ (some 9) rfl rfl Tryz.func160 pU rfl #[.int .i64 a2] rfl pG ?_;(with_reducible refine (nodeset_Valid.calls a2 false _ A4.out).mono ?_);rintro e w' ⟨rfl,⟨nd,rfl⟩⟩;refine ⟨_,rfl,?_⟩;(try (rw [drewN_self w37];generalize hq_:World.drewN w37 _=w37;have n0_:Aside0 (w37.heap[gb585]?=some (.cells #[.int .i64 a0_0,.slice A0_1 l0_1.length c0_1,.slice A0_2 l0_2.length c0_2] 90 (0,0))):=⟨by rw [← hq_];exact (pK BK585)⟩;have n1_:Aside0 (w37.heap[gb586]?=some (.cells #[.int .i64 0,.slice none 0 0,.slice none 0 0] 90 (0,0))):=⟨by rw [← hq_];exact (pK BK586)⟩;have n2_:Aside0 (Below w.heap.size w w37):=⟨by rw [← hq_];exact pB⟩;clear BK585 BK586 HB hq_;have BK585:=n0_;have BK586:=n1_;have HB:=n2_;clear n0_ n1_ n2_));have hnb38:=NB585_586.out;have hnc38:=NB586_585.out;obtain ⟨hcz39_0,hcz39_1,hcz39_2,hfz39_0,hfz39_1,hfz39_2⟩:=p3 BK585)|((with_reducible refine gate_callee (f:=173) rfl ?_);refine goesL_ (some 12) rfl rfl Tryz.func173 pU rfl #[.agg #[.int .i64 a0_0,.slice A0_1 l0_1.length c0_1,.slice A0_2 l0_2.length c0_2]] rfl pG ?_;(with_reducible refine (deletion_copied.calls a0_0 _ _ l0_1 _ _ l0_2 t599 t600 t603 _ ?side1 ?side2 ?side3 ?side4 A35.out).mono ?_);(case side1=>exact pC HR0_1);(case side2=>exact HC0_1.out);(case side3=>exact pC HR0_2);(case side4=>exact HC0_2.out);rintro e w40 ⟨v601,v604,rfl,ho0,ho1,hb⟩;refine ⟨_,rfl,?_⟩;have HO602:=Z (Kd.R_lower ho0 (below_size pB));have HO605:=Z (Kd.R_lower (Kd.R_newB (Kd.R_newB ho1 (g:=gb585) (o:=.cells #[.int .i64 a0_0,.slice A0_1 l0_1.length c0_1,.slice A0_2 l0_2.length c0_2] 90 (0,0)) (pK BK585)) (g:=gb586) (o:=.cells #[.int .i64 0,.slice none 0 0,.slice none 0 0] 90 (0,0)) (pK BK586)) (below_size pB));replace BK585:=Z (blk_below (g:=gb585) (o:=.cells #[.int .i64 a0_0,.slice A0_1 l0_1.length c0_1,.slice A0_2 l0_2.length c0_2] 90 (0,0)) (pK BK585) hb);replace BK586:=Z (blk_below (g:=gb586) (o:=.cells #[.int .i64 0,.slice none 0 0,.slice none 0 0] 90 (0,0)) (pK BK586) hb);have n4_:=Z (below_step pB hb);clear HB;have HB:=n4_;clear n4_;(try clear hb);(try clear hb2);(try clear hk);(try clear hi);(try clear ho0);(try clear ho1);obtain ⟨hcz41_0,hcz41_1,hcz41_2,hfz41_0,hfz41_1,hfz41_2⟩:=p3 BK586;obtain ⟨Ao42,co42,eo42⟩:=Kd.R_slice HO602.out;subst eo42;obtain ⟨Ao43,co43,eo43⟩:=Kd.R_slice HO605.out;subst eo43))
  refine bodyPost_ret (results_cell_row rfl _ _ gb586 90 #[.int .i64 t599,.slice Ao42 t600.length co42,.slice Ao43 t603.length co43] (0,0) _ rfl (by refine pQ ?_;refine blk_put (cs:=#[.int .i64 t599,.slice Ao42 t600.length co42,.slice none 0 0]) ?_ 2 _ rfl;refine pQ ?_;refine blk_put (cs:=#[.int .i64 t599,.slice none 0 0,.slice none 0 0]) ?_ 1 _ rfl;refine pQ ?_;refine blk_put (cs:=#[.int .i64 0,.slice none 0 0,.slice none 0 0]) ?_ 0 _ rfl;exact pK BK586) Tryz.underlying90 rfl pU) rfl ?_
  exact ⟨_,_,pF,by refine pP ?_;exact Kd.R_mono (Kd.R_far (p:=⟨gb586,2,none⟩) (Kd.R_far (p:=⟨gb586,1,none⟩) (Kd.R_far (p:=⟨gb586,0,none⟩) (Kd.R_types HO602.out BK586.out (by decide)) (fun _ hk=>hk.2) (.int .i64 t599)) (fun _ hk=>hk.2) (.slice Ao42 t600.length co42)) (fun _ hk=>hk.2) (.slice Ao43 t603.length co43)) (fun _ hk=>trivial),by refine pP ?_;exact Kd.R_mono (Kd.R_far (p:=⟨gb586,2,none⟩) (Kd.R_far (p:=⟨gb586,1,none⟩) (Kd.R_far (p:=⟨gb586,0,none⟩) (Kd.R_mono HO605.out (fun k_ hk=>(⟨hk,hk.2⟩:_∧k_ ≠ gb586))) (fun _ hk=>hk.2) (.int .i64 t599)) (fun _ hk=>hk.2) (.slice Ao42 t600.length co42)) (fun _ hk=>hk.2) (.slice Ao43 t603.length co43)) (fun _ hk=>hk.1.1.1),pB⟩
theorem wpList_fresh {P:Program} {ops:Array Oper} {rest:List Oper} {a:Act} {Q:Exit→Act→World→Prop} {W:World} (F:World→Prop) (hF:F W) (h:∀ W1,F W1→wpList P ops Q rest a W1):wpList P ops Q rest a W:=h W hF
def deletion_Delete.l0:Nat→Int→List (S92)→Int→Int→List (S92)→Option ((List (S92)))
 | 0,_,_,_,_,_=>none
 | k+1,x1,x9,x10,x11,x609000=>if x11 < x10 then (if 0≤x11 then (if x11 < (x9.length:Int) then ((nodeset_Has.f x1 x11).bind fun t611=>(if t611=true then (if x609000.length < 2199023255552 then (deletion_Delete.l0 k x1 x9 x10 (wrap64 (x11+1)) (x609000++[(⟨false,(⟨0,([]:List Int),([]:List (S90))⟩:S90)⟩:S92)])) else (none)) else (if (rd_T92 x9 x11).f0=true then ((deletion_Trust.f k ((rd_T92 x9 x11).f1.f0) ((rd_T92 x9 x11).f1.f1) ((rd_T92 x9 x11).f1.f2) x11 x1).bind fun bt615=>(if x609000.length < 2199023255552 then (deletion_Delete.l0 k x1 x9 x10 (wrap64 (x11+1)) (x609000++[(⟨(rd_T92 x9 x11).f0,(⟨bt615.1,bt615.2.1,bt615.2.2⟩:S90)⟩:S92)])) else (none))) else ((deletion_copied.f ((rd_T92 x9 x11).f1.f0) ((rd_T92 x9 x11).f1.f1) ((rd_T92 x9 x11).f1.f2)).bind fun bt625=>(if x609000.length < 2199023255552 then (deletion_Delete.l0 k x1 x9 x10 (wrap64 (x11+1)) (x609000++[(⟨(rd_T92 x9 x11).f0,(⟨bt625.1,bt625.2.1,bt625.2.2⟩:S90)⟩:S92)])) else (none)))))) else (none)) else (none)) else (some x609000)
def deletion_Delete.f (k:Nat) (l0_0:List (S92)) (a1:Int):Option ((List (S92))):=deletion_Delete.l0 k a1 l0_0 (l0_0.length:Int) 0 ([]:List (S92))
set_option maxHeartbeats 8000000 in
set_option maxRecDepth 100000 in
theorem deletion_Delete.calls (k:Nat) (A0_0:Option Addr) (c0_0:Nat) (l0_0:List (S92)) (a1:Int) (r:List (S92)) (w:World) (hr0_0:Kd.C k92 w A0_0 l0_0.length l0_0) (hc0_0:l0_0.length≤c0_0) (h:deletion_Delete.f k l0_0 a1=some r) :
  Calls Tryz.prog 114 #[.agg #[.slice A0_0 l0_0.length c0_0],.int .i64 a1] w fun e w'=>∃ v0_:Value,e=.returned (.agg #[v0_])∧Kd.R k92 92 w' w.heap.size (fun _=>True) v0_ r∧Below w.heap.size w w':=by
 have hu25:=Tryz.underlying25
 have hu92:=Tryz.underlying92
 have hu90:=Tryz.underlying90
 have HR0_0:=Z hr0_0
 have HC0_0:=Z hc0_0
 clear hr0_0 hc0_0
 have HB:=Z (Below.refl w.heap.size w)
 have H:(deletion_Delete.l0 k a1 l0_0 (l0_0.length:Int) 0 ([]:List (S92)))=some r:=h
 clear h
 have H':=Z H
 clear H
 go_enter Tryz.func114,Tryz.ntmps114
 go_wp2_with (first|((with_reducible refine gate_dst (N:=2) rfl ?_);refine box_event ?hg (N:=2) ?hd (cs:=#[.slice A0_0 l0_0.length c0_0]) (t:=25) ?hr ?_;(case hd=>rfl);(case hg=>rfl);(case hr=>first|(go_simp;done)|(go_simp;rfl));intro gb606 hg w3 hbox hb;have n0_:=Z (below_step pB hb);have BK606:=Z (hbox);have GW606:=Z ((pT hg:w.heap.size≤gb606));have GE606:=Z ((pT hg:w.heap.size≤gb606));clear HB;have HB:=n0_;clear n0_ hb hbox hg)|((with_reducible refine gate_dst (N:=4) rfl ?_);refine box_event ?hg (N:=4) ?hd (cs:=#[.slice none 0 0]) (t:=25) ?hr ?_;(case hd=>rfl);(case hg=>rfl);(case hr=>first|(go_simp;done)|(go_simp;rfl));intro gb607 hg w4 hbox hb;have n0_:=Z (blk_below (g:=gb606) (o:=.cells #[.slice A0_0 l0_0.length c0_0] 25 (0,0)) (pK BK606) hb);have n1_:=Z (below_step pB hb);have BK607:=Z (hbox);have GW607:=Z ((pT hg:w.heap.size≤gb607));have GE607:=Z ((pT hg:w.heap.size≤gb607));have NB606_607:=Z ((pL hg (pK BK606):gb606 ≠ gb607));have NB607_606:=Z ((pM hg (pK BK606):gb607 ≠ gb606));clear BK606 HB;have BK606:=n0_;have HB:=n1_;clear n0_ n1_ hb hbox hg)|((with_reducible refine gate_dst (N:=5) rfl ?_);refine box_event ?hg (N:=5) ?hd (cs:=#[.slice none 0 0]) (t:=25) ?hr ?_;(case hd=>rfl);(case hg=>rfl);(case hr=>first|(go_simp;done)|(go_simp;rfl));intro gb608 hg w5 hbox hb;have n0_:=Z (blk_below (g:=gb606) (o:=.cells #[.slice A0_0 l0_0.length c0_0] 25 (0,0)) (pK BK606) hb);have n1_:=Z (blk_below (g:=gb607) (o:=.cells #[.slice none 0 0] 25 (0,0)) (pK BK607) hb);have n2_:=Z (below_step pB hb);have BK608:=Z (hbox);have GW608:=Z ((pT hg:w.heap.size≤gb608));have GE608:=Z ((pT hg:w.heap.size≤gb608));have NB606_608:=Z ((pL hg (pK BK606):gb606 ≠ gb608));have NB608_606:=Z ((pM hg (pK BK606):gb608 ≠ gb606));have NB607_608:=Z ((pL hg (pK BK607):gb607 ≠ gb608));have NB608_607:=Z ((pM hg (pK BK607):gb608 ≠ gb607));clear BK606 BK607 HB;have BK606:=n0_;have BK607:=n1_;have HB:=n2_;clear n0_ n1_ n2_ hb hbox hg;have hnb6:=NB606_607.out;have hnc6:=NB607_606.out;have hnb7:=NB606_608.out;have hnc7:=NB608_606.out;obtain ⟨hcz8_0,hfz8_0⟩:=p1 BK606))
 go_loopg [11] k (fun kq v11 w'=>∃ (x11_1:Int) (x609000_1:List (S92)) (u609000:Value),v11=.int .i64 x11_1∧Aside0 (deletion_Delete.l0 kq a1 l0_0 (l0_0.length:Int) x11_1 x609000_1=some r)∧Aside0 (kq≤k)∧Aside0 (Kd.R k92 92 w' w.heap.size (fun _=>True) u609000 x609000_1)∧Aside0 (w'.heap[gb606]?=some (.cells #[(.slice A0_0 l0_0.length c0_0)] 25 (0,0)))∧Aside0 (w'.heap[gb607]?=some (.cells #[(.slice none 0 0)] 25 (0,0)))∧Aside0 (w'.heap[gb608]?=some (.cells #[u609000] 25 (0,0)))∧Aside0 (Below w.heap.size w w'))
 case atStart=>exact ⟨(0),(([]:List (S92))),(.slice none 0 0),pE,H',⟨Nat.le_refl _⟩,⟨pN⟩,⟨pK BK606⟩,⟨pK BK607⟩,⟨pK BK608⟩,⟨pB⟩⟩
 case round =>
  clear H'
  try clear c1
  try clear p2
  try clear c6
  try clear c7
  try clear hcz8_0
  try clear hfz8_0
  obtain ⟨x11_1,x609000_1,u609000,rfl,HA,HK1,HO_609000,BK606,BK607,BK608,HB⟩:=hrel
  cases gk with
  | zero=>exact absurd HA.out (by simp [deletion_Delete.l0])
  | succ k1 =>
   have H:=HA.out
   clear HA
   simp only [deletion_Delete.l0] at H
   by_cases c9:x11_1 < (l0_0.length:Int)
   ·rw [if_pos c9] at H
    have c9b0:decide (x11_1 < (l0_0.length:Int))=true:=decide_eq_true c9
    clear c9
    by_cases c10:0≤x11_1
    ·rw [if_pos c10] at H
     have c10b0:decide (0≤x11_1)=true:=decide_eq_true c10
     clear c10
     by_cases c11:x11_1 < (l0_0.length:Int)
     ·rw [if_pos c11] at H
      have c11b0:decide (x11_1 < (l0_0.length:Int))=true:=decide_eq_true c11
      clear c11
      replace H:=pO H
      obtain ⟨t611,A120,H⟩:=H
      try dsimp only at H
      have A12:=Z A120
      clear A120
      by_cases c13:t611=true
      ·subst c13
       rw [if_pos rfl] at H
       by_cases c14:x609000_1.length < 2199023255552
       ·rw [if_pos c14] at H
        have LMc14:=Z c14
        clear c14
        obtain ⟨y612,hy612⟩:∃ y_:List (S92),y_=(x609000_1++[(⟨false,(⟨0,([]:List Int),([]:List (S90))⟩:S90)⟩:S92)]):=⟨_,rfl⟩
        first|rw [← hy612] at H|(replace H:=(Option.bind_some _ _).symm.trans H;rw [← hy612] at H)
        have Ny612:=Z hy612
        clear hy612
        have H':=Z H
        clear H
        have p609:0≤(x11_1:Int):=of_decide_eq_true pA
        have q609:x11_1 < (l0_0.length:Int):=of_decide_eq_true pA
        obtain ⟨ad609,A609_2,c609_2,A609_3,c609_3,e609,hx609_0,hx609_1,hx609_2,hx609_3,hl609_2,hi609_2,hl609_3,hi609_3⟩:=at_T92 HR0_0.out x11_1 p609 q609
        cases e609
        replace hx609_0:=pX HB hx609_0
        replace hx609_1:=pX HB hx609_1
        replace hx609_2:=pX HB hx609_2
        replace hx609_3:=pX HB hx609_3
        have HR609_2:=Z hi609_2
        have HC609_2:=Z hl609_2
        clear hi609_2 hl609_2
        have HR609_3:=Z hi609_3
        have HC609_3:=Z hl609_3
        clear hi609_3 hl609_3
        replace p609:=eq_true p609
        replace q609:=eq_true q609
        go_wp2_with (first|((with_reducible refine gate_dst (N:=7) rfl ?_);refine box_event ?hg (N:=7) ?hd (cs:=#[.bool false,.int .i64 0,.slice none 0 0,.slice none 0 0]) (t:=92) ?hr ?_;(case hd=>rfl);(case hg=>rfl);(case hr=>first|(go_simp;done)|(go_simp;rfl));intro gb610 hg w15 hbox hb;replace HO_609000:=Z (Kd.R_below (Kd.R_elderB (pR HO_609000) gb610 (Nat.le_of_eq hg.symm)) hb);have n1_:=Z (blk_below (g:=gb606) (o:=.cells #[.slice (some ad609) l0_0.length c0_0] 25 (0,0)) (pK BK606) hb);have n2_:=Z (blk_below (g:=gb607) (o:=.cells #[.slice none 0 0] 25 (0,0)) (pK BK607) hb);have n3_:=Z (blk_below (g:=gb608) (o:=.cells #[u609000] 25 (0,0)) (pK BK608) hb);have n4_:=Z (below_step pB hb);have BK610:=Z (hbox);have GW610:=Z ((pT hg:w.heap.size≤gb610));have GE610:=Z ((pT hg:w.heap.size≤gb610));have NB606_610:=Z ((pL hg (pK BK606):gb606 ≠ gb610));have NB610_606:=Z ((pM hg (pK BK606):gb610 ≠ gb606));have NB607_610:=Z ((pL hg (pK BK607):gb607 ≠ gb610));have NB610_607:=Z ((pM hg (pK BK607):gb610 ≠ gb607));have NB608_610:=Z ((pL hg (pK BK608):gb608 ≠ gb610));have NB610_608:=Z ((pM hg (pK BK608):gb610 ≠ gb608));clear BK606 BK607 BK608 HB;have BK606:=n1_;have BK607:=n2_;have BK608:=n3_;have HB:=n4_;clear n1_ n2_ n3_ n4_ hb hbox hg;have hnb16:=NB610_606.out;have hnc16:=NB606_610.out;have hnb17:=NB610_607.out;have hnc17:=NB607_610.out;have hnb18:=NB610_608.out;have hnc18:=NB608_610.out;obtain ⟨hcz19_0,hcz19_1,hcz19_2,hcz19_3,hfz19_0,hfz19_1,hfz19_2,hfz19_3⟩:=p4 BK610)|((with_reducible refine gate_callee (f:=104) rfl ?_);refine goesL_ (some 23) rfl rfl Tryz.func104 pU rfl #[.int .i64 a1,.int .i64 x11_1] rfl pG ?_;(with_reducible refine (nodeset_Has.calls a1 x11_1 true _ A12.out).mono ?_);rintro e w' ⟨rfl,⟨nd,rfl⟩⟩;refine ⟨_,rfl,?_⟩;refine wpList_fresh (fun W1=>W1.heap[gb606]?=some (.cells #[.slice (some ad609) l0_0.length c0_0] 25 (0,0))∧W1.heap[gb607]?=some (.cells #[.slice none 0 0] 25 (0,0))∧W1.heap[gb608]?=some (.cells #[u609000] 25 (0,0))∧W1.heap[gb610]?=some (.cells #[.bool ((rd_T92 l0_0 x11_1).f0),.int .i64 ((rd_T92 l0_0 x11_1).f1.f0),.slice A609_2 ((rd_T92 l0_0 x11_1).f1.f1).length c609_2,.slice A609_3 ((rd_T92 l0_0 x11_1).f1.f2).length c609_3] 92 (0,0))∧Kd.R k92 92 W1 w.heap.size (fun k_=>True∧k_ ≠ gb610) u609000 x609000_1∧Below w.heap.size w W1) ⟨by refine pQ ?_;refine blk_far ?_ NB606_610.out _;refine pQ ?_;refine blk_far ?_ NB606_610.out _;refine pQ ?_;refine blk_far ?_ NB606_610.out _;refine pQ ?_;refine blk_far ?_ NB606_610.out _;exact pK BK606,by refine pQ ?_;refine blk_far ?_ NB607_610.out _;refine pQ ?_;refine blk_far ?_ NB607_610.out _;refine pQ ?_;refine blk_far ?_ NB607_610.out _;refine pQ ?_;refine blk_far ?_ NB607_610.out _;exact pK BK607,by refine pQ ?_;refine blk_far ?_ NB608_610.out _;refine pQ ?_;refine blk_far ?_ NB608_610.out _;refine pQ ?_;refine blk_far ?_ NB608_610.out _;refine pQ ?_;refine blk_far ?_ NB608_610.out _;exact pK BK608,by refine pQ ?_;refine blk_put (cs:=#[.bool ((rd_T92 l0_0 x11_1).f0),.int .i64 ((rd_T92 l0_0 x11_1).f1.f0),.slice A609_2 ((rd_T92 l0_0 x11_1).f1.f1).length c609_2,.slice none 0 0]) ?_ 3 _ rfl;refine pQ ?_;refine blk_put (cs:=#[.bool ((rd_T92 l0_0 x11_1).f0),.int .i64 ((rd_T92 l0_0 x11_1).f1.f0),.slice none 0 0,.slice none 0 0]) ?_ 2 _ rfl;refine pQ ?_;refine blk_put (cs:=#[.bool ((rd_T92 l0_0 x11_1).f0),.int .i64 0,.slice none 0 0,.slice none 0 0]) ?_ 1 _ rfl;refine pQ ?_;refine blk_put (cs:=#[.bool false,.int .i64 0,.slice none 0 0,.slice none 0 0]) ?_ 0 _ rfl;exact pK BK610,by refine pP ?_;exact Kd.R_mono (Kd.R_far (p:=⟨gb610,3,none⟩) (Kd.R_far (p:=⟨gb610,2,none⟩) (Kd.R_far (p:=⟨gb610,1,none⟩) (Kd.R_far (p:=⟨gb610,0,none⟩) (Kd.R_mono HO_609000.out (fun k_ hk=>(⟨hk,hk.2⟩:_∧k_ ≠ gb610))) (fun _ hk=>hk.2) (.bool ((rd_T92 l0_0 x11_1).f0))) (fun _ hk=>hk.2) (.int .i64 ((rd_T92 l0_0 x11_1).f1.f0))) (fun _ hk=>hk.2) (.slice A609_2 ((rd_T92 l0_0 x11_1).f1.f1).length c609_2)) (fun _ hk=>hk.2) (.slice A609_3 ((rd_T92 l0_0 x11_1).f1.f2).length c609_3)) (fun _ hk=>hk.1),pB⟩ ?_;rintro W1 ⟨hb606,hb607,hb608,hb610,hR1,hB1⟩;have nb606:=Z hb606;have nb607:=Z hb607;have nb608:=Z hb608;have nb610:=Z hb610;have nO:=Z (Kd.R_mono hR1 (fun k_ hk=>(⟨trivial,hk.2⟩:True∧k_ ≠ gb610)));have nB:=Z hB1;clear BK606 BK607 BK608 BK610 HO_609000 HB hb606 hb607 hb608 hb610 hR1 hB1;have BK606:=nb606;have BK607:=nb607;have BK608:=nb608;have BK610:=nb610;have HO_609000:=nO;have HB:=nB;clear nO nB nb606 nb607 nb608 nb610 hcz19_0 hcz19_1 hcz19_2 hcz19_3 hfz19_0 hfz19_1 hfz19_2 hfz19_3;obtain ⟨hcz19_0,hcz19_1,hcz19_2,hcz19_3,hfz19_0,hfz19_1,hfz19_2,hfz19_3⟩:=p4 BK610;have hnb20:=NB608_606.out;have hnc20:=NB606_608.out;have hnb21:=NB608_607.out;have hnc21:=NB607_608.out;obtain ⟨hcz22_0,hfz22_0⟩:=p1 BK608)|((with_reducible refine gate_builtin (b:=.append) (xs:=#[.tmp 35,.tmp 37]) rfl ?_);at_builtin;refine Kd.R_append k92 (w0:=w) w.heap.size rfl (.tmp 35) (.tmp 37) 23 92 (.agg #[(.bool false),(.int .i64 0),(.slice none 0 0),(.slice none 0 0)]) 64 rfl Tryz.underlying23 info92 rfl (by decide) (by omega) u609000 x609000_1 (⟨false,(⟨0,([]:List Int),([]:List (S90))⟩:S90)⟩:S92) [.bool false,.int .i64 0,.slice none 0 0,.slice none 0 0] (fun k_=>k_ ≠ gb610) (fun k_=>((fun k_=>k_ ≠ gb610)) k_∧some k_ ≠ (u609000:Value).ownBlock) rfl (by first|(go_simp;done)|(go_simp;rfl)) ?aP (fun _ hk=>hk) ?aF ?aO ?aB ?aS ?aL ?_;(case aP=>exact k92_mkM _ _ _ (⟨false,(⟨0,([]:List Int),([]:List (S90))⟩:S90)⟩:S92) (Kd.R_nil _ _ _ _ _) (Kd.R_nil _ _ _ _ _));(case aB=>exact pB);(case aF=>exact (fun k_ hk=>Kd.freshB (g:=gb610) (o:=.cells #[.bool false,.int .i64 0,.slice none 0 0,.slice none 0 0] 92 (0,0)) (by refine pQ ?_;refine blk_put (cs:=#[.bool false,.int .i64 0,.slice none 0 0,.slice A609_3 ((rd_T92 l0_0 x11_1).f1.f2).length c609_3]) ?_ 3 _ rfl;refine pQ ?_;refine blk_put (cs:=#[.bool false,.int .i64 0,.slice A609_2 ((rd_T92 l0_0 x11_1).f1.f1).length c609_2,.slice A609_3 ((rd_T92 l0_0 x11_1).f1.f2).length c609_3]) ?_ 2 _ rfl;refine pQ ?_;refine blk_put (cs:=#[.bool false,.int .i64 ((rd_T92 l0_0 x11_1).f1.f0),.slice A609_2 ((rd_T92 l0_0 x11_1).f1.f1).length c609_2,.slice A609_3 ((rd_T92 l0_0 x11_1).f1.f2).length c609_3]) ?_ 1 _ rfl;refine pQ ?_;refine blk_put (cs:=#[.bool ((rd_T92 l0_0 x11_1).f0),.int .i64 ((rd_T92 l0_0 x11_1).f1.f0),.slice A609_2 ((rd_T92 l0_0 x11_1).f1.f1).length c609_2,.slice A609_3 ((rd_T92 l0_0 x11_1).f1.f2).length c609_3]) ?_ 0 _ rfl;exact pK BK610) k_ hk));(case aO=>exact (by refine pP ?_;exact Kd.R_mono (Kd.R_far (p:=⟨gb610,3,none⟩) (Kd.R_far (p:=⟨gb610,2,none⟩) (Kd.R_far (p:=⟨gb610,1,none⟩) (Kd.R_far (p:=⟨gb610,0,none⟩) (Kd.R_mono HO_609000.out (fun k_ hk=>(⟨hk,hk.2⟩:_∧k_ ≠ gb610))) (fun _ hk=>hk.2) (.bool false)) (fun _ hk=>hk.2) (.int .i64 0)) (fun _ hk=>hk.2) (.slice none 0 0)) (fun _ hk=>hk.2) (.slice none 0 0)) (fun _ hk=>hk.1.2)));(case aS=>exact (below_size pB));(case aL=>have:=LMc14.out;omega);intro v613 w23 ho hb hg hat;rw [← Ny612.out] at ho;have n0_:=Z (blk_grown (g:=gb606) (o:=.cells #[.slice (some ad609) l0_0.length c0_0] 25 (0,0)) (by refine pQ ?_;refine blk_far ?_ NB606_610.out _;refine pQ ?_;refine blk_far ?_ NB606_610.out _;refine pQ ?_;refine blk_far ?_ NB606_610.out _;refine pQ ?_;refine blk_far ?_ NB606_610.out _;exact pK BK606) hg (Kd.R_ne HO_609000.out BK606.out (by decide)));have n1_:=Z (blk_grown (g:=gb607) (o:=.cells #[.slice none 0 0] 25 (0,0)) (by refine pQ ?_;refine blk_far ?_ NB607_610.out _;refine pQ ?_;refine blk_far ?_ NB607_610.out _;refine pQ ?_;refine blk_far ?_ NB607_610.out _;refine pQ ?_;refine blk_far ?_ NB607_610.out _;exact pK BK607) hg (Kd.R_ne HO_609000.out BK607.out (by decide)));have n2_:=Z (blk_grown (g:=gb608) (o:=.cells #[u609000] 25 (0,0)) (by refine pQ ?_;refine blk_far ?_ NB608_610.out _;refine pQ ?_;refine blk_far ?_ NB608_610.out _;refine pQ ?_;refine blk_far ?_ NB608_610.out _;refine pQ ?_;refine blk_far ?_ NB608_610.out _;exact pK BK608) hg (Kd.R_ne HO_609000.out BK608.out (by decide)));have n3_:=Z (blk_grown (g:=gb610) (o:=.cells #[.bool false,.int .i64 0,.slice none 0 0,.slice none 0 0] 92 (0,0)) (by refine pQ ?_;refine blk_put (cs:=#[.bool false,.int .i64 0,.slice none 0 0,.slice A609_3 ((rd_T92 l0_0 x11_1).f1.f2).length c609_3]) ?_ 3 _ rfl;refine pQ ?_;refine blk_put (cs:=#[.bool false,.int .i64 0,.slice A609_2 ((rd_T92 l0_0 x11_1).f1.f1).length c609_2,.slice A609_3 ((rd_T92 l0_0 x11_1).f1.f2).length c609_3]) ?_ 2 _ rfl;refine pQ ?_;refine blk_put (cs:=#[.bool false,.int .i64 ((rd_T92 l0_0 x11_1).f1.f0),.slice A609_2 ((rd_T92 l0_0 x11_1).f1.f1).length c609_2,.slice A609_3 ((rd_T92 l0_0 x11_1).f1.f2).length c609_3]) ?_ 1 _ rfl;refine pQ ?_;refine blk_put (cs:=#[.bool ((rd_T92 l0_0 x11_1).f0),.int .i64 ((rd_T92 l0_0 x11_1).f1.f0),.slice A609_2 ((rd_T92 l0_0 x11_1).f1.f1).length c609_2,.slice A609_3 ((rd_T92 l0_0 x11_1).f1.f2).length c609_3]) ?_ 0 _ rfl;exact pK BK610) hg (Kd.R_away HO_609000.out (fun _ hk=>hk.2)));have n4_:=Z (hb);have n5_:=Z (ho);clear BK606 BK607 BK608 BK610 HB HO_609000;have BK606:=n0_;have BK607:=n1_;have BK608:=n2_;have BK610:=n3_;have HB:=n4_;have HO614:=n5_;clear n0_ n1_ n2_ n3_ n4_ n5_ ho hb hg hat;obtain ⟨Ao24,co24,eo24⟩:=Kd.R_slice HO614.out;subst eo24;obtain ⟨hcz25_0,hfz25_0⟩:=p1 BK608))
        go_roundg k1
        case measure=>have:=HK1.out;omega
        case rel=>exact ⟨(wrap64 (x11_1+1)),(y612),(.slice Ao24 y612.length co24),pE,H',⟨by have:=HK1.out;omega⟩,⟨by refine pP ?_;exact Kd.R_mono (Kd.R_far (p:=⟨gb608,0,none⟩) (Kd.R_types HO614.out BK608.out (by decide)) (fun _ hk=>hk.2) (.slice Ao24 y612.length co24)) (fun _ hk=>trivial)⟩,⟨by refine pQ ?_;refine blk_far ?_ NB606_608.out _;exact pK BK606⟩,⟨by refine pQ ?_;refine blk_far ?_ NB607_608.out _;exact pK BK607⟩,⟨by refine pQ ?_;refine blk_put (cs:=#[u609000]) ?_ 0 _ rfl;exact pK BK608⟩,⟨pB⟩⟩
       ·rw [if_neg c14] at H
        exact absurd H (by simp)
      ·replace c13:=Bool.eq_false_iff.mpr c13
       subst c13
       rw [if_neg (show ¬ (false=true) by decide)] at H
       obtain ⟨bq26,hbq26⟩:∃ b_:Bool,b_=((rd_T92 l0_0 x11_1).f0):=⟨_,rfl⟩
       replace H:(if bq26=true then ((deletion_Trust.f k1 ((rd_T92 l0_0 x11_1).f1.f0) ((rd_T92 l0_0 x11_1).f1.f1) ((rd_T92 l0_0 x11_1).f1.f2) x11_1 a1).bind fun bt615=>(if x609000_1.length < 2199023255552 then (deletion_Delete.l0 k1 a1 l0_0 (l0_0.length:Int) (wrap64 (x11_1+1)) (x609000_1++[(⟨bq26,(⟨bt615.1,bt615.2.1,bt615.2.2⟩:S90)⟩:S92)])) else (none))) else ((deletion_copied.f ((rd_T92 l0_0 x11_1).f1.f0) ((rd_T92 l0_0 x11_1).f1.f1) ((rd_T92 l0_0 x11_1).f1.f2)).bind fun bt625=>(if x609000_1.length < 2199023255552 then (deletion_Delete.l0 k1 a1 l0_0 (l0_0.length:Int) (wrap64 (x11_1+1)) (x609000_1++[(⟨bq26,(⟨bt625.1,bt625.2.1,bt625.2.2⟩:S90)⟩:S92)])) else (none))))=some r:=by rw [← hbq26] at H;exact H
       have Nbq26:=Z hbq26
       clear hbq26
       by_cases c27:bq26=true
       ·subst c27
        rw [if_pos rfl] at H
        replace H:=pO H
        obtain ⟨⟨t615,t616,t619⟩,A280,H⟩:=H
        try dsimp only at H
        have A28:=Z A280
        clear A280
        by_cases c29:x609000_1.length < 2199023255552
        ·rw [if_pos c29] at H
         have LMc29:=Z c29
         clear c29
         obtain ⟨y622,hy622⟩:∃ y_:List (S92),y_=(x609000_1++[(⟨true,(⟨t615,t616,t619⟩:S90)⟩:S92)]):=⟨_,rfl⟩
         first|rw [← hy622] at H|(replace H:=(Option.bind_some _ _).symm.trans H;rw [← hy622] at H)
         have Ny622:=Z hy622
         clear hy622
         have H':=Z H
         clear H
         have p609:0≤(x11_1:Int):=of_decide_eq_true pA
         have q609:x11_1 < (l0_0.length:Int):=of_decide_eq_true pA
         obtain ⟨ad609,A609_2,c609_2,A609_3,c609_3,e609,hx609_0,hx609_1,hx609_2,hx609_3,hl609_2,hi609_2,hl609_3,hi609_3⟩:=at_T92 HR0_0.out x11_1 p609 q609
         (try rw [← Nbq26.out] at hx609_0)
         cases e609
         replace hx609_0:=pX HB hx609_0
         replace hx609_1:=pX HB hx609_1
         replace hx609_2:=pX HB hx609_2
         replace hx609_3:=pX HB hx609_3
         have HR609_2:=Z hi609_2
         have HC609_2:=Z hl609_2
         clear hi609_2 hl609_2
         have HR609_3:=Z hi609_3
         have HC609_3:=Z hl609_3
         clear hi609_3 hl609_3
         replace p609:=eq_true p609
         replace q609:=eq_true q609
         go_wp2_with (first|((with_reducible refine gate_dst (N:=7) rfl ?_);refine box_event ?hg (N:=7) ?hd (cs:=#[.bool false,.int .i64 0,.slice none 0 0,.slice none 0 0]) (t:=92) ?hr ?_;(case hd=>rfl);(case hg=>rfl);(case hr=>first|(go_simp;done)|(go_simp;rfl));intro gb610 hg w30 hbox hb;replace HO_609000:=Z (Kd.R_below (Kd.R_elderB (pR HO_609000) gb610 (Nat.le_of_eq hg.symm)) hb);have n1_:=Z (blk_below (g:=gb606) (o:=.cells #[.slice (some ad609) l0_0.length c0_0] 25 (0,0)) (pK BK606) hb);have n2_:=Z (blk_below (g:=gb607) (o:=.cells #[.slice none 0 0] 25 (0,0)) (pK BK607) hb);have n3_:=Z (blk_below (g:=gb608) (o:=.cells #[u609000] 25 (0,0)) (pK BK608) hb);have n4_:=Z (below_step pB hb);have BK610:=Z (hbox);have GW610:=Z ((pT hg:w.heap.size≤gb610));have GE610:=Z ((pT hg:w.heap.size≤gb610));have NB606_610:=Z ((pL hg (pK BK606):gb606 ≠ gb610));have NB610_606:=Z ((pM hg (pK BK606):gb610 ≠ gb606));have NB607_610:=Z ((pL hg (pK BK607):gb607 ≠ gb610));have NB610_607:=Z ((pM hg (pK BK607):gb610 ≠ gb607));have NB608_610:=Z ((pL hg (pK BK608):gb608 ≠ gb610));have NB610_608:=Z ((pM hg (pK BK608):gb610 ≠ gb608));clear BK606 BK607 BK608 HB;have BK606:=n1_;have BK607:=n2_;have BK608:=n3_;have HB:=n4_;clear n1_ n2_ n3_ n4_ hb hbox hg;have hnb31:=NB610_606.out;have hnc31:=NB606_610.out;have hnb32:=NB610_607.out;have hnc32:=NB607_610.out;have hnb33:=NB610_608.out;have hnc33:=NB608_610.out;obtain ⟨hcz34_0,hcz34_1,hcz34_2,hcz34_3,hfz34_0,hfz34_1,hfz34_2,hfz34_3⟩:=p4 BK610)|((with_reducible refine gate_callee (f:=104) rfl ?_);refine goesL_ (some 23) rfl rfl Tryz.func104 pU rfl #[.int .i64 a1,.int .i64 x11_1] rfl pG ?_;(with_reducible refine (nodeset_Has.calls a1 x11_1 false _ A12.out).mono ?_);rintro e w' ⟨rfl,⟨nd,rfl⟩⟩;refine ⟨_,rfl,?_⟩)|((with_reducible refine gate_callee (f:=172) rfl ?_);refine goesL_ (some 32) rfl rfl Tryz.func172 pU rfl #[.agg #[.int .i64 ((rd_T92 l0_0 x11_1).f1.f0),.slice A609_2 ((rd_T92 l0_0 x11_1).f1.f1).length c609_2,.slice A609_3 ((rd_T92 l0_0 x11_1).f1.f2).length c609_3],.int .i64 x11_1,.int .i64 a1] rfl pG ?_;(with_reducible refine (deletion_Trust.calls k1 ((rd_T92 l0_0 x11_1).f1.f0) _ _ ((rd_T92 l0_0 x11_1).f1.f1) _ _ ((rd_T92 l0_0 x11_1).f1.f2) x11_1 a1 t615 t616 t619 _ ?side1 ?side2 ?side3 ?side4 A28.out).mono ?_);(case side1=>exact Kd.C_below HR609_2.out pB);(case side2=>exact HC609_2.out);(case side3=>exact Kd.C_below HR609_3.out pB);(case side4=>exact HC609_3.out);rintro e w35 ⟨v617,v620,rfl,ho0,ho1,hb⟩;refine ⟨_,rfl,?_⟩;replace HO_609000:=Z (Kd.R_mono (Kd.R_told (Kd.R_told (Kd.R_old (by refine pP ?_;exact (Kd.R_mono (Kd.R_far (p:=⟨gb610,3,none⟩) (Kd.R_far (p:=⟨gb610,2,none⟩) (Kd.R_far (p:=⟨gb610,1,none⟩) (Kd.R_far (p:=⟨gb610,0,none⟩) (Kd.R_mono HO_609000.out (fun k_ hk=>(⟨hk,hk.2⟩:_∧k_ ≠ gb610))) (fun _ hk=>hk.2) (.bool true)) (fun _ hk=>hk.2) (.int .i64 ((rd_T92 l0_0 x11_1).f1.f0))) (fun _ hk=>hk.2) (.slice A609_2 ((rd_T92 l0_0 x11_1).f1.f1).length c609_2)) (fun _ hk=>hk.2) (.slice A609_3 ((rd_T92 l0_0 x11_1).f1.f2).length c609_3)) (fun _ h_=>h_.1))) hb) (Kd.R_base ho0)) (Kd.R_base ho1)) (fun _ h_=>h_.1));have HO618:=Z (Kd.R_lower ho0 (below_size pB));have HO621:=Z (Kd.R_lower ho1 (below_size pB));replace BK606:=Z (blk_below (g:=gb606) (o:=.cells #[.slice (some ad609) l0_0.length c0_0] 25 (0,0)) (by refine pQ ?_;refine blk_far ?_ NB606_610.out _;refine pQ ?_;refine blk_far ?_ NB606_610.out _;refine pQ ?_;refine blk_far ?_ NB606_610.out _;refine pQ ?_;refine blk_far ?_ NB606_610.out _;exact pK BK606) hb);replace BK607:=Z (blk_below (g:=gb607) (o:=.cells #[.slice none 0 0] 25 (0,0)) (by refine pQ ?_;refine blk_far ?_ NB607_610.out _;refine pQ ?_;refine blk_far ?_ NB607_610.out _;refine pQ ?_;refine blk_far ?_ NB607_610.out _;refine pQ ?_;refine blk_far ?_ NB607_610.out _;exact pK BK607) hb);replace BK608:=Z (blk_below (g:=gb608) (o:=.cells #[u609000] 25 (0,0)) (by refine pQ ?_;refine blk_far ?_ NB608_610.out _;refine pQ ?_;refine blk_far ?_ NB608_610.out _;refine pQ ?_;refine blk_far ?_ NB608_610.out _;refine pQ ?_;refine blk_far ?_ NB608_610.out _;exact pK BK608) hb);replace BK610:=Z (blk_below (g:=gb610) (o:=.cells #[.bool true,.int .i64 ((rd_T92 l0_0 x11_1).f1.f0),.slice A609_2 ((rd_T92 l0_0 x11_1).f1.f1).length c609_2,.slice A609_3 ((rd_T92 l0_0 x11_1).f1.f2).length c609_3] 92 (0,0)) (by refine pQ ?_;refine blk_put (cs:=#[.bool true,.int .i64 ((rd_T92 l0_0 x11_1).f1.f0),.slice A609_2 ((rd_T92 l0_0 x11_1).f1.f1).length c609_2,.slice none 0 0]) ?_ 3 _ rfl;refine pQ ?_;refine blk_put (cs:=#[.bool true,.int .i64 ((rd_T92 l0_0 x11_1).f1.f0),.slice none 0 0,.slice none 0 0]) ?_ 2 _ rfl;refine pQ ?_;refine blk_put (cs:=#[.bool true,.int .i64 0,.slice none 0 0,.slice none 0 0]) ?_ 1 _ rfl;refine pQ ?_;refine blk_put (cs:=#[.bool false,.int .i64 0,.slice none 0 0,.slice none 0 0]) ?_ 0 _ rfl;exact pK BK610) hb);have n7_:=Z (below_step pB hb);clear HB;have HB:=n7_;clear n7_;(try clear hb);(try clear hb2);(try clear hk);(try clear hi);(try clear ho0);(try clear ho1);obtain ⟨hcz36_0,hcz36_1,hcz36_2,hcz36_3,hfz36_0,hfz36_1,hfz36_2,hfz36_3⟩:=p4 BK610;obtain ⟨Ao37,co37,eo37⟩:=Kd.R_slice HO618.out;subst eo37;obtain ⟨Ao38,co38,eo38⟩:=Kd.R_slice HO621.out;subst eo38)|((with_reducible refine gate_store (t:=90) (p:=33) rfl ?_);refine store_event (t:=90) (p:=33) (v:=?vo_w39) (w1:=(((w35.setCell ⟨gb610,1,none⟩ (.int .i64 t615)).setCell ⟨gb610,2,none⟩ (.slice Ao37 t616.length co37)).setCell ⟨gb610,3,none⟩ (.slice Ao38 t619.length co38))) ?hg ?ho ?hn ?hr ?_;(case ho=>rfl);(case hg=>rfl);(case hn=>rfl);(case hr=>first|(go_simp;done)|(go_simp;rfl));intro w39 hw;have n0_:Aside0 (Kd.R k92 92 w39 w.heap.size (fun k_=>some k_ ≠ (.slice Ao37 t616.length co37:Value).ownBlock∧some k_ ≠ (.slice Ao38 t619.length co38:Value).ownBlock∧k_ ≠ gb610) u609000 x609000_1):=⟨(by rw [hw];exact (by refine pP ?_;exact Kd.R_mono (Kd.R_far (p:=⟨gb610,3,none⟩) (Kd.R_far (p:=⟨gb610,2,none⟩) (Kd.R_far (p:=⟨gb610,1,none⟩) (Kd.R_mono HO_609000.out (fun k_ hk=>(⟨hk,hk.1.1.2⟩:_∧k_ ≠ gb610))) (fun _ hk=>hk.2) (.int .i64 t615)) (fun _ hk=>hk.2) (.slice Ao37 t616.length co37)) (fun _ hk=>hk.2) (.slice Ao38 t619.length co38)) (fun _ hk=>⟨hk.1.1.2,⟨hk.1.2,hk.1.1.1.2⟩⟩)))⟩;have n1_:Aside0 (Kd.R (Kd.int .i64) 3 w39 w.heap.size (fun _=>True) (.slice Ao37 t616.length co37) t616):=⟨(by rw [hw];exact (by refine pP ?_;exact Kd.R_mono (Kd.R_far (p:=⟨gb610,3,none⟩) (Kd.R_far (p:=⟨gb610,2,none⟩) (Kd.R_far (p:=⟨gb610,1,none⟩) (Kd.R_types HO618.out BK610.out (by decide)) (fun _ hk=>hk.2) (.int .i64 t615)) (fun _ hk=>hk.2) (.slice Ao37 t616.length co37)) (fun _ hk=>hk.2) (.slice Ao38 t619.length co38)) (fun _ hk=>trivial)))⟩;have n2_:Aside0 (Kd.R k90 90 w39 w.heap.size (fun k_=>some k_ ≠ (.slice Ao37 t616.length co37:Value).ownBlock) (.slice Ao38 t619.length co38) t619):=⟨(by rw [hw];exact (by refine pP ?_;exact Kd.R_mono (Kd.R_far (p:=⟨gb610,3,none⟩) (Kd.R_far (p:=⟨gb610,2,none⟩) (Kd.R_far (p:=⟨gb610,1,none⟩) (Kd.R_types HO621.out BK610.out (by decide)) (fun _ hk=>hk.2) (.int .i64 t615)) (fun _ hk=>hk.2) (.slice Ao37 t616.length co37)) (fun _ hk=>hk.2) (.slice Ao38 t619.length co38)) (fun _ hk=>hk.1)))⟩;have n3_:Aside0 (w39.heap[gb606]?=some (.cells #[.slice (some ad609) l0_0.length c0_0] 25 (0,0))):=⟨(by rw [hw];exact (by refine pQ ?_;refine blk_far ?_ NB606_610.out _;refine pQ ?_;refine blk_far ?_ NB606_610.out _;refine pQ ?_;refine blk_far ?_ NB606_610.out _;exact pK BK606))⟩;have n4_:Aside0 (w39.heap[gb607]?=some (.cells #[.slice none 0 0] 25 (0,0))):=⟨(by rw [hw];exact (by refine pQ ?_;refine blk_far ?_ NB607_610.out _;refine pQ ?_;refine blk_far ?_ NB607_610.out _;refine pQ ?_;refine blk_far ?_ NB607_610.out _;exact pK BK607))⟩;have n5_:Aside0 (w39.heap[gb608]?=some (.cells #[u609000] 25 (0,0))):=⟨(by rw [hw];exact (by refine pQ ?_;refine blk_far ?_ NB608_610.out _;refine pQ ?_;refine blk_far ?_ NB608_610.out _;refine pQ ?_;refine blk_far ?_ NB608_610.out _;exact pK BK608))⟩;have n6_:Aside0 (w39.heap[gb610]?=some (.cells #[.bool true,.int .i64 t615,.slice Ao37 t616.length co37,.slice Ao38 t619.length co38] 92 (0,0))):=⟨(by rw [hw];exact (by refine pQ ?_;refine blk_put (cs:=#[.bool true,.int .i64 t615,.slice Ao37 t616.length co37,.slice A609_3 ((rd_T92 l0_0 x11_1).f1.f2).length c609_3]) ?_ 3 _ rfl;refine pQ ?_;refine blk_put (cs:=#[.bool true,.int .i64 t615,.slice A609_2 ((rd_T92 l0_0 x11_1).f1.f1).length c609_2,.slice A609_3 ((rd_T92 l0_0 x11_1).f1.f2).length c609_3]) ?_ 2 _ rfl;refine pQ ?_;refine blk_put (cs:=#[.bool true,.int .i64 ((rd_T92 l0_0 x11_1).f1.f0),.slice A609_2 ((rd_T92 l0_0 x11_1).f1.f1).length c609_2,.slice A609_3 ((rd_T92 l0_0 x11_1).f1.f2).length c609_3]) ?_ 1 _ rfl;exact pK BK610))⟩;have n7_:Aside0 (Below w.heap.size w w39):=⟨(by rw [hw];exact pB)⟩;clear hw HO_609000 HO618 HO621 BK606 BK607 BK608 BK610 HB;have HO_609000:=n0_;have HO618:=n1_;have HO621:=n2_;have BK606:=n3_;have BK607:=n4_;have BK608:=n5_;have BK610:=n6_;have HB:=n7_;clear n0_ n1_ n2_ n3_ n4_ n5_ n6_ n7_;have hnb40:=NB608_606.out;have hnc40:=NB606_608.out;have hnb41:=NB608_607.out;have hnc41:=NB607_608.out;obtain ⟨hcz42_0,hfz42_0⟩:=p1 BK608;obtain ⟨hcz43_0,hcz43_1,hcz43_2,hcz43_3,hfz43_0,hfz43_1,hfz43_2,hfz43_3⟩:=p4 BK610)|((with_reducible refine gate_builtin (b:=.append) (xs:=#[.tmp 35,.tmp 37]) rfl ?_);at_builtin;refine Kd.R_append k92 (w0:=w) w.heap.size rfl (.tmp 35) (.tmp 37) 23 92 (.agg #[(.bool false),(.int .i64 0),(.slice none 0 0),(.slice none 0 0)]) 64 rfl Tryz.underlying23 info92 rfl (by decide) (by omega) u609000 x609000_1 (⟨true,(⟨t615,t616,t619⟩:S90)⟩:S92) [.bool true,.int .i64 t615,.slice Ao37 t616.length co37,.slice Ao38 t619.length co38] (fun k_=>k_ ≠ gb610) (fun k_=>((fun k_=>k_ ≠ gb610)) k_∧some k_ ≠ (u609000:Value).ownBlock) rfl rfl ?aP (fun _ hk=>hk) ?aF ?aO ?aB ?aS ?aL ?_;(case aP=>exact k92_mkM _ _ _ (⟨true,(⟨t615,t616,t619⟩:S90)⟩:S92) (Kd.R_mono (Kd.R_types (Kd.R_apart' (HO618.out) (Kd.R_typed HO_609000.out) (by decide)) BK610.out (by decide)) (fun k_ hk=>⟨hk.2,hk.1.2⟩)) (Kd.R_mono (Kd.R_types (Kd.R_apart' (HO621.out) (Kd.R_typed HO_609000.out) (by decide)) BK610.out (by decide)) (fun k_ hk=>⟨hk.2,hk.1.2⟩)));(case aB=>exact pB);(case aF=>exact (fun k_ hk=>Kd.freshB (g:=gb610) (o:=.cells #[.bool true,.int .i64 t615,.slice Ao37 t616.length co37,.slice Ao38 t619.length co38] 92 (0,0)) (pK BK610) k_ hk));(case aO=>exact (by refine pP ?_;exact Kd.R_mono HO_609000.out (fun _ hk=>hk.2.2)));(case aS=>exact (below_size pB));(case aL=>have:=LMc29.out;omega);intro v623 w44 ho hb hg hat;rw [← Ny622.out] at ho;have n0_:=Z (blk_grown (g:=gb606) (o:=.cells #[.slice (some ad609) l0_0.length c0_0] 25 (0,0)) (pK BK606) hg (Kd.R_ne HO_609000.out BK606.out (by decide)));have n1_:=Z (blk_grown (g:=gb607) (o:=.cells #[.slice none 0 0] 25 (0,0)) (pK BK607) hg (Kd.R_ne HO_609000.out BK607.out (by decide)));have n2_:=Z (blk_grown (g:=gb608) (o:=.cells #[u609000] 25 (0,0)) (pK BK608) hg (Kd.R_ne HO_609000.out BK608.out (by decide)));have n3_:=Z (blk_grown (g:=gb610) (o:=.cells #[.bool true,.int .i64 t615,.slice Ao37 t616.length co37,.slice Ao38 t619.length co38] 92 (0,0)) (pK BK610) hg (Kd.R_away HO_609000.out (fun _ hk=>hk.2.2)));have n4_:=Z (hb);have n5_:=Z (ho);clear BK606 BK607 BK608 BK610 HB HO_609000 HO618 HO621;have BK606:=n0_;have BK607:=n1_;have BK608:=n2_;have BK610:=n3_;have HB:=n4_;have HO624:=n5_;clear n0_ n1_ n2_ n3_ n4_ n5_ ho hb hg hat;obtain ⟨Ao45,co45,eo45⟩:=Kd.R_slice HO624.out;subst eo45;obtain ⟨hcz46_0,hfz46_0⟩:=p1 BK608))
         go_roundg k1
         case measure=>have:=HK1.out;omega
         case rel=>exact ⟨(wrap64 (x11_1+1)),(y622),(.slice Ao45 y622.length co45),pE,H',⟨by have:=HK1.out;omega⟩,⟨by refine pP ?_;exact Kd.R_mono (Kd.R_far (p:=⟨gb608,0,none⟩) (Kd.R_types HO624.out BK608.out (by decide)) (fun _ hk=>hk.2) (.slice Ao45 y622.length co45)) (fun _ hk=>trivial)⟩,⟨by refine pQ ?_;refine blk_far ?_ NB606_608.out _;exact pK BK606⟩,⟨by refine pQ ?_;refine blk_far ?_ NB607_608.out _;exact pK BK607⟩,⟨by refine pQ ?_;refine blk_put (cs:=#[u609000]) ?_ 0 _ rfl;exact pK BK608⟩,⟨pB⟩⟩
        ·rw [if_neg c29] at H
         exact absurd H (by simp)
       ·replace c27:=Bool.eq_false_iff.mpr c27
        subst c27
        rw [if_neg (show ¬ (false=true) by decide)] at H
        replace H:=pO H
        obtain ⟨⟨t625,t626,t629⟩,A470,H⟩:=H
        try dsimp only at H
        have A47:=Z A470
        clear A470
        by_cases c48:x609000_1.length < 2199023255552
        ·rw [if_pos c48] at H
         have LMc48:=Z c48
         clear c48
         obtain ⟨y632,hy632⟩:∃ y_:List (S92),y_=(x609000_1++[(⟨false,(⟨t625,t626,t629⟩:S90)⟩:S92)]):=⟨_,rfl⟩
         first|rw [← hy632] at H|(replace H:=(Option.bind_some _ _).symm.trans H;rw [← hy632] at H)
         have Ny632:=Z hy632
         clear hy632
         have H':=Z H
         clear H
         have p609:0≤(x11_1:Int):=of_decide_eq_true pA
         have q609:x11_1 < (l0_0.length:Int):=of_decide_eq_true pA
         obtain ⟨ad609,A609_2,c609_2,A609_3,c609_3,e609,hx609_0,hx609_1,hx609_2,hx609_3,hl609_2,hi609_2,hl609_3,hi609_3⟩:=at_T92 HR0_0.out x11_1 p609 q609
         (try rw [← Nbq26.out] at hx609_0)
         cases e609
         replace hx609_0:=pX HB hx609_0
         replace hx609_1:=pX HB hx609_1
         replace hx609_2:=pX HB hx609_2
         replace hx609_3:=pX HB hx609_3
         have HR609_2:=Z hi609_2
         have HC609_2:=Z hl609_2
         clear hi609_2 hl609_2
         have HR609_3:=Z hi609_3
         have HC609_3:=Z hl609_3
         clear hi609_3 hl609_3
         replace p609:=eq_true p609
         replace q609:=eq_true q609
         go_wp2_with (first|((with_reducible refine gate_dst (N:=7) rfl ?_);refine box_event ?hg (N:=7) ?hd (cs:=#[.bool false,.int .i64 0,.slice none 0 0,.slice none 0 0]) (t:=92) ?hr ?_;(case hd=>rfl);(case hg=>rfl);(case hr=>first|(go_simp;done)|(go_simp;rfl));intro gb610 hg w49 hbox hb;replace HO_609000:=Z (Kd.R_below (Kd.R_elderB (pR HO_609000) gb610 (Nat.le_of_eq hg.symm)) hb);have n1_:=Z (blk_below (g:=gb606) (o:=.cells #[.slice (some ad609) l0_0.length c0_0] 25 (0,0)) (pK BK606) hb);have n2_:=Z (blk_below (g:=gb607) (o:=.cells #[.slice none 0 0] 25 (0,0)) (pK BK607) hb);have n3_:=Z (blk_below (g:=gb608) (o:=.cells #[u609000] 25 (0,0)) (pK BK608) hb);have n4_:=Z (below_step pB hb);have BK610:=Z (hbox);have GW610:=Z ((pT hg:w.heap.size≤gb610));have GE610:=Z ((pT hg:w.heap.size≤gb610));have NB606_610:=Z ((pL hg (pK BK606):gb606 ≠ gb610));have NB610_606:=Z ((pM hg (pK BK606):gb610 ≠ gb606));have NB607_610:=Z ((pL hg (pK BK607):gb607 ≠ gb610));have NB610_607:=Z ((pM hg (pK BK607):gb610 ≠ gb607));have NB608_610:=Z ((pL hg (pK BK608):gb608 ≠ gb610));have NB610_608:=Z ((pM hg (pK BK608):gb610 ≠ gb608));clear BK606 BK607 BK608 HB;have BK606:=n1_;have BK607:=n2_;have BK608:=n3_;have HB:=n4_;clear n1_ n2_ n3_ n4_ hb hbox hg;have hnb50:=NB610_606.out;have hnc50:=NB606_610.out;have hnb51:=NB610_607.out;have hnc51:=NB607_610.out;have hnb52:=NB610_608.out;have hnc52:=NB608_610.out;obtain ⟨hcz53_0,hcz53_1,hcz53_2,hcz53_3,hfz53_0,hfz53_1,hfz53_2,hfz53_3⟩:=p4 BK610)|((with_reducible refine gate_callee (f:=104) rfl ?_);refine goesL_ (some 23) rfl rfl Tryz.func104 pU rfl #[.int .i64 a1,.int .i64 x11_1] rfl pG ?_;(with_reducible refine (nodeset_Has.calls a1 x11_1 false _ A12.out).mono ?_);rintro e w' ⟨rfl,⟨nd,rfl⟩⟩;refine ⟨_,rfl,?_⟩)|((with_reducible refine gate_callee (f:=173) rfl ?_);refine goesL_ (some 18) rfl rfl Tryz.func173 pU rfl #[.agg #[.int .i64 ((rd_T92 l0_0 x11_1).f1.f0),.slice A609_2 ((rd_T92 l0_0 x11_1).f1.f1).length c609_2,.slice A609_3 ((rd_T92 l0_0 x11_1).f1.f2).length c609_3]] rfl pG ?_;(with_reducible refine (deletion_copied.calls ((rd_T92 l0_0 x11_1).f1.f0) _ _ ((rd_T92 l0_0 x11_1).f1.f1) _ _ ((rd_T92 l0_0 x11_1).f1.f2) t625 t626 t629 _ ?side1 ?side2 ?side3 ?side4 A47.out).mono ?_);(case side1=>exact Kd.C_below HR609_2.out pB);(case side2=>exact HC609_2.out);(case side3=>exact Kd.C_below HR609_3.out pB);(case side4=>exact HC609_3.out);rintro e w54 ⟨v627,v630,rfl,ho0,ho1,hb⟩;refine ⟨_,rfl,?_⟩;replace HO_609000:=Z (Kd.R_mono (Kd.R_told (Kd.R_told (Kd.R_old (by refine pP ?_;exact (Kd.R_mono (Kd.R_far (p:=⟨gb610,3,none⟩) (Kd.R_far (p:=⟨gb610,2,none⟩) (Kd.R_far (p:=⟨gb610,1,none⟩) (Kd.R_far (p:=⟨gb610,0,none⟩) (Kd.R_mono HO_609000.out (fun k_ hk=>(⟨hk,hk.2⟩:_∧k_ ≠ gb610))) (fun _ hk=>hk.2) (.bool false)) (fun _ hk=>hk.2) (.int .i64 ((rd_T92 l0_0 x11_1).f1.f0))) (fun _ hk=>hk.2) (.slice A609_2 ((rd_T92 l0_0 x11_1).f1.f1).length c609_2)) (fun _ hk=>hk.2) (.slice A609_3 ((rd_T92 l0_0 x11_1).f1.f2).length c609_3)) (fun _ h_=>h_.1))) hb) (Kd.R_base ho0)) (Kd.R_base ho1)) (fun _ h_=>h_.1));have HO628:=Z (Kd.R_lower ho0 (below_size pB));have HO631:=Z (Kd.R_lower ho1 (below_size pB));replace BK606:=Z (blk_below (g:=gb606) (o:=.cells #[.slice (some ad609) l0_0.length c0_0] 25 (0,0)) (by refine pQ ?_;refine blk_far ?_ NB606_610.out _;refine pQ ?_;refine blk_far ?_ NB606_610.out _;refine pQ ?_;refine blk_far ?_ NB606_610.out _;refine pQ ?_;refine blk_far ?_ NB606_610.out _;exact pK BK606) hb);replace BK607:=Z (blk_below (g:=gb607) (o:=.cells #[.slice none 0 0] 25 (0,0)) (by refine pQ ?_;refine blk_far ?_ NB607_610.out _;refine pQ ?_;refine blk_far ?_ NB607_610.out _;refine pQ ?_;refine blk_far ?_ NB607_610.out _;refine pQ ?_;refine blk_far ?_ NB607_610.out _;exact pK BK607) hb);replace BK608:=Z (blk_below (g:=gb608) (o:=.cells #[u609000] 25 (0,0)) (by refine pQ ?_;refine blk_far ?_ NB608_610.out _;refine pQ ?_;refine blk_far ?_ NB608_610.out _;refine pQ ?_;refine blk_far ?_ NB608_610.out _;refine pQ ?_;refine blk_far ?_ NB608_610.out _;exact pK BK608) hb);replace BK610:=Z (blk_below (g:=gb610) (o:=.cells #[.bool false,.int .i64 ((rd_T92 l0_0 x11_1).f1.f0),.slice A609_2 ((rd_T92 l0_0 x11_1).f1.f1).length c609_2,.slice A609_3 ((rd_T92 l0_0 x11_1).f1.f2).length c609_3] 92 (0,0)) (by refine pQ ?_;refine blk_put (cs:=#[.bool false,.int .i64 ((rd_T92 l0_0 x11_1).f1.f0),.slice A609_2 ((rd_T92 l0_0 x11_1).f1.f1).length c609_2,.slice none 0 0]) ?_ 3 _ rfl;refine pQ ?_;refine blk_put (cs:=#[.bool false,.int .i64 ((rd_T92 l0_0 x11_1).f1.f0),.slice none 0 0,.slice none 0 0]) ?_ 2 _ rfl;refine pQ ?_;refine blk_put (cs:=#[.bool false,.int .i64 0,.slice none 0 0,.slice none 0 0]) ?_ 1 _ rfl;refine pQ ?_;refine blk_put (cs:=#[.bool false,.int .i64 0,.slice none 0 0,.slice none 0 0]) ?_ 0 _ rfl;exact pK BK610) hb);have n7_:=Z (below_step pB hb);clear HB;have HB:=n7_;clear n7_;(try clear hb);(try clear hb2);(try clear hk);(try clear hi);(try clear ho0);(try clear ho1);obtain ⟨hcz55_0,hcz55_1,hcz55_2,hcz55_3,hfz55_0,hfz55_1,hfz55_2,hfz55_3⟩:=p4 BK610;obtain ⟨Ao56,co56,eo56⟩:=Kd.R_slice HO628.out;subst eo56;obtain ⟨Ao57,co57,eo57⟩:=Kd.R_slice HO631.out;subst eo57)|((with_reducible refine gate_store (t:=90) (p:=19) rfl ?_);refine store_event (t:=90) (p:=19) (v:=?vo_w58) (w1:=(((w54.setCell ⟨gb610,1,none⟩ (.int .i64 t625)).setCell ⟨gb610,2,none⟩ (.slice Ao56 t626.length co56)).setCell ⟨gb610,3,none⟩ (.slice Ao57 t629.length co57))) ?hg ?ho ?hn ?hr ?_;(case ho=>rfl);(case hg=>rfl);(case hn=>rfl);(case hr=>first|(go_simp;done)|(go_simp;rfl));intro w58 hw;have n0_:Aside0 (Kd.R k92 92 w58 w.heap.size (fun k_=>some k_ ≠ (.slice Ao56 t626.length co56:Value).ownBlock∧some k_ ≠ (.slice Ao57 t629.length co57:Value).ownBlock∧k_ ≠ gb610) u609000 x609000_1):=⟨(by rw [hw];exact (by refine pP ?_;exact Kd.R_mono (Kd.R_far (p:=⟨gb610,3,none⟩) (Kd.R_far (p:=⟨gb610,2,none⟩) (Kd.R_far (p:=⟨gb610,1,none⟩) (Kd.R_mono HO_609000.out (fun k_ hk=>(⟨hk,hk.1.1.2⟩:_∧k_ ≠ gb610))) (fun _ hk=>hk.2) (.int .i64 t625)) (fun _ hk=>hk.2) (.slice Ao56 t626.length co56)) (fun _ hk=>hk.2) (.slice Ao57 t629.length co57)) (fun _ hk=>⟨hk.1.1.2,⟨hk.1.2,hk.1.1.1.2⟩⟩)))⟩;have n1_:Aside0 (Kd.R (Kd.int .i64) 3 w58 w.heap.size (fun _=>True) (.slice Ao56 t626.length co56) t626):=⟨(by rw [hw];exact (by refine pP ?_;exact Kd.R_mono (Kd.R_far (p:=⟨gb610,3,none⟩) (Kd.R_far (p:=⟨gb610,2,none⟩) (Kd.R_far (p:=⟨gb610,1,none⟩) (Kd.R_types HO628.out BK610.out (by decide)) (fun _ hk=>hk.2) (.int .i64 t625)) (fun _ hk=>hk.2) (.slice Ao56 t626.length co56)) (fun _ hk=>hk.2) (.slice Ao57 t629.length co57)) (fun _ hk=>trivial)))⟩;have n2_:Aside0 (Kd.R k90 90 w58 w.heap.size (fun k_=>some k_ ≠ (.slice Ao56 t626.length co56:Value).ownBlock) (.slice Ao57 t629.length co57) t629):=⟨(by rw [hw];exact (by refine pP ?_;exact Kd.R_mono (Kd.R_far (p:=⟨gb610,3,none⟩) (Kd.R_far (p:=⟨gb610,2,none⟩) (Kd.R_far (p:=⟨gb610,1,none⟩) (Kd.R_types HO631.out BK610.out (by decide)) (fun _ hk=>hk.2) (.int .i64 t625)) (fun _ hk=>hk.2) (.slice Ao56 t626.length co56)) (fun _ hk=>hk.2) (.slice Ao57 t629.length co57)) (fun _ hk=>hk.1)))⟩;have n3_:Aside0 (w58.heap[gb606]?=some (.cells #[.slice (some ad609) l0_0.length c0_0] 25 (0,0))):=⟨(by rw [hw];exact (by refine pQ ?_;refine blk_far ?_ NB606_610.out _;refine pQ ?_;refine blk_far ?_ NB606_610.out _;refine pQ ?_;refine blk_far ?_ NB606_610.out _;exact pK BK606))⟩;have n4_:Aside0 (w58.heap[gb607]?=some (.cells #[.slice none 0 0] 25 (0,0))):=⟨(by rw [hw];exact (by refine pQ ?_;refine blk_far ?_ NB607_610.out _;refine pQ ?_;refine blk_far ?_ NB607_610.out _;refine pQ ?_;refine blk_far ?_ NB607_610.out _;exact pK BK607))⟩;have n5_:Aside0 (w58.heap[gb608]?=some (.cells #[u609000] 25 (0,0))):=⟨(by rw [hw];exact (by refine pQ ?_;refine blk_far ?_ NB608_610.out _;refine pQ ?_;refine blk_far ?_ NB608_610.out _;refine pQ ?_;refine blk_far ?_ NB608_610.out _;exact pK BK608))⟩;have n6_:Aside0 (w58.heap[gb610]?=some (.cells #[.bool false,.int .i64 t625,.slice Ao56 t626.length co56,.slice Ao57 t629.length co57] 92 (0,0))):=⟨(by rw [hw];exact (by refine pQ ?_;refine blk_put (cs:=#[.bool false,.int .i64 t625,.slice Ao56 t626.length co56,.slice A609_3 ((rd_T92 l0_0 x11_1).f1.f2).length c609_3]) ?_ 3 _ rfl;refine pQ ?_;refine blk_put (cs:=#[.bool false,.int .i64 t625,.slice A609_2 ((rd_T92 l0_0 x11_1).f1.f1).length c609_2,.slice A609_3 ((rd_T92 l0_0 x11_1).f1.f2).length c609_3]) ?_ 2 _ rfl;refine pQ ?_;refine blk_put (cs:=#[.bool false,.int .i64 ((rd_T92 l0_0 x11_1).f1.f0),.slice A609_2 ((rd_T92 l0_0 x11_1).f1.f1).length c609_2,.slice A609_3 ((rd_T92 l0_0 x11_1).f1.f2).length c609_3]) ?_ 1 _ rfl;exact pK BK610))⟩;have n7_:Aside0 (Below w.heap.size w w58):=⟨(by rw [hw];exact pB)⟩;clear hw HO_609000 HO628 HO631 BK606 BK607 BK608 BK610 HB;have HO_609000:=n0_;have HO628:=n1_;have HO631:=n2_;have BK606:=n3_;have BK607:=n4_;have BK608:=n5_;have BK610:=n6_;have HB:=n7_;clear n0_ n1_ n2_ n3_ n4_ n5_ n6_ n7_;have hnb59:=NB608_606.out;have hnc59:=NB606_608.out;have hnb60:=NB608_607.out;have hnc60:=NB607_608.out;obtain ⟨hcz61_0,hfz61_0⟩:=p1 BK608;obtain ⟨hcz62_0,hcz62_1,hcz62_2,hcz62_3,hfz62_0,hfz62_1,hfz62_2,hfz62_3⟩:=p4 BK610)|((with_reducible refine gate_builtin (b:=.append) (xs:=#[.tmp 35,.tmp 37]) rfl ?_);at_builtin;refine Kd.R_append k92 (w0:=w) w.heap.size rfl (.tmp 35) (.tmp 37) 23 92 (.agg #[(.bool false),(.int .i64 0),(.slice none 0 0),(.slice none 0 0)]) 64 rfl Tryz.underlying23 info92 rfl (by decide) (by omega) u609000 x609000_1 (⟨false,(⟨t625,t626,t629⟩:S90)⟩:S92) [.bool false,.int .i64 t625,.slice Ao56 t626.length co56,.slice Ao57 t629.length co57] (fun k_=>k_ ≠ gb610) (fun k_=>((fun k_=>k_ ≠ gb610)) k_∧some k_ ≠ (u609000:Value).ownBlock) rfl rfl ?aP (fun _ hk=>hk) ?aF ?aO ?aB ?aS ?aL ?_;(case aP=>exact k92_mkM _ _ _ (⟨false,(⟨t625,t626,t629⟩:S90)⟩:S92) (Kd.R_mono (Kd.R_types (Kd.R_apart' (HO628.out) (Kd.R_typed HO_609000.out) (by decide)) BK610.out (by decide)) (fun k_ hk=>⟨hk.2,hk.1.2⟩)) (Kd.R_mono (Kd.R_types (Kd.R_apart' (HO631.out) (Kd.R_typed HO_609000.out) (by decide)) BK610.out (by decide)) (fun k_ hk=>⟨hk.2,hk.1.2⟩)));(case aB=>exact pB);(case aF=>exact (fun k_ hk=>Kd.freshB (g:=gb610) (o:=.cells #[.bool false,.int .i64 t625,.slice Ao56 t626.length co56,.slice Ao57 t629.length co57] 92 (0,0)) (pK BK610) k_ hk));(case aO=>exact (by refine pP ?_;exact Kd.R_mono HO_609000.out (fun _ hk=>hk.2.2)));(case aS=>exact (below_size pB));(case aL=>have:=LMc48.out;omega);intro v633 w63 ho hb hg hat;rw [← Ny632.out] at ho;have n0_:=Z (blk_grown (g:=gb606) (o:=.cells #[.slice (some ad609) l0_0.length c0_0] 25 (0,0)) (pK BK606) hg (Kd.R_ne HO_609000.out BK606.out (by decide)));have n1_:=Z (blk_grown (g:=gb607) (o:=.cells #[.slice none 0 0] 25 (0,0)) (pK BK607) hg (Kd.R_ne HO_609000.out BK607.out (by decide)));have n2_:=Z (blk_grown (g:=gb608) (o:=.cells #[u609000] 25 (0,0)) (pK BK608) hg (Kd.R_ne HO_609000.out BK608.out (by decide)));have n3_:=Z (blk_grown (g:=gb610) (o:=.cells #[.bool false,.int .i64 t625,.slice Ao56 t626.length co56,.slice Ao57 t629.length co57] 92 (0,0)) (pK BK610) hg (Kd.R_away HO_609000.out (fun _ hk=>hk.2.2)));have n4_:=Z (hb);have n5_:=Z (ho);clear BK606 BK607 BK608 BK610 HB HO_609000 HO628 HO631;have BK606:=n0_;have BK607:=n1_;have BK608:=n2_;have BK610:=n3_;have HB:=n4_;have HO634:=n5_;clear n0_ n1_ n2_ n3_ n4_ n5_ ho hb hg hat;obtain ⟨Ao64,co64,eo64⟩:=Kd.R_slice HO634.out;subst eo64;obtain ⟨hcz65_0,hfz65_0⟩:=p1 BK608))
         go_roundg k1
         case measure=>have:=HK1.out;omega
         case rel=>exact ⟨(wrap64 (x11_1+1)),(y632),(.slice Ao64 y632.length co64),pE,H',⟨by have:=HK1.out;omega⟩,⟨by refine pP ?_;exact Kd.R_mono (Kd.R_far (p:=⟨gb608,0,none⟩) (Kd.R_types HO634.out BK608.out (by decide)) (fun _ hk=>hk.2) (.slice Ao64 y632.length co64)) (fun _ hk=>trivial)⟩,⟨by refine pQ ?_;refine blk_far ?_ NB606_608.out _;exact pK BK606⟩,⟨by refine pQ ?_;refine blk_far ?_ NB607_608.out _;exact pK BK607⟩,⟨by refine pQ ?_;refine blk_put (cs:=#[u609000]) ?_ 0 _ rfl;exact pK BK608⟩,⟨pB⟩⟩
        ·rw [if_neg c48] at H
         exact absurd H (by simp)
     ·rw [if_neg c11] at H
      exact absurd H (by simp)
    ·rw [if_neg c10] at H
     exact absurd H (by simp)
   ·rw [if_neg c9] at H
    have c9b0:decide (x11_1 < (l0_0.length:Int))=false:=decide_eq_false c9
    clear c9
    obtain rfl:=Option.some.inj H
    have hnb66:=NB608_606.out
    have hnc66:=NB606_608.out
    have hnb67:=NB608_607.out
    have hnc67:=NB607_608.out
    have hcz68_0:=pV BK608 (u609000) 0 rfl
    have hfz68_0:=kF BK608.out 0
    obtain ⟨Ao69,co69,eo69⟩:=Kd.R_slice HO_609000.out
    subst eo69
    have hnb70:=NB607_606.out
    have hnc70:=NB606_607.out
    have hcz71_0:=pV BK607 (.slice none 0 0) 0 rfl
    have hfz71_0:=kF BK607.out 0
    go_wp2
    refine bodyPost_ret (results_cell_row rfl _ _ gb607 25 #[.slice Ao69 x609000_1.length co69] (0,0) _ rfl (by refine pQ ?_;refine blk_put (cs:=#[.slice none 0 0]) ?_ 0 _ rfl;exact pK BK607) Tryz.underlying25 rfl pU) rfl ?_
    exact ⟨_,pF,by refine pP ?_;exact Kd.R_mono (Kd.R_far (p:=⟨gb607,0,none⟩) (Kd.R_types HO_609000.out BK607.out (by decide)) (fun _ hk=>hk.2) (.slice Ao69 x609000_1.length co69)) (fun _ hk=>trivial),pB⟩
def closure_inside.f (k:Nat) (l0_0:List (S92)) (a1:Int):Option (Bool):=(configuration_Declared.f k l0_0).bind fun t157=>(some ((Go.bits .andNot .i64 a1 t157) == 0))
set_option maxHeartbeats 8000000 in
set_option maxRecDepth 100000 in
theorem closure_inside.calls (k:Nat) (A0_0:Option Addr) (c0_0:Nat) (l0_0:List (S92)) (a1:Int) (r:Bool) (w:World) (hr0_0:Kd.C k92 w A0_0 l0_0.length l0_0) (hc0_0:l0_0.length≤c0_0) (h:closure_inside.f k l0_0 a1=some r) :
  Calls Tryz.prog 178 #[.agg #[.slice A0_0 l0_0.length c0_0],.int .i64 a1] w fun e w'=>e=.returned (.bool r)∧Below w.heap.size w w':=by
 have hu25:=Tryz.underlying25
 have HR0_0:=Z hr0_0
 have HC0_0:=Z hc0_0
 clear hr0_0 hc0_0
 have HB:=Z (Below.refl w.heap.size w)
 have H:((configuration_Declared.f k l0_0).bind fun t157=>(some ((Go.bits .andNot .i64 a1 t157) == 0)))=some r:=h
 clear h
 replace H:=pO H
 obtain ⟨t157,A30,H⟩:=H
 try dsimp only at H
 have A3:=Z A30
 clear A30
 obtain rfl:=Option.some.inj H
 go_enter Tryz.func178,Tryz.ntmps178
 go_wp2_with (first|((with_reducible refine gate_dst (N:=2) rfl ?_);refine box_event ?hg (N:=2) ?hd (cs:=#[.slice A0_0 l0_0.length c0_0]) (t:=25) ?hr ?_;(case hd=>rfl);(case hg=>rfl);(case hr=>first|(go_simp;done)|(go_simp;rfl));intro gb156 hg w4 hbox hb;have n0_:=Z (below_step pB hb);have BK156:=Z (hbox);have GW156:=Z ((pT hg:w.heap.size≤gb156));have GE156:=Z ((pT hg:w.heap.size≤gb156));clear HB;have HB:=n0_;clear n0_ hb hbox hg;obtain ⟨hcz5_0,hfz5_0⟩:=p1 BK156)|((with_reducible refine gate_callee (f:=102) rfl ?_);refine goesL_ (some 7) rfl rfl Tryz.func102 pU rfl #[.agg #[.slice A0_0 l0_0.length c0_0]] rfl pG ?_;(with_reducible refine (configuration_Declared.calls k _ _ l0_0 t157 _ ?side1 ?side2 A3.out).mono ?_);(case side1=>exact pC HR0_0);(case side2=>exact HC0_0.out);rintro e w6 ⟨rfl,hb⟩;refine ⟨_,rfl,?_⟩;replace BK156:=Z (blk_below (g:=gb156) (o:=.cells #[.slice A0_0 l0_0.length c0_0] 25 (0,0)) (pK BK156) hb);have n1_:=Z (below_step pB hb);clear HB;have HB:=n1_;clear n1_;(try clear hb);(try clear hb2);(try clear hk);(try clear hi)))
 go_ret
 exact ⟨pF,pB⟩
def closure_Quorum.f (k:Nat) (l0_0:List (S92)) (a1:Int):Option (Bool):=(nodeset_Valid.f a1).bind fun t179=>(if t179=true then (if a1=0 then (some false) else ((closure_inside.f k l0_0 a1).bind fun t180=>(if t180=true then ((closure_unhappy.f k l0_0 a1).bind fun bt181=>(some (!bt181.2))) else (some false)))) else (some false))
set_option maxHeartbeats 8000000 in
set_option maxRecDepth 100000 in
theorem closure_Quorum.calls (k:Nat) (A0_0:Option Addr) (c0_0:Nat) (l0_0:List (S92)) (a1:Int) (r:Bool) (w:World) (hr0_0:Kd.C k92 w A0_0 l0_0.length l0_0) (hc0_0:l0_0.length≤c0_0) (h:closure_Quorum.f k l0_0 a1=some r) :
  Calls Tryz.prog 144 #[.agg #[.slice A0_0 l0_0.length c0_0],.int .i64 a1] w fun e w'=>e=.returned (.bool r)∧Below w.heap.size w w':=by
 have hu25:=Tryz.underlying25
 have HR0_0:=Z hr0_0
 have HC0_0:=Z hc0_0
 clear hr0_0 hc0_0
 have HB:=Z (Below.refl w.heap.size w)
 have H:((nodeset_Valid.f a1).bind fun t179=>(if t179=true then (if a1=0 then (some false) else ((closure_inside.f k l0_0 a1).bind fun t180=>(if t180=true then ((closure_unhappy.f k l0_0 a1).bind fun bt181=>(some (!bt181.2))) else (some false)))) else (some false)))=some r:=h
 clear h
 replace H:=pO H
 obtain ⟨t179,A30,H⟩:=H
 try dsimp only at H
 have A3:=Z A30
 clear A30
 by_cases c4:t179=true
 ·subst c4
  rw [if_pos rfl] at H
  by_cases c5:a1=0
  ·rw [if_pos c5] at H
   have c5b0:(a1 == 0)=true:=beq_iff_eq.mpr c5
   have c5b1:(a1 != 0)=false:=bne_eq_false_iff_eq.mpr c5
   clear c5
   obtain rfl:=Option.some.inj H
   go_enter Tryz.func144,Tryz.ntmps144
   go_wp2_with (first|((with_reducible refine gate_dst (N:=2) rfl ?_);refine box_event ?hg (N:=2) ?hd (cs:=#[.slice A0_0 l0_0.length c0_0]) (t:=25) ?hr ?_;(case hd=>rfl);(case hg=>rfl);(case hr=>first|(go_simp;done)|(go_simp;rfl));intro gb178 hg w6 hbox hb;have n0_:=Z (below_step pB hb);have BK178:=Z (hbox);have GW178:=Z ((pT hg:w.heap.size≤gb178));have GE178:=Z ((pT hg:w.heap.size≤gb178));clear HB;have HB:=n0_;clear n0_ hb hbox hg)|((with_reducible refine gate_callee (f:=160) rfl ?_);refine goesL_ (some 8) rfl rfl Tryz.func160 pU rfl #[.int .i64 a1] rfl pG ?_;(with_reducible refine (nodeset_Valid.calls a1 true _ A3.out).mono ?_);rintro e w' ⟨rfl,⟨nd,rfl⟩⟩;refine ⟨_,rfl,?_⟩))
   go_ret
   exact ⟨pF,pB⟩
  ·rw [if_neg c5] at H
   have c5b0:(a1 == 0)=false:=beq_eq_false_iff_ne.mpr c5
   have c5b1:(a1 != 0)=true:=bne_iff_ne.mpr c5
   replace H:=pO H
   obtain ⟨t180,A70,H⟩:=H
   try dsimp only at H
   have A7:=Z A70
   clear A70
   by_cases c8:t180=true
   ·subst c8
    rw [if_pos rfl] at H
    replace H:=pO H
    obtain ⟨⟨t181,t182⟩,A90,H⟩:=H
    try dsimp only at H
    have A9:=Z A90
    clear A90
    obtain rfl:=Option.some.inj H
    go_enter Tryz.func144,Tryz.ntmps144
    go_wp2_with (first|((with_reducible refine gate_dst (N:=2) rfl ?_);refine box_event ?hg (N:=2) ?hd (cs:=#[.slice A0_0 l0_0.length c0_0]) (t:=25) ?hr ?_;(case hd=>rfl);(case hg=>rfl);(case hr=>first|(go_simp;done)|(go_simp;rfl));intro gb178 hg w10 hbox hb;have n0_:=Z (below_step pB hb);have BK178:=Z (hbox);have GW178:=Z ((pT hg:w.heap.size≤gb178));have GE178:=Z ((pT hg:w.heap.size≤gb178));clear HB;have HB:=n0_;clear n0_ hb hbox hg)|((with_reducible refine gate_callee (f:=160) rfl ?_);refine goesL_ (some 8) rfl rfl Tryz.func160 pU rfl #[.int .i64 a1] rfl pG ?_;(with_reducible refine (nodeset_Valid.calls a1 true _ A3.out).mono ?_);rintro e w' ⟨rfl,⟨nd,rfl⟩⟩;refine ⟨_,rfl,?_⟩;obtain ⟨hcz11_0,hfz11_0⟩:=p1 BK178)|(go_at_call 178;(with_reducible refine (closure_inside.calls k _ _ l0_0 a1 true _ ?side1 ?side2 A7.out).mono ?_);(case side1=>exact pC HR0_0);(case side2=>exact HC0_0.out);rintro e w12 ⟨rfl,hb⟩;replace BK178:=Z (blk_below (g:=gb178) (o:=.cells #[.slice A0_0 l0_0.length c0_0] 25 (0,0)) (pK BK178) hb);have n1_:=Z (below_step pB hb);clear HB;have HB:=n1_;clear n1_;(try clear hb);(try clear hb2);(try clear hk);(try clear hi);obtain ⟨hcz13_0,hfz13_0⟩:=p1 BK178)|((with_reducible refine gate_callee (f:=179) rfl ?_);refine goesL_ (some 23) rfl rfl Tryz.func179 pU rfl #[.agg #[.slice A0_0 l0_0.length c0_0],.int .i64 a1] rfl pG ?_;(with_reducible refine (closure_unhappy.calls k _ _ l0_0 a1 t181 t182 _ ?side1 ?side2 A9.out).mono ?_);(case side1=>exact pC HR0_0);(case side2=>exact HC0_0.out);rintro e w14 ⟨rfl,hb⟩;refine ⟨_,rfl,?_⟩;replace BK178:=Z (blk_below (g:=gb178) (o:=.cells #[.slice A0_0 l0_0.length c0_0] 25 (0,0)) (pK BK178) hb);have n1_:=Z (below_step pB hb);clear HB;have HB:=n1_;clear n1_;(try clear hb);(try clear hb2);(try clear hk);(try clear hi)))
    go_ret
    exact ⟨pF,pB⟩
   ·replace c8:=Bool.eq_false_iff.mpr c8
    subst c8
    rw [if_neg (show ¬ (false=true) by decide)] at H
    obtain rfl:=Option.some.inj H
    go_enter Tryz.func144,Tryz.ntmps144
    go_wp2_with (first|((with_reducible refine gate_dst (N:=2) rfl ?_);refine box_event ?hg (N:=2) ?hd (cs:=#[.slice A0_0 l0_0.length c0_0]) (t:=25) ?hr ?_;(case hd=>rfl);(case hg=>rfl);(case hr=>first|(go_simp;done)|(go_simp;rfl));intro gb178 hg w15 hbox hb;have n0_:=Z (below_step pB hb);have BK178:=Z (hbox);have GW178:=Z ((pT hg:w.heap.size≤gb178));have GE178:=Z ((pT hg:w.heap.size≤gb178));clear HB;have HB:=n0_;clear n0_ hb hbox hg)|((with_reducible refine gate_callee (f:=160) rfl ?_);refine goesL_ (some 8) rfl rfl Tryz.func160 pU rfl #[.int .i64 a1] rfl pG ?_;(with_reducible refine (nodeset_Valid.calls a1 true _ A3.out).mono ?_);rintro e w' ⟨rfl,⟨nd,rfl⟩⟩;refine ⟨_,rfl,?_⟩;obtain ⟨hcz16_0,hfz16_0⟩:=p1 BK178)|(go_at_call 178;(with_reducible refine (closure_inside.calls k _ _ l0_0 a1 false _ ?side1 ?side2 A7.out).mono ?_);(case side1=>exact pC HR0_0);(case side2=>exact HC0_0.out);rintro e w17 ⟨rfl,hb⟩;replace BK178:=Z (blk_below (g:=gb178) (o:=.cells #[.slice A0_0 l0_0.length c0_0] 25 (0,0)) (pK BK178) hb);have n1_:=Z (below_step pB hb);clear HB;have HB:=n1_;clear n1_;(try clear hb);(try clear hb2);(try clear hk);(try clear hi)))
    go_ret
    exact ⟨pF,pB⟩
 ·replace c4:=Bool.eq_false_iff.mpr c4
  subst c4
  rw [if_neg (show ¬ (false=true) by decide)] at H
  obtain rfl:=Option.some.inj H
  go_enter Tryz.func144,Tryz.ntmps144
  go_wp2_with (first|((with_reducible refine gate_dst (N:=2) rfl ?_);refine box_event ?hg (N:=2) ?hd (cs:=#[.slice A0_0 l0_0.length c0_0]) (t:=25) ?hr ?_;(case hd=>rfl);(case hg=>rfl);(case hr=>first|(go_simp;done)|(go_simp;rfl));intro gb178 hg w18 hbox hb;have n0_:=Z (below_step pB hb);have BK178:=Z (hbox);have GW178:=Z ((pT hg:w.heap.size≤gb178));have GE178:=Z ((pT hg:w.heap.size≤gb178));clear HB;have HB:=n0_;clear n0_ hb hbox hg)|((with_reducible refine gate_callee (f:=160) rfl ?_);refine goesL_ (some 8) rfl rfl Tryz.func160 pU rfl #[.int .i64 a1] rfl pG ?_;(with_reducible refine (nodeset_Valid.calls a1 false _ A3.out).mono ?_);rintro e w' ⟨rfl,⟨nd,rfl⟩⟩;refine ⟨_,rfl,?_⟩))
  go_ret
  exact ⟨pF,pB⟩
mutual
def nodeset_Next.j0:Nat→Int→Int→Bool→Option (Int × Bool)
 | 0,_,_,_=>none
 | k+1,x0,x1,x19=>if x19=true then (some (0,false)) else ((nodeset_Size.f x0).bind fun t636=>(nodeset_Next.l0 k x1 t636 (wrap64 (x0+1))))
def nodeset_Next.l0:Nat→Int→Int→Int→Option (Int × Bool)
 | 0,_,_,_=>none
 | k+1,x1,x6,x7=>(nodeset_below.f x7 x1).bind fun t637=>(if t637=true then ((nodeset_Size.f x7).bind fun t638=>(if t638=x6 then (some (x7,true)) else (nodeset_Next.l0 k x1 x6 (wrap64 (x7+1))))) else (if x6=x1 then (some (0,false)) else (if 0≤(wrap64 (x6+1)) then (some (wrap64 ((shl .i64 1 (wrap64 (x6+1))) - 1),true)) else (none))))
end
def nodeset_Next.f (k:Nat) (a0:Int) (a1:Int):Option (Int × Bool):=if a1 < 0 then (nodeset_Next.j0 k a0 a1 true) else (if a1 > 10 then (nodeset_Next.j0 k a0 a1 true) else ((nodeset_below.f a0 a1).bind fun t635=>(nodeset_Next.j0 k a0 a1 (!t635))))
set_option maxHeartbeats 8000000 in
set_option maxRecDepth 100000 in
theorem nodeset_Next.calls (k:Nat) (a0:Int) (a1:Int) (r1:Int) (r2:Bool) (w:World) (h:nodeset_Next.f k a0 a1=some (r1,r2)) :
  Calls Tryz.prog 200 #[.int .i64 a0,.int .i64 a1] w fun e w'=>e=.returned (.tuple #[.int .i64 r1,.bool r2])∧Drawn0 w w':=by
 have H:(if a1 < 0 then (nodeset_Next.j0 k a0 a1 true) else (if a1 > 10 then (nodeset_Next.j0 k a0 a1 true) else ((nodeset_below.f a0 a1).bind fun t635=>(nodeset_Next.j0 k a0 a1 (!t635)))))=some (r1,r2):=h
 clear h
 have HC3:=Z H
 clear H
 go_enter Tryz.func200,Tryz.ntmps200
 go_upto_region 1 with (fail)
 go_cut [19] (fun v19 wc=>∃ (kq:Nat) (x19_2:Bool),v19=.bool x19_2∧Aside0 (nodeset_Next.j0 kq a0 a1 x19_2=some (r1,r2))∧Aside0 (kq≤k)∧Drawn0 w wc)
 case first =>
  have H:=HC3.out
  clear HC3
  by_cases c4:a1 < 0
  ·rw [if_pos c4] at H
   have c4b0:decide (a1 < 0)=true:=decide_eq_true c4
   clear c4
   (first|rw [c4b0]|(simp only [i64_w,i32_w];rw [c4b0])|skip)
   have H':=Z H
   clear H
   go_wp2
   go_meet
   case rel=>exact ⟨_,(true),pE,H',⟨by first|omega|exact Nat.le_refl _⟩,by repeat (first|exact Drawn0.refl _|apply Drawn0.step)⟩
  ·rw [if_neg c4] at H
   have c4b0:decide (a1 < 0)=false:=decide_eq_false c4
   clear c4
   (first|rw [c4b0]|(simp only [i64_w,i32_w];rw [c4b0])|skip)
   by_cases c5:a1 > 10
   ·rw [if_pos c5] at H
    have c5b0:decide (10 < a1)=true:=decide_eq_true c5
    clear c5
    have H':=Z H
    clear H
    go_wp2
    go_meet
    case rel=>exact ⟨_,(true),pE,H',⟨by first|omega|exact Nat.le_refl _⟩,by repeat (first|exact Drawn0.refl _|apply Drawn0.step)⟩
   ·rw [if_neg c5] at H
    have c5b0:decide (10 < a1)=false:=decide_eq_false c5
    clear c5
    replace H:=pO H
    obtain ⟨t635,A60,H⟩:=H
    try dsimp only at H
    have A6:=Z A60
    clear A60
    have H':=Z H
    clear H
    go_wp2_with (first|(go_at_call 191;(with_reducible refine (nodeset_below.calls a0 a1 t635 _ A6.out).mono ?_);rintro e w' ⟨rfl,⟨nd,rfl⟩⟩))
    go_meet
    case rel=>exact ⟨_,(!t635),pE,H',⟨by first|omega|exact Nat.le_refl _⟩,by repeat (first|exact Drawn0.refl _|apply Drawn0.step)⟩
 case rest =>
  clear HC3
  try clear c2
  try clear p2
  try clear c4
  try clear c4b0
  try clear c5
  try clear c5b0
  obtain ⟨kq,x19_2,rfl,HA,HJ2,⟨mc2,rfl⟩⟩:=hcut
  cases kq with
  | zero=>exact absurd HA.out (by simp [nodeset_Next.j0])
  | succ kj2 =>
   have H:=HA.out
   clear HA
   simp only [nodeset_Next.j0] at H
   by_cases c7:x19_2=true
   ·subst c7
    rw [if_pos rfl] at H
    simp only [Option.some.injEq,Prod.mk.injEq] at H
    obtain ⟨rfl,rfl⟩:=H
    go_wp2
    go_ret2
    exact ⟨pE,pD⟩
   ·replace c7:=Bool.eq_false_iff.mpr c7
    subst c7
    rw [if_neg (show ¬ (false=true) by decide)] at H
    replace H:=pO H
    obtain ⟨t636,A80,H⟩:=H
    try dsimp only at H
    have A8:=Z A80
    clear A80
    have H':=Z H
    clear H
    go_wp2_with (first|((with_reducible refine gate_callee (f:=175) rfl ?_);refine goesL_ (some 21) rfl rfl Tryz.func175 pU rfl #[.int .i64 a0] rfl pG ?_;(with_reducible refine (nodeset_Size.calls a0 t636 _ A8.out).mono ?_);rintro e w' ⟨rfl,⟨nd,rfl⟩⟩;refine ⟨_,rfl,?_⟩))
    go_loopg [7] kj2 (fun kq v7 w'=>∃ (x7_2:Int),v7=.int .i64 x7_2∧Aside0 (nodeset_Next.l0 kq a1 t636 x7_2=some (r1,r2))∧Aside0 (kq≤kj2)∧Drawn0 w w')
    case atStart=>exact ⟨(wrap64 (a0+1)),pE,H',⟨Nat.le_refl _⟩,by repeat (first|exact Drawn0.refl _|apply Drawn0.step)⟩
    case round =>
     clear H'
     try clear c1
     try clear c2
     try clear p2
     try clear c4
     try clear c4b0
     try clear c5
     try clear c5b0
     try clear p6
     try clear c7
     obtain ⟨x7_2,rfl,HA,HK2,⟨m2,rfl⟩⟩:=hrel
     cases gk with
     | zero=>exact absurd HA.out (by simp [nodeset_Next.l0])
     | succ k2 =>
      have H:=HA.out
      clear HA
      simp only [nodeset_Next.l0] at H
      replace H:=pO H
      obtain ⟨t637,A90,H⟩:=H
      try dsimp only at H
      have A9:=Z A90
      clear A90
      by_cases c10:t637=true
      ·subst c10
       rw [if_pos rfl] at H
       replace H:=pO H
       obtain ⟨t638,A110,H⟩:=H
       try dsimp only at H
       have A11:=Z A110
       clear A110
       by_cases c12:t638=t636
       ·rw [if_pos c12] at H
        have c12b0:(t638 == t636)=true:=beq_iff_eq.mpr c12
        have c12b1:(t638 != t636)=false:=bne_eq_false_iff_eq.mpr c12
        clear c12
        simp only [Option.some.injEq,Prod.mk.injEq] at H
        obtain ⟨rfl,rfl⟩:=H
        go_wp2_with (first|((with_reducible refine gate_callee (f:=191) rfl ?_);refine goesL_ (some 26) rfl rfl Tryz.func191 pU rfl #[.int .i64 x7_2,.int .i64 a1] rfl pG ?_;(with_reducible refine (nodeset_below.calls x7_2 a1 true _ A9.out).mono ?_);rintro e w' ⟨rfl,⟨nd,rfl⟩⟩;refine ⟨_,rfl,?_⟩)|((with_reducible refine gate_callee (f:=175) rfl ?_);refine goesL_ (some 30) rfl rfl Tryz.func175 pU rfl #[.int .i64 x7_2] rfl pG ?_;(with_reducible refine (nodeset_Size.calls x7_2 t638 _ A11.out).mono ?_);rintro e w' ⟨rfl,⟨nd,rfl⟩⟩;refine ⟨_,rfl,?_⟩))
        go_ret2
        exact ⟨pE,pD⟩
       ·rw [if_neg c12] at H
        have c12b0:(t638 == t636)=false:=beq_eq_false_iff_ne.mpr c12
        have c12b1:(t638 != t636)=true:=bne_iff_ne.mpr c12
        have H':=Z H
        clear H
        go_wp2_with (first|((with_reducible refine gate_callee (f:=191) rfl ?_);refine goesL_ (some 26) rfl rfl Tryz.func191 pU rfl #[.int .i64 x7_2,.int .i64 a1] rfl pG ?_;(with_reducible refine (nodeset_below.calls x7_2 a1 true _ A9.out).mono ?_);rintro e w' ⟨rfl,⟨nd,rfl⟩⟩;refine ⟨_,rfl,?_⟩)|((with_reducible refine gate_callee (f:=175) rfl ?_);refine goesL_ (some 30) rfl rfl Tryz.func175 pU rfl #[.int .i64 x7_2] rfl pG ?_;(with_reducible refine (nodeset_Size.calls x7_2 t638 _ A11.out).mono ?_);rintro e w' ⟨rfl,⟨nd,rfl⟩⟩;refine ⟨_,rfl,?_⟩))
        go_roundg k2
        case measure=>have:=HJ2.out;have:=HK2.out;omega
        case rel=>exact ⟨(wrap64 (x7_2+1)),pE,H',⟨by have:=HJ2.out;have:=HK2.out;omega⟩,by repeat (first|exact Drawn0.refl _|apply Drawn0.step)⟩
      ·replace c10:=Bool.eq_false_iff.mpr c10
       subst c10
       rw [if_neg (show ¬ (false=true) by decide)] at H
       by_cases c13:t636=a1
       ·rw [if_pos c13] at H
        have c13b0:(t636 == a1)=true:=beq_iff_eq.mpr c13
        have c13b1:(t636 != a1)=false:=bne_eq_false_iff_eq.mpr c13
        clear c13
        simp only [Option.some.injEq,Prod.mk.injEq] at H
        obtain ⟨rfl,rfl⟩:=H
        go_wp2_with (first|((with_reducible refine gate_callee (f:=191) rfl ?_);refine goesL_ (some 26) rfl rfl Tryz.func191 pU rfl #[.int .i64 x7_2,.int .i64 a1] rfl pG ?_;(with_reducible refine (nodeset_below.calls x7_2 a1 false _ A9.out).mono ?_);rintro e w' ⟨rfl,⟨nd,rfl⟩⟩;refine ⟨_,rfl,?_⟩))
        go_ret2
        exact ⟨pE,pD⟩
       ·rw [if_neg c13] at H
        have c13b0:(t636 == a1)=false:=beq_eq_false_iff_ne.mpr c13
        have c13b1:(t636 != a1)=true:=bne_iff_ne.mpr c13
        obtain ⟨ji14,hji14⟩:∃ j_:Int,(wrap64 (t636+1))=j_:=⟨_,rfl⟩
        replace H:(if 0≤(ji14) then (some (wrap64 ((shl .i64 1 (ji14)) - 1),true)) else (none))=some (r1,r2):=by first|(rw [hji14] at H;exact H)|(simp only [hji14] at H ⊢;exact H)
        (try rw [hji14] at A9)
        have hji14w:(IntKind.i64.wrap (t636+1))=ji14:=(i64_w _).trans hji14
        by_cases c15:0≤(ji14)
        ·rw [if_pos c15] at H
         have c15b0:=eq_true c15
         have c15b1:decide (0≤(ji14))=true:=decide_eq_true c15
         clear c15
         obtain ⟨ji16,hji16⟩:∃ j_:Int,(shl .i64 1 (ji14))=j_:=⟨_,rfl⟩
         replace H:(some (wrap64 ((ji16) - 1),true))=some (r1,r2):=by first|(rw [hji16] at H;exact H)|(simp only [hji16] at H ⊢;exact H)
         (try rw [hji16] at A9)
         have hji16_:(IntKind.i64.wrap (1 * 2 ^ min (ji14).toNat 64))=ji16:=hji16
         have hji16z:(ji14)≤64→(IntKind.i64.wrap (1 * 2 ^ (ji14).toNat))=ji16:=shl_small hji16
         have hji16u:(IntKind.i64.wrap (2 ^ min (ji14).toNat 64))=ji16:=by have h_:=hji16_;rw [Int.one_mul] at h_;exact h_
         have hji16v:(ji14)≤64→(IntKind.i64.wrap (2 ^ (ji14).toNat))=ji16:=fun hle_=>by have h_:=hji16z hle_;rw [Int.one_mul] at h_;exact h_
         have hji16y:(wrap64 (1 * 2 ^ min (ji14).toNat 64))=ji16:=(i64_w _).symm.trans hji16_
         have hji16x:(ji14)≤64→(wrap64 (1 * 2 ^ (ji14).toNat))=ji16:=fun h_=>(i64_w _).symm.trans (hji16z h_)
         simp only [Option.some.injEq,Prod.mk.injEq] at H
         obtain ⟨rfl,rfl⟩:=H
         go_wp2_with (first|((with_reducible refine gate_callee (f:=191) rfl ?_);refine goesL_ (some 26) rfl rfl Tryz.func191 pU rfl #[.int .i64 x7_2,.int .i64 a1] rfl pG ?_;(with_reducible refine (nodeset_below.calls x7_2 a1 false _ A9.out).mono ?_);rintro e w' ⟨rfl,⟨nd,rfl⟩⟩;refine ⟨_,rfl,?_⟩))
         go_ret2
         exact ⟨by first|rfl|(simp;done)|(simp only [← hji14,← hji16] <;> (first|rfl|simp))|(simp [*];done),by repeat (first|exact Drawn0.refl _|apply Drawn0.step)⟩
        ·rw [if_neg c15] at H
         exact absurd H (by simp)
def intersection_members.f (l0_0:List (S92)):Option (Int):=some (wrap64 ((shl .i64 1 (l0_0.length:Int)) - 1))
set_option maxHeartbeats 8000000 in
set_option maxRecDepth 100000 in
theorem intersection_members.calls (A0_0:Option Addr) (c0_0:Nat) (l0_0:List (S92)) (r:Int) (w:World) (hr0_0:Kd.C k92 w A0_0 l0_0.length l0_0) (hc0_0:l0_0.length≤c0_0) (h:intersection_members.f l0_0=some r) :
  Calls Tryz.prog 201 #[.agg #[.slice A0_0 l0_0.length c0_0]] w fun e w'=>e=.returned (.int .i64 r)∧Below w.heap.size w w':=by
 have hu25:=Tryz.underlying25
 have HR0_0:=Z hr0_0
 have HC0_0:=Z hc0_0
 clear hr0_0 hc0_0
 have HB:=Z (Below.refl w.heap.size w)
 have H:(some (wrap64 ((shl .i64 1 (l0_0.length:Int)) - 1)))=some r:=h
 clear h
 obtain ⟨ji2,hji2⟩:∃ j_:Int,(shl .i64 1 (l0_0.length:Int))=j_:=⟨_,rfl⟩
 replace H:(some (wrap64 ((ji2) - 1)))=some r:=by first|(rw [hji2] at H;exact H)|(simp only [hji2] at H ⊢;exact H)
 have hji2_:(IntKind.i64.wrap (1 * 2 ^ min (l0_0.length:Int).toNat 64))=ji2:=hji2
 have hji2z:(l0_0.length:Int)≤64→(IntKind.i64.wrap (1 * 2 ^ (l0_0.length:Int).toNat))=ji2:=shl_small hji2
 have hji2p:(IntKind.i64.wrap (1 * 2 ^ min l0_0.length 64))=ji2:=hji2_
 have hji2q:(l0_0.length:Int)≤64→(IntKind.i64.wrap (1 * 2 ^ l0_0.length))=ji2:=hji2z
 have hji2r:(IntKind.i64.wrap (2 ^ min l0_0.length 64))=ji2:=by have h_:=hji2p;rw [Int.one_mul] at h_;exact h_
 have hji2s:(l0_0.length:Int)≤64→(IntKind.i64.wrap (2 ^ l0_0.length))=ji2:=fun hle_=>by have h_:=hji2q hle_;rw [Int.one_mul] at h_;exact h_
 have hji2u:(IntKind.i64.wrap (2 ^ min (l0_0.length:Int).toNat 64))=ji2:=by have h_:=hji2_;rw [Int.one_mul] at h_;exact h_
 have hji2v:(l0_0.length:Int)≤64→(IntKind.i64.wrap (2 ^ (l0_0.length:Int).toNat))=ji2:=fun hle_=>by have h_:=hji2z hle_;rw [Int.one_mul] at h_;exact h_
 have hji2y:(wrap64 (1 * 2 ^ min (l0_0.length:Int).toNat 64))=ji2:=(i64_w _).symm.trans hji2_
 have hji2x:(l0_0.length:Int)≤64→(wrap64 (1 * 2 ^ (l0_0.length:Int).toNat))=ji2:=fun h_=>(i64_w _).symm.trans (hji2z h_)
 obtain rfl:=Option.some.inj H
 go_enter Tryz.func201,Tryz.ntmps201
 go_wp2_with (first|((with_reducible refine gate_dst (N:=1) rfl ?_);refine box_event ?hg (N:=1) ?hd (cs:=#[.slice A0_0 l0_0.length c0_0]) (t:=25) ?hr ?_;(case hd=>rfl);(case hg=>rfl);(case hr=>first|(go_simp;done)|(go_simp;rfl));intro gb639 hg w3 hbox hb;have n0_:=Z (below_step pB hb);have BK639:=Z (hbox);have GW639:=Z ((pT hg:w.heap.size≤gb639));have GE639:=Z ((pT hg:w.heap.size≤gb639));clear HB;have HB:=n0_;clear n0_ hb hbox hg;obtain ⟨hcz4_0,hfz4_0⟩:=p1 BK639))
 go_ret
 exact ⟨by first|rfl|(simp [errW_none,errW_some] <;> rfl)|(simp only [← hji2];first|rfl|(simp [errW_none,errW_some] <;> rfl))|(simp [*,errW_none,errW_some] <;> rfl),pB⟩
def intersection_find.l0:Nat→Int→Int→Bool→List (S92)→Option (Int × Int)
 | 0,_,_,_,_=>none
 | k+1,x4,x5,x6,x641000=>if x6=true then ((closure_Quorum.f k x641000 x5).bind fun t641=>(if t641=true then ((intersection_members.f x641000).bind fun t644=>((closure_Greatest.f k x641000 (Go.bits .andNot .i64 t644 x5)).bind fun t645=>(if t645=0 then ((nodeset_Next.f k x5 x4).bind fun bt646=>(intersection_find.l0 k x4 bt646.1 bt646.2 x641000)) else (some (x5,t645))))) else ((nodeset_Next.f k x5 x4).bind fun bt642=>(intersection_find.l0 k x4 bt642.1 bt642.2 x641000)))) else (some (0,0))
def intersection_find.f (k:Nat) (l0_0:List (S92)):Option (Int × Int):=intersection_find.l0 k (l0_0.length:Int) 0 true l0_0
set_option maxHeartbeats 8000000 in
set_option maxRecDepth 100000 in
theorem intersection_find.calls (k:Nat) (A0_0:Option Addr) (c0_0:Nat) (l0_0:List (S92)) (r1:Int) (r2:Int) (w:World) (hr0_0:Kd.C k92 w A0_0 l0_0.length l0_0) (hc0_0:l0_0.length≤c0_0) (h:intersection_find.f k l0_0=some (r1,r2)) :
  Calls Tryz.prog 171 #[.agg #[.slice A0_0 l0_0.length c0_0]] w fun e w'=>e=.returned (.tuple #[.int .i64 r1,.int .i64 r2])∧Below w.heap.size w w':=by
 have hu25:=Tryz.underlying25
 have HR0_0:=Z hr0_0
 have HC0_0:=Z hc0_0
 clear hr0_0 hc0_0
 have HB:=Z (Below.refl w.heap.size w)
 have H:(intersection_find.l0 k (l0_0.length:Int) 0 true l0_0)=some (r1,r2):=h
 clear h
 have H':=Z H
 clear H
 go_enter Tryz.func171,Tryz.ntmps171
 go_wp2_with (first|((with_reducible refine gate_dst (N:=1) rfl ?_);refine box_event ?hg (N:=1) ?hd (cs:=#[.slice A0_0 l0_0.length c0_0]) (t:=25) ?hr ?_;(case hd=>rfl);(case hg=>rfl);(case hr=>first|(go_simp;done)|(go_simp;rfl));intro gb640 hg w2 hbox hb;have n0_:=Z (below_step pB hb);have BK640:=Z (hbox);have GW640:=Z ((pT hg:w.heap.size≤gb640));have GE640:=Z ((pT hg:w.heap.size≤gb640));clear HB;have HB:=n0_;clear n0_ hb hbox hg;obtain ⟨hcz3_0,hfz3_0⟩:=p1 BK640))
 go_loopg [5,6] k (fun kq v5 v6 w'=>∃ (x5_1:Int) (x6_1:Bool),v5=.int .i64 x5_1∧v6=.bool x6_1∧Aside0 (intersection_find.l0 kq (l0_0.length:Int) x5_1 x6_1 l0_0=some (r1,r2))∧Aside0 (kq≤k)∧Aside0 (w'.heap[gb640]?=some (.cells #[(.slice A0_0 l0_0.length c0_0)] 25 (0,0)))∧Aside0 (Below w.heap.size w w'))
 case atStart=>exact ⟨(0),(true),pE,pE,H',⟨Nat.le_refl _⟩,⟨pK BK640⟩,⟨pB⟩⟩
 case round =>
  clear H'
  try clear c1
  try clear p2
  try clear hcz3_0
  try clear hfz3_0
  obtain ⟨x5_1,x6_1,rfl,rfl,HA,HK1,BK640,HB⟩:=hrel
  cases gk with
  | zero=>exact absurd HA.out (by simp [intersection_find.l0])
  | succ k1 =>
   have H:=HA.out
   clear HA
   simp only [intersection_find.l0] at H
   by_cases c4:x6_1=true
   ·subst c4
    rw [if_pos rfl] at H
    replace H:=pO H
    obtain ⟨t641,A50,H⟩:=H
    try dsimp only at H
    have A5:=Z A50
    clear A50
    by_cases c6:t641=true
    ·subst c6
     rw [if_pos rfl] at H
     replace H:=pO H
     obtain ⟨t644,A70,H⟩:=H
     try dsimp only at H
     have A7:=Z A70
     clear A70
     replace H:=pO H
     obtain ⟨t645,A80,H⟩:=H
     try dsimp only at H
     have A8:=Z A80
     clear A80
     by_cases c9:t645=0
     ·rw [if_pos c9] at H
      have c9b0:(t645 == 0)=true:=beq_iff_eq.mpr c9
      have c9b1:(t645 != 0)=false:=bne_eq_false_iff_eq.mpr c9
      clear c9
      replace H:=pO H
      obtain ⟨⟨t646,t647⟩,A100,H⟩:=H
      try dsimp only at H
      have A10:=Z A100
      clear A100
      have H':=Z H
      clear H
      have hcz11_0:=pV BK640 (.slice A0_0 l0_0.length c0_0) 0 rfl
      have hfz11_0:=kF BK640.out 0
      try go_wp2_with (first|((with_reducible refine gate_callee (f:=144) rfl ?_);refine goesL_ (some 20) rfl rfl Tryz.func144 pU rfl #[.agg #[.slice A0_0 l0_0.length c0_0],.int .i64 x5_1] rfl pG ?_;(with_reducible refine (closure_Quorum.calls k1 _ _ l0_0 x5_1 true _ ?side1 ?side2 A5.out).mono ?_);(case side1=>exact pC HR0_0);(case side2=>exact HC0_0.out);rintro e w12 ⟨rfl,hb⟩;refine ⟨_,rfl,?_⟩;replace BK640:=Z (blk_below (g:=gb640) (o:=.cells #[.slice A0_0 l0_0.length c0_0] 25 (0,0)) (pK BK640) hb);have n1_:=Z (below_step pB hb);clear HB;have HB:=n1_;clear n1_;(try clear hb);(try clear hb2);(try clear hk);(try clear hi)))
      have n0_:=Z (kD BK640.out)
      have n1_:=Z (wD HB.out)
      clear BK640 HB
      have BK640:=n0_
      have HB:=n1_
      clear n0_ n1_
      refine start_ (n:=7) (S:=fun w'=>w'.cell? ⟨gb640,0,none⟩=some (.slice A0_0 l0_0.length c0_0)) (ds:=[]) #[false,false,false,false,false,false,false] pU rfl rfl ((kC BK640.out 0).trans rfl) (fun hHeld=>?_)
      generalize w12.drew=w13 at BK640 HB hHeld ⊢
      refine pure_ (i:=3) (N:=some 25) (v:=?_) (a':=?_) #[false,false,false,true,false,false,false] rfl rfl pU (fun _ _ _ h=>h) (Or.inl ⟨by rfl,?_⟩) ?_ ?_
      rotate_left
      ·intro w'
       go_simp
       with_reducible rfl
      rotate_left
      ·simp only [Act.put,List.setIfInBounds_toArray,List.set_cons_zero,List.set_cons_succ,i64_w,i32_w]
       rfl
      refine take_ (i:=0) (N:=some 22) (v:=?_) (a':=?_) #[true,false,false,true,false,false,false] rfl rfl pU (fun _ _ _ h=>h) (Or.inl ⟨by rfl,?_⟩) hHeld ?_ ?_
      rotate_left
      ·intro w' s0
       go_simp
       with_reducible rfl
      rotate_left
      ·simp only [Act.put,List.setIfInBounds_toArray,List.set_cons_zero,List.set_cons_succ,i64_w,i32_w]
       rfl
      refine take_ (i:=1) (N:=some 23) (v:=?_) (a':=?_) #[true,true,false,true,false,false,false] rfl rfl pU (fun _ _ _ h=>h) (Or.inl ⟨by rfl,?_⟩) hHeld ?_ ?_
      rotate_left
      ·intro w' s0
       go_simp
       with_reducible rfl
      rotate_left
      ·simp only [Act.put,List.setIfInBounds_toArray,List.set_cons_zero,List.set_cons_succ,i64_w,i32_w]
       rfl
      refine one_ (i:=2) (N:=some 24) #[true,true,true,true,false,false,false] rfl rfl pU (by decide) (fun K hK=>?_)
      refine goes_ Tryz.func201 pU rfl #[.agg #[.slice A0_0 l0_0.length c0_0]] (by rfl) rfl rfl pG ?_
      with_reducible refine (intersection_members.calls _ _ l0_0 t644 _ ?side1 ?side2 A7.out).mono ?_
      (case side1=>exact pC HR0_0)
      (case side2=>exact HC0_0.out)
      rintro e w14 ⟨rfl,hb⟩
      refine ⟨_,rfl,?_⟩
      have n0_:=Z (blk_below (g:=gb640) (o:=.cells #[.slice A0_0 l0_0.length c0_0] 25 (0,0)) (pK BK640) hb)
      have n1_:=Z (below_step pB hb)
      clear BK640 HB
      have BK640:=n0_
      have HB:=n1_
      clear n0_ n1_
      (try clear hb)
      (try clear hb2)
      (try clear hk)
      (try clear hi)
      refine hK.out _ _ ((kC BK640.out 0).trans rfl) (fun hHeld=>?_)
      clear hK K
      refine norm_ (a':=?_) ?_ ?_
      rotate_left
      ·show Act.put _ (some 24) _=_
       simp only [Act.put,List.setIfInBounds_toArray,List.set_cons_zero,List.set_cons_succ,i64_w,i32_w]
       rfl
      refine pure_ (i:=4) (N:=some 26) (v:=?_) (a':=?_) #[true,true,true,true,true,false,false] rfl rfl pU (fun _ _ _ h=>h) (Or.inl ⟨by rfl,?_⟩) ?_ ?_
      rotate_left
      ·intro w'
       go_simp
       with_reducible rfl
      rotate_left
      ·simp only [Act.put,List.setIfInBounds_toArray,List.set_cons_zero,List.set_cons_succ,i64_w,i32_w]
       rfl
      refine one_ (i:=5) (N:=some 27) #[true,true,true,true,true,true,false] rfl rfl pU (by decide) (fun K hK=>?_)
      refine goes_ Tryz.func170 pU rfl #[.agg #[.slice A0_0 l0_0.length c0_0],.int .i64 (Go.bits .andNot .i64 t644 x5_1)] (by rfl) rfl rfl pG ?_
      with_reducible refine (closure_Greatest.calls k1 _ _ l0_0 (Go.bits .andNot .i64 t644 x5_1) t645 _ ?side1 ?side2 A8.out).mono ?_
      (case side1=>exact pC HR0_0)
      (case side2=>exact HC0_0.out)
      rintro e w15 ⟨rfl,hb⟩
      refine ⟨_,rfl,?_⟩
      have n0_:=Z (blk_below (g:=gb640) (o:=.cells #[.slice A0_0 l0_0.length c0_0] 25 (0,0)) (pK BK640) hb)
      have n1_:=Z (below_step pB hb)
      clear BK640 HB
      have BK640:=n0_
      have HB:=n1_
      clear n0_ n1_
      (try clear hb)
      (try clear hb2)
      (try clear hk)
      (try clear hi)
      refine hK.out _ _ ((kC BK640.out 0).trans rfl) (fun hHeld=>?_)
      clear hK K
      refine norm_ (a':=?_) ?_ ?_
      rotate_left
      ·show Act.put _ (some 27) _=_
       simp only [Act.put,List.setIfInBounds_toArray,List.set_cons_zero,List.set_cons_succ,i64_w,i32_w]
       rfl
      refine pure_ (i:=6) (N:=some 7) (v:=?_) (a':=?_) #[true,true,true,true,true,true,true] rfl rfl pU (fun _ _ _ h=>h) (Or.inl ⟨by rfl,?_⟩) ?_ ?_
      rotate_left
      ·intro w'
       go_simp
       with_reducible rfl
      rotate_left
      ·simp only [Act.put,List.setIfInBounds_toArray,List.set_cons_zero,List.set_cons_succ,i64_w,i32_w]
       rfl
      refine done_ pU ?_
      try go_wp2_with (first|((with_reducible refine gate_callee (f:=200) rfl ?_);refine goesL_ (some 15) rfl rfl Tryz.func200 pU rfl #[.int .i64 x5_1,.int .i64 (l0_0.length:Int)] rfl pG ?_;(with_reducible refine (nodeset_Next.calls k1 x5_1 (l0_0.length:Int) t646 t647 _ A10.out).mono ?_);rintro e w' ⟨rfl,⟨nd,rfl⟩⟩;refine ⟨_,rfl,?_⟩))
      go_roundg k1
      case measure=>have:=HK1.out;omega
      case rel=>exact ⟨(t646),(t647),pE,pE,H',⟨by have:=HK1.out;omega⟩,⟨pK BK640⟩,⟨pB⟩⟩
     ·rw [if_neg c9] at H
      have c9b0:(t645 == 0)=false:=beq_eq_false_iff_ne.mpr c9
      have c9b1:(t645 != 0)=true:=bne_iff_ne.mpr c9
      simp only [Option.some.injEq,Prod.mk.injEq] at H
      obtain ⟨rfl,rfl⟩:=H
      have hcz16_0:=pV BK640 (.slice A0_0 l0_0.length c0_0) 0 rfl
      have hfz16_0:=kF BK640.out 0
      try go_wp2_with (first|((with_reducible refine gate_callee (f:=144) rfl ?_);refine goesL_ (some 20) rfl rfl Tryz.func144 pU rfl #[.agg #[.slice A0_0 l0_0.length c0_0],.int .i64 x5_1] rfl pG ?_;(with_reducible refine (closure_Quorum.calls k1 _ _ l0_0 x5_1 true _ ?side1 ?side2 A5.out).mono ?_);(case side1=>exact pC HR0_0);(case side2=>exact HC0_0.out);rintro e w17 ⟨rfl,hb⟩;refine ⟨_,rfl,?_⟩;replace BK640:=Z (blk_below (g:=gb640) (o:=.cells #[.slice A0_0 l0_0.length c0_0] 25 (0,0)) (pK BK640) hb);have n1_:=Z (below_step pB hb);clear HB;have HB:=n1_;clear n1_;(try clear hb);(try clear hb2);(try clear hk);(try clear hi)))
      have n0_:=Z (kD BK640.out)
      have n1_:=Z (wD HB.out)
      clear BK640 HB
      have BK640:=n0_
      have HB:=n1_
      clear n0_ n1_
      refine start_ (n:=7) (S:=fun w'=>w'.cell? ⟨gb640,0,none⟩=some (.slice A0_0 l0_0.length c0_0)) (ds:=[]) #[false,false,false,false,false,false,false] pU rfl rfl ((kC BK640.out 0).trans rfl) (fun hHeld=>?_)
      generalize w17.drew=w18 at BK640 HB hHeld ⊢
      refine pure_ (i:=3) (N:=some 25) (v:=?_) (a':=?_) #[false,false,false,true,false,false,false] rfl rfl pU (fun _ _ _ h=>h) (Or.inl ⟨by rfl,?_⟩) ?_ ?_
      rotate_left
      ·intro w'
       go_simp
       with_reducible rfl
      rotate_left
      ·simp only [Act.put,List.setIfInBounds_toArray,List.set_cons_zero,List.set_cons_succ,i64_w,i32_w]
       rfl
      refine take_ (i:=0) (N:=some 22) (v:=?_) (a':=?_) #[true,false,false,true,false,false,false] rfl rfl pU (fun _ _ _ h=>h) (Or.inl ⟨by rfl,?_⟩) hHeld ?_ ?_
      rotate_left
      ·intro w' s0
       go_simp
       with_reducible rfl
      rotate_left
      ·simp only [Act.put,List.setIfInBounds_toArray,List.set_cons_zero,List.set_cons_succ,i64_w,i32_w]
       rfl
      refine take_ (i:=1) (N:=some 23) (v:=?_) (a':=?_) #[true,true,false,true,false,false,false] rfl rfl pU (fun _ _ _ h=>h) (Or.inl ⟨by rfl,?_⟩) hHeld ?_ ?_
      rotate_left
      ·intro w' s0
       go_simp
       with_reducible rfl
      rotate_left
      ·simp only [Act.put,List.setIfInBounds_toArray,List.set_cons_zero,List.set_cons_succ,i64_w,i32_w]
       rfl
      refine one_ (i:=2) (N:=some 24) #[true,true,true,true,false,false,false] rfl rfl pU (by decide) (fun K hK=>?_)
      refine goes_ Tryz.func201 pU rfl #[.agg #[.slice A0_0 l0_0.length c0_0]] (by rfl) rfl rfl pG ?_
      with_reducible refine (intersection_members.calls _ _ l0_0 t644 _ ?side1 ?side2 A7.out).mono ?_
      (case side1=>exact pC HR0_0)
      (case side2=>exact HC0_0.out)
      rintro e w19 ⟨rfl,hb⟩
      refine ⟨_,rfl,?_⟩
      have n0_:=Z (blk_below (g:=gb640) (o:=.cells #[.slice A0_0 l0_0.length c0_0] 25 (0,0)) (pK BK640) hb)
      have n1_:=Z (below_step pB hb)
      clear BK640 HB
      have BK640:=n0_
      have HB:=n1_
      clear n0_ n1_
      (try clear hb)
      (try clear hb2)
      (try clear hk)
      (try clear hi)
      refine hK.out _ _ ((kC BK640.out 0).trans rfl) (fun hHeld=>?_)
      clear hK K
      refine norm_ (a':=?_) ?_ ?_
      rotate_left
      ·show Act.put _ (some 24) _=_
       simp only [Act.put,List.setIfInBounds_toArray,List.set_cons_zero,List.set_cons_succ,i64_w,i32_w]
       rfl
      refine pure_ (i:=4) (N:=some 26) (v:=?_) (a':=?_) #[true,true,true,true,true,false,false] rfl rfl pU (fun _ _ _ h=>h) (Or.inl ⟨by rfl,?_⟩) ?_ ?_
      rotate_left
      ·intro w'
       go_simp
       with_reducible rfl
      rotate_left
      ·simp only [Act.put,List.setIfInBounds_toArray,List.set_cons_zero,List.set_cons_succ,i64_w,i32_w]
       rfl
      refine one_ (i:=5) (N:=some 27) #[true,true,true,true,true,true,false] rfl rfl pU (by decide) (fun K hK=>?_)
      refine goes_ Tryz.func170 pU rfl #[.agg #[.slice A0_0 l0_0.length c0_0],.int .i64 (Go.bits .andNot .i64 t644 x5_1)] (by rfl) rfl rfl pG ?_
      with_reducible refine (closure_Greatest.calls k1 _ _ l0_0 (Go.bits .andNot .i64 t644 x5_1) t645 _ ?side1 ?side2 A8.out).mono ?_
      (case side1=>exact pC HR0_0)
      (case side2=>exact HC0_0.out)
      rintro e w20 ⟨rfl,hb⟩
      refine ⟨_,rfl,?_⟩
      have n0_:=Z (blk_below (g:=gb640) (o:=.cells #[.slice A0_0 l0_0.length c0_0] 25 (0,0)) (pK BK640) hb)
      have n1_:=Z (below_step pB hb)
      clear BK640 HB
      have BK640:=n0_
      have HB:=n1_
      clear n0_ n1_
      (try clear hb)
      (try clear hb2)
      (try clear hk)
      (try clear hi)
      refine hK.out _ _ ((kC BK640.out 0).trans rfl) (fun hHeld=>?_)
      clear hK K
      refine norm_ (a':=?_) ?_ ?_
      rotate_left
      ·show Act.put _ (some 27) _=_
       simp only [Act.put,List.setIfInBounds_toArray,List.set_cons_zero,List.set_cons_succ,i64_w,i32_w]
       rfl
      refine pure_ (i:=6) (N:=some 7) (v:=?_) (a':=?_) #[true,true,true,true,true,true,true] rfl rfl pU (fun _ _ _ h=>h) (Or.inl ⟨by rfl,?_⟩) ?_ ?_
      rotate_left
      ·intro w'
       go_simp
       with_reducible rfl
      rotate_left
      ·simp only [Act.put,List.setIfInBounds_toArray,List.set_cons_zero,List.set_cons_succ,i64_w,i32_w]
       rfl
      refine done_ pU ?_
      try go_wp2
      go_ret2
      exact ⟨pF,pB⟩
    ·replace c6:=Bool.eq_false_iff.mpr c6
     subst c6
     rw [if_neg (show ¬ (false=true) by decide)] at H
     replace H:=pO H
     obtain ⟨⟨t642,t643⟩,A210,H⟩:=H
     try dsimp only at H
     have A21:=Z A210
     clear A210
     have H':=Z H
     clear H
     have hcz22_0:=pV BK640 (.slice A0_0 l0_0.length c0_0) 0 rfl
     have hfz22_0:=kF BK640.out 0
     go_wp2_with (first|((with_reducible refine gate_callee (f:=144) rfl ?_);refine goesL_ (some 20) rfl rfl Tryz.func144 pU rfl #[.agg #[.slice A0_0 l0_0.length c0_0],.int .i64 x5_1] rfl pG ?_;(with_reducible refine (closure_Quorum.calls k1 _ _ l0_0 x5_1 false _ ?side1 ?side2 A5.out).mono ?_);(case side1=>exact pC HR0_0);(case side2=>exact HC0_0.out);rintro e w23 ⟨rfl,hb⟩;refine ⟨_,rfl,?_⟩;replace BK640:=Z (blk_below (g:=gb640) (o:=.cells #[.slice A0_0 l0_0.length c0_0] 25 (0,0)) (pK BK640) hb);have n1_:=Z (below_step pB hb);clear HB;have HB:=n1_;clear n1_;(try clear hb);(try clear hb2);(try clear hk);(try clear hi))|((with_reducible refine gate_callee (f:=200) rfl ?_);refine goesL_ (some 15) rfl rfl Tryz.func200 pU rfl #[.int .i64 x5_1,.int .i64 (l0_0.length:Int)] rfl pG ?_;(with_reducible refine (nodeset_Next.calls k1 x5_1 (l0_0.length:Int) t642 t643 _ A21.out).mono ?_);rintro e w' ⟨rfl,⟨nd,rfl⟩⟩;refine ⟨_,rfl,?_⟩))
     go_roundg k1
     case measure=>have:=HK1.out;omega
     case rel=>exact ⟨(t642),(t643),pE,pE,H',⟨by have:=HK1.out;omega⟩,⟨pK BK640⟩,⟨pB⟩⟩
   ·replace c4:=Bool.eq_false_iff.mpr c4
    subst c4
    rw [if_neg (show ¬ (false=true) by decide)] at H
    simp only [Option.some.injEq,Prod.mk.injEq] at H
    obtain ⟨rfl,rfl⟩:=H
    go_wp2
    go_ret2
    exact ⟨pF,pB⟩
def danger_tolerated.f (l0_0:List (S92)) (l1:List Int):Option (Int):=if (l1.length:Int)=0 then (some (l0_0.length:Int)) else (if 0 < (l1.length:Int) then ((nodeset_Size.f (rd l1 0)).bind fun t667=>(some (wrap64 (t667 - 1)))) else (none))
set_option maxHeartbeats 8000000 in
set_option maxRecDepth 100000 in
theorem danger_tolerated.calls (A0_0:Option Addr) (c0_0:Nat) (l0_0:List (S92)) (A1:Option Addr) (c1:Nat) (l1:List Int) (r:Int) (w:World) (hr0_0:Kd.C k92 w A0_0 l0_0.length l0_0) (hc0_0:l0_0.length≤c0_0) (hr1:Kd.C (Kd.int .i64) w A1 l1.length l1) (hc1:l1.length≤c1) (h:danger_tolerated.f l0_0 l1=some r) :
  Calls Tryz.prog 122 #[.agg #[.slice A0_0 l0_0.length c0_0],.slice A1 l1.length c1] w fun e w'=>e=.returned (.int .i64 r)∧Below w.heap.size w w':=by
 have hu25:=Tryz.underlying25
 have HR0_0:=Z hr0_0
 have HC0_0:=Z hc0_0
 clear hr0_0 hc0_0
 have HR1:=Z hr1
 have HC1:=Z hc1
 clear hr1 hc1
 have HB:=Z (Below.refl w.heap.size w)
 have H:(if (l1.length:Int)=0 then (some (l0_0.length:Int)) else (if 0 < (l1.length:Int) then ((nodeset_Size.f (rd l1 0)).bind fun t667=>(some (wrap64 (t667 - 1)))) else (none)))=some r:=h
 clear h
 by_cases c3:(l1.length:Int)=0
 ·rw [if_pos c3] at H
  have c3b0:((l1.length:Int) == 0)=true:=beq_iff_eq.mpr c3
  have c3b1:((l1.length:Int) != 0)=false:=bne_eq_false_iff_eq.mpr c3
  clear c3
  obtain rfl:=Option.some.inj H
  go_enter Tryz.func122,Tryz.ntmps122
  go_wp2_with (first|((with_reducible refine gate_dst (N:=2) rfl ?_);refine box_event ?hg (N:=2) ?hd (cs:=#[.slice A0_0 l0_0.length c0_0]) (t:=25) ?hr ?_;(case hd=>rfl);(case hg=>rfl);(case hr=>first|(go_simp;done)|(go_simp;rfl));intro gb665 hg w4 hbox hb;have n0_:=Z (below_step pB hb);have BK665:=Z (hbox);have GW665:=Z ((pT hg:w.heap.size≤gb665));have GE665:=Z ((pT hg:w.heap.size≤gb665));clear HB;have HB:=n0_;clear n0_ hb hbox hg;obtain ⟨hcz5_0,hfz5_0⟩:=p1 BK665))
  go_ret
  exact ⟨pF,pB⟩
 ·rw [if_neg c3] at H
  have c3b0:((l1.length:Int) == 0)=false:=beq_eq_false_iff_ne.mpr c3
  have c3b1:((l1.length:Int) != 0)=true:=bne_iff_ne.mpr c3
  have c3b2:¬ (l1=[]):=fun h_=>c3 (by rw [h_];rfl)
  by_cases c6:0 < (l1.length:Int)
  ·rw [if_pos c6] at H
   have c6b0:decide (0 < (l1.length:Int))=true:=decide_eq_true c6
   have c6b1:decide (0 < l1.length)=true:=decide_eq_true (by omega)
   clear c6
   replace H:=pO H
   obtain ⟨t667,A70,H⟩:=H
   try dsimp only at H
   have A7:=Z A70
   clear A70
   obtain rfl:=Option.some.inj H
   go_enter Tryz.func122,Tryz.ntmps122
   go_wp2_with (first|((with_reducible refine gate_dst (N:=2) rfl ?_);refine box_event ?hg (N:=2) ?hd (cs:=#[.slice A0_0 l0_0.length c0_0]) (t:=25) ?hr ?_;(case hd=>rfl);(case hg=>rfl);(case hr=>first|(go_simp;done)|(go_simp;rfl));intro gb665 hg w8 hbox hb;have n0_:=Z (below_step pB hb);have BK665:=Z (hbox);have GW665:=Z ((pT hg:w.heap.size≤gb665));have GE665:=Z ((pT hg:w.heap.size≤gb665));clear HB;have HB:=n0_;clear n0_ hb hbox hg;have p666:0≤(0:Int):=(by omega);have q666:0 < (l1.length:Int):=of_decide_eq_true pA;obtain ⟨ad666,e666,hx666_0⟩:=Kd.at_int HR1.out 0 p666 q666;cases e666;have qi666:(0 < l1.length)=True:=eq_true (by omega);(try rw [show ((0:Int)).toNat=0 from rfl] at hx666_0);(try rw [Addr.add_zero'] at hx666_0);replace hx666_0:=pX HB hx666_0;replace p666:=eq_true p666;replace q666:=eq_true q666)|((with_reducible refine gate_callee (f:=175) rfl ?_);refine goesL_ (some 14) rfl rfl Tryz.func175 pU rfl #[.int .i64 (rd l1 0)] rfl pG ?_;(with_reducible refine (nodeset_Size.calls (rd l1 0) t667 _ A7.out).mono ?_);rintro e w' ⟨rfl,⟨nd,rfl⟩⟩;refine ⟨_,rfl,?_⟩))
   go_ret
   exact ⟨pF,pB⟩
  ·rw [if_neg c6] at H
   exact absurd H (by simp)
mutual
def qlaw16_same.l0:Nat→Int→Int→Int→List Int→Option ((List (S92)))
 | 0,_,_,_,_=>none
 | k+1,x0,x6,x103000,x103001=>if x6 < x0 then (if x103001.length < 17592186044416 then (qlaw16_same.l0 k x0 (wrap64 (x6+1)) x103000 (x103001++[x6])) else (none)) else (qlaw16_same.l1 k x0 0 x103000 x103001 ([]:List (S92)))
def qlaw16_same.l1:Nat→Int→Int→Int→List Int→List (S92)→Option ((List (S92)))
 | 0,_,_,_,_,_=>none
 | k+1,x0,x8,x103000,x103001,x107000=>if x8 < x0 then (if x107000.length < 2199023255552 then (qlaw16_same.l1 k x0 (wrap64 (x8+1)) x103000 x103001 (x107000++[(⟨true,(⟨x103000,x103001,([]:List (S90))⟩:S90)⟩:S92)])) else (none)) else (some x107000)
end
def qlaw16_same.f (k:Nat) (a0:Int) (a1:Int):Option ((List (S92))):=qlaw16_same.l0 k a0 0 a1 ([]:List Int)
set_option maxHeartbeats 8000000 in
set_option maxRecDepth 100000 in
theorem qlaw16_same.calls (k:Nat) (a0:Int) (a1:Int) (r:List (S92)) (w:World) (h:qlaw16_same.f k a0 a1=some r) :
  Calls Tryz.prog 111 #[.int .i64 a0,.int .i64 a1] w fun e w'=>∃ v0_:Value,e=.returned (.agg #[v0_])∧Kd.R k92 92 w' w.heap.size (fun _=>True) v0_ r∧Below w.heap.size w w':=by
 have hu25:=Tryz.underlying25
 have hu90:=Tryz.underlying90
 have hu92:=Tryz.underlying92
 have HB:=Aside0.mk (Below.refl w.heap.size w)
 have H:(qlaw16_same.l0 k a0 0 a1 ([]:List Int))=some r:=h
 clear h
 have H':=Aside0.mk H
 clear H
 go_enter Tryz.func111,Tryz.ntmps111
 go_wp2_with (first|((with_reducible refine gate_dst (N:=4) rfl ?_);refine box_event ?hg (N:=4) ?hd (cs:=#[.slice none 0 0]) (t:=25) ?hr ?_;(case hd=>rfl);(case hg=>rfl);(case hr=>first|(go_simp;done)|(go_simp;rfl));intro gb101 hg w3 hbox hb;have n0_:=Aside0.mk (below_step (by repeat (first|(with_reducible first|exact HB.out|apply wA|apply wN|apply wD)|exact HB.out)) hb);have n1_:=Aside0.mk (hbox);have n2_:=Aside0.mk ((by rw [hg];exact (below_size (by repeat (first|(with_reducible first|exact HB.out|apply wA|apply wN|apply wD)|exact HB.out))):w.heap.size≤gb101));have n3_:=Aside0.mk ((by rw [hg];exact (below_size (by repeat (first|(with_reducible first|exact HB.out|apply wA|apply wN|apply wD)|exact HB.out))):w.heap.size≤gb101));clear HB;have HB:=n0_;have BK101:=n1_;have GW101:=n2_;have GE101:=n3_;clear n0_ n1_ n2_ n3_ hb hbox hg)|((with_reducible refine gate_dst (N:=5) rfl ?_);refine box_event ?hg (N:=5) ?hd (cs:=#[.int .i64 0,.slice none 0 0,.slice none 0 0]) (t:=90) ?hr ?_;(case hd=>rfl);(case hg=>rfl);(case hr=>first|(go_simp;done)|(go_simp;rfl));intro gb102 hg w4 hbox hb;have n0_:=Aside0.mk (blk_below (g:=gb101) (o:=.cells #[.slice none 0 0] 25 (0,0)) (pK BK101) hb);have n1_:=Aside0.mk (below_step (by repeat (first|(with_reducible first|exact HB.out|apply wA|apply wN|apply wD|refine wS ?_ GE101.out)|exact HB.out)) hb);have n2_:=Aside0.mk (hbox);have n3_:=Aside0.mk ((by rw [hg];exact (below_size (by repeat (first|(with_reducible first|exact HB.out|apply wA|apply wN|apply wD|refine wS ?_ GE101.out)|exact HB.out))):w.heap.size≤gb102));have n4_:=Aside0.mk ((by rw [hg];exact (below_size (by repeat (first|(with_reducible first|exact HB.out|apply wA|apply wN|apply wD|refine wS ?_ GE101.out)|exact HB.out))):w.heap.size≤gb102));have n5_:=Aside0.mk ((by rw [hg];exact Nat.ne_of_lt (blk_lt (g:=gb101) (o:=.cells #[.slice none 0 0] 25 (0,0)) (pK BK101)):gb101 ≠ gb102));have n6_:=Aside0.mk ((by rw [hg];exact Nat.ne_of_gt (blk_lt (g:=gb101) (o:=.cells #[.slice none 0 0] 25 (0,0)) (pK BK101)):gb102 ≠ gb101));clear BK101 HB;have BK101:=n0_;have HB:=n1_;have BK102:=n2_;have GW102:=n3_;have GE102:=n4_;have NB101_102:=n5_;have NB102_101:=n6_;clear n0_ n1_ n2_ n3_ n4_ n5_ n6_ hb hbox hg;have hnb5:=NB102_101.out;have hnc5:=NB101_102.out;obtain ⟨hcz6_0,hcz6_1,hcz6_2,hfz6_0,hfz6_1,hfz6_2⟩:=p3 BK102))
 go_loopg [6] k (fun kq v6 w'=>∃ (x6_1:Int) (x103001_1:List Int) (u103001:Value),v6=.int .i64 x6_1∧Aside0 (qlaw16_same.l0 kq a0 x6_1 a1 x103001_1=some r)∧Aside0 (kq≤k)∧Aside0 (Kd.R (Kd.int .i64) 3 w' w.heap.size (fun _=>True) u103001 x103001_1)∧Aside0 (w'.heap[gb101]?=some (.cells #[(.slice none 0 0)] 25 (0,0)))∧Aside0 (w'.heap[gb102]?=some (.cells #[.int .i64 a1,u103001,(.slice none 0 0)] 90 (0,0)))∧Aside0 (Below w.heap.size w w'))
 case atStart=>exact ⟨(0),(([]:List Int)),(.slice none 0 0),(by first|rfl|(simp;done)|(simp [*];done)),H',⟨Nat.le_refl _⟩,⟨by first|exact Kd.R_nil _ _ _ _ _|exact Kd.N_nil _ _ _ _ _|exact Kd.V_nil _ _ _ _ _|exact Kd.Q_nil _ _ _ _ _|exact Kd.S_nil _ _ _ _ _⟩,⟨by refine pQ ?_;refine blk_far ?_ NB101_102.out _;refine pQ ?_;refine blk_far ?_ NB101_102.out _;refine pQ ?_;refine blk_far ?_ NB101_102.out _;exact pK BK101⟩,⟨by refine pQ ?_;refine blk_put (cs:=#[.int .i64 a1,.slice none 0 0,.slice none 0 0]) ?_ 2 _ rfl;refine pQ ?_;refine blk_put (cs:=#[.int .i64 a1,.slice none 0 0,.slice none 0 0]) ?_ 1 _ rfl;refine pQ ?_;refine blk_put (cs:=#[.int .i64 0,.slice none 0 0,.slice none 0 0]) ?_ 0 _ rfl;exact pK BK102⟩,⟨by repeat (first|(with_reducible first|exact HB.out|apply wA|apply wN|apply wD|refine wS ?_ GE101.out|refine wS ?_ GE102.out)|exact HB.out)⟩⟩
 case round =>
  clear H'
  try clear c1
  try clear p2
  try clear c5
  try clear hcz6_0
  try clear hcz6_1
  try clear hcz6_2
  try clear hfz6_0
  try clear hfz6_1
  try clear hfz6_2
  obtain ⟨x6_1,x103001_1,u103001,rfl,HA,HK1,HO_103001,BK101,BK102,HB⟩:=hrel
  cases gk with
  | zero=>exact absurd HA.out (by simp [qlaw16_same.l0])
  | succ k1 =>
   have H:=HA.out
   clear HA
   simp only [qlaw16_same.l0] at H
   by_cases c7:x6_1 < a0
   ·rw [if_pos c7] at H
    have c7b0:decide (x6_1 < a0)=true:=decide_eq_true c7
    clear c7
    by_cases c8:x103001_1.length < 17592186044416
    ·rw [if_pos c8] at H
     have LMc8:=Aside0.mk c8
     clear c8
     obtain ⟨y103,hy103⟩:∃ y_:List Int,y_=(x103001_1++[x6_1]):=⟨_,rfl⟩
     replace H:(qlaw16_same.l0 k1 a0 (wrap64 (x6_1+1)) a1 y103)=some r:=by first|(rw [hy103];with_reducible exact H)|(have H2_:=(Option.bind_some _ _).symm.trans H;rw [hy103];with_reducible exact H2_)|(have H2_:=(Option.bind_some _ _).symm.trans H;with_reducible exact H2_)|with_reducible exact H|(rw [hy103];exact H)|exact H
     have Ny103:=Aside0.mk hy103
     clear hy103
     have H':=Aside0.mk H
     clear H
     have hnb9:=NB102_101.out
     have hnc9:=NB101_102.out
     have hcz10_0:=pV BK102 (.int .i64 a1) 0 rfl
     have hcz10_1:=pV BK102 (u103001) 1 rfl
     have hcz10_2:=pV BK102 (.slice none 0 0) 2 rfl
     have hfz10_0:=kF BK102.out 0
     have hfz10_1:=kF BK102.out 1
     have hfz10_2:=kF BK102.out 2
     go_wp2_with (first|((with_reducible refine gate_builtin (b:=.append) (xs:=#[.tmp 17,.tmp 19]) rfl ?_);at_builtin;refine Kd.R_append (Kd.int .i64) (w0:=w) w.heap.size rfl (.tmp 17) (.tmp 19) 22 3 (.int .i64 0) 8 rfl Tryz.underlying22 info3 rfl (by decide) (by omega) u103001 x103001_1 x6_1 [.int .i64 x6_1] (fun _=>True) (fun _=>False) rfl rfl ?aP (fun _ hk=>hk.elim) ?aF ?aO ?aB ?aS ?aL ?_;(case aP=>exact rfl);(case aB=>exact (by repeat (first|(with_reducible first|exact HB.out|apply wA|apply wN|apply wD|refine wS ?_ GE101.out|refine wS ?_ GE102.out)|exact HB.out)));(case aF=>exact (fun _ _=>trivial));(case aO=>exact (by refine pP ?_;exact HO_103001.out));(case aS=>exact (below_size (by repeat (first|(with_reducible first|exact HB.out|apply wA|apply wN|apply wD|refine wS ?_ GE101.out|refine wS ?_ GE102.out)|exact HB.out))));(case aL=>have:=LMc8.out;omega);intro v104 w11 ho hb hg hat;rw [← Ny103.out] at ho;have n0_:=Aside0.mk (blk_grown (g:=gb101) (o:=.cells #[.slice none 0 0] 25 (0,0)) (pK BK101) hg (Kd.R_ne HO_103001.out BK101.out (by decide)));have n1_:=Aside0.mk (blk_grown (g:=gb102) (o:=.cells #[.int .i64 a1,u103001,.slice none 0 0] 90 (0,0)) (pK BK102) hg (Kd.R_ne HO_103001.out BK102.out (by decide)));have n2_:=Aside0.mk (hb);have n3_:=Aside0.mk (ho);clear BK101 BK102 HB HO_103001;have BK101:=n0_;have BK102:=n1_;have HB:=n2_;have HO105:=n3_;clear n0_ n1_ n2_ n3_ ho hb hg hat;obtain ⟨Ao12,co12,eo12⟩:=Kd.R_slice HO105.out;subst eo12;obtain ⟨hcz13_0,hcz13_1,hcz13_2,hfz13_0,hfz13_1,hfz13_2⟩:=p3 BK102))
     go_roundg k1
     case measure=>have:=HK1.out;omega
     case rel=>exact ⟨(wrap64 (x6_1+1)),(y103),(.slice Ao12 y103.length co12),(by first|rfl|(simp;done)|(simp [*];done)),H',⟨by have:=HK1.out;omega⟩,⟨by refine pP ?_;exact Kd.R_mono (Kd.R_far (p:=⟨gb102,1,none⟩) (Kd.R_types HO105.out BK102.out (by decide)) (fun _ hk=>hk.2) (.slice Ao12 y103.length co12)) (fun _ hk=>trivial)⟩,⟨by refine pQ ?_;refine blk_far ?_ NB101_102.out _;exact pK BK101⟩,⟨by refine pQ ?_;refine blk_put (cs:=#[.int .i64 a1,u103001,.slice none 0 0]) ?_ 1 _ rfl;exact pK BK102⟩,⟨by repeat (first|(with_reducible first|exact HB.out|apply wA|apply wN|apply wD|refine wS ?_ GE101.out|refine wS ?_ GE102.out)|exact HB.out)⟩⟩
    ·rw [if_neg c8] at H
     exact absurd H (by simp)
   ·rw [if_neg c7] at H
    have c7b0:decide (x6_1 < a0)=false:=decide_eq_false c7
    clear c7
    have H':=Aside0.mk H
    clear H
    go_wp2_with (first|((with_reducible refine gate_dst (N:=7) rfl ?_);refine box_event ?hg (N:=7) ?hd (cs:=#[.slice none 0 0]) (t:=25) ?hr ?_;(case hd=>rfl);(case hg=>rfl);(case hr=>first|(go_simp;done)|(go_simp;rfl));intro gb106 hg w14 hbox hb;have n0_:=Aside0.mk (Kd.R_below (by refine pP ?_;exact HO_103001.out) hb);have n1_:=Aside0.mk (blk_below (g:=gb101) (o:=.cells #[.slice none 0 0] 25 (0,0)) (pK BK101) hb);have n2_:=Aside0.mk (blk_below (g:=gb102) (o:=.cells #[.int .i64 a1,u103001,.slice none 0 0] 90 (0,0)) (pK BK102) hb);have n3_:=Aside0.mk (below_step (by repeat (first|(with_reducible first|exact HB.out|apply wA|apply wN|apply wD|refine wS ?_ GE101.out|refine wS ?_ GE102.out)|exact HB.out)) hb);have n4_:=Aside0.mk (hbox);have n5_:=Aside0.mk ((by rw [hg];exact (below_size (by repeat (first|(with_reducible first|exact HB.out|apply wA|apply wN|apply wD|refine wS ?_ GE101.out|refine wS ?_ GE102.out)|exact HB.out))):w.heap.size≤gb106));have n6_:=Aside0.mk ((by rw [hg];exact (below_size (by repeat (first|(with_reducible first|exact HB.out|apply wA|apply wN|apply wD|refine wS ?_ GE101.out|refine wS ?_ GE102.out)|exact HB.out))):w.heap.size≤gb106));have n7_:=Aside0.mk ((by rw [hg];exact Nat.ne_of_lt (blk_lt (g:=gb101) (o:=.cells #[.slice none 0 0] 25 (0,0)) (pK BK101)):gb101 ≠ gb106));have n8_:=Aside0.mk ((by rw [hg];exact Nat.ne_of_gt (blk_lt (g:=gb101) (o:=.cells #[.slice none 0 0] 25 (0,0)) (pK BK101)):gb106 ≠ gb101));have n9_:=Aside0.mk ((by rw [hg];exact Nat.ne_of_lt (blk_lt (g:=gb102) (o:=.cells #[.int .i64 a1,u103001,.slice none 0 0] 90 (0,0)) (pK BK102)):gb102 ≠ gb106));have n10_:=Aside0.mk ((by rw [hg];exact Nat.ne_of_gt (blk_lt (g:=gb102) (o:=.cells #[.int .i64 a1,u103001,.slice none 0 0] 90 (0,0)) (pK BK102)):gb106 ≠ gb102));clear HO_103001 BK101 BK102 HB;have HO_103001:=n0_;have BK101:=n1_;have BK102:=n2_;have HB:=n3_;have BK106:=n4_;have GW106:=n5_;have GE106:=n6_;have NB101_106:=n7_;have NB106_101:=n8_;have NB102_106:=n9_;have NB106_102:=n10_;clear n0_ n1_ n2_ n3_ n4_ n5_ n6_ n7_ n8_ n9_ n10_ hb hbox hg))
    go_loopg [8] k1 (fun kq v8 w'=>∃ (x8_2:Int) (x107000_2:List (S92)) (u107000:Value),v8=.int .i64 x8_2∧Aside0 (qlaw16_same.l1 kq a0 x8_2 a1 x103001_1 x107000_2=some r)∧Aside0 (kq≤k1)∧Aside0 (Kd.R (Kd.int .i64) 3 w' w.heap.size (fun _=>True) u103001 x103001_1)∧Aside0 (Kd.R k92 92 w' w.heap.size (fun k_=>k_ ≠ gb102) u107000 x107000_2)∧Aside0 (w'.heap[gb101]?=some (.cells #[(.slice none 0 0)] 25 (0,0)))∧Aside0 (w'.heap[gb102]?=some (.cells #[.int .i64 a1,u103001,(.slice none 0 0)] 90 (0,0)))∧Aside0 (w'.heap[gb106]?=some (.cells #[u107000] 25 (0,0)))∧Aside0 (Below w.heap.size w w'))
    case atStart=>exact ⟨(0),(([]:List (S92))),(.slice none 0 0),(by first|rfl|(simp;done)|(simp [*];done)),H',⟨Nat.le_refl _⟩,⟨by refine pP ?_;exact HO_103001.out⟩,⟨by first|exact Kd.R_nil _ _ _ _ _|exact Kd.N_nil _ _ _ _ _|exact Kd.V_nil _ _ _ _ _|exact Kd.Q_nil _ _ _ _ _|exact Kd.S_nil _ _ _ _ _⟩,⟨by exact pK BK101⟩,⟨by exact pK BK102⟩,⟨by exact pK BK106⟩,⟨by repeat (first|(with_reducible first|exact HB.out|apply wA|apply wN|apply wD|refine wS ?_ GE101.out|refine wS ?_ GE102.out|refine wS ?_ GE106.out)|exact HB.out)⟩⟩
    case round =>
     clear H'
     try clear c1
     try clear p2
     try clear c5
     try clear p6
     try clear c7
     try clear c7b0
     try clear c8
     try clear c9
     try clear c11
     try clear hcz10_0
     try clear hcz10_1
     try clear hcz10_2
     try clear hcz13_0
     try clear hcz13_1
     try clear hcz13_2
     try clear hcz6_0
     try clear hcz6_1
     try clear hcz6_2
     try clear hfz10_0
     try clear hfz10_1
     try clear hfz10_2
     try clear hfz13_0
     try clear hfz13_1
     try clear hfz13_2
     try clear hfz6_0
     try clear hfz6_1
     try clear hfz6_2
     try clear p2
     obtain ⟨x8_2,x107000_2,u107000,rfl,HA,HK2,HO_103001,HO_107000,BK101,BK102,BK106,HB⟩:=hrel
     cases gk with
     | zero=>exact absurd HA.out (by simp [qlaw16_same.l1])
     | succ k2 =>
      have H:=HA.out
      clear HA
      simp only [qlaw16_same.l1] at H
      by_cases c15:x8_2 < a0
      ·rw [if_pos c15] at H
       have c15b0:decide (x8_2 < a0)=true:=decide_eq_true c15
       clear c15
       by_cases c16:x107000_2.length < 2199023255552
       ·rw [if_pos c16] at H
        have LMc16:=Aside0.mk c16
        clear c16
        obtain ⟨y107,hy107⟩:∃ y_:List (S92),y_=(x107000_2++[(⟨true,(⟨a1,x103001_1,([]:List (S90))⟩:S90)⟩:S92)]):=⟨_,rfl⟩
        replace H:(qlaw16_same.l1 k2 a0 (wrap64 (x8_2+1)) a1 x103001_1 y107)=some r:=by first|(rw [hy107];with_reducible exact H)|(have H2_:=(Option.bind_some _ _).symm.trans H;rw [hy107];with_reducible exact H2_)|(have H2_:=(Option.bind_some _ _).symm.trans H;with_reducible exact H2_)|with_reducible exact H|(rw [hy107];exact H)|exact H
        have Ny107:=Aside0.mk hy107
        clear hy107
        have H':=Aside0.mk H
        clear H
        have hnb17:=NB106_101.out
        have hnc17:=NB101_106.out
        have hnb18:=NB106_102.out
        have hnc18:=NB102_106.out
        have hcz19_0:=pV BK106 (u107000) 0 rfl
        have hfz19_0:=kF BK106.out 0
        have hnb20:=NB102_101.out
        have hnc20:=NB101_102.out
        have hcz21_0:=pV BK102 (.int .i64 a1) 0 rfl
        have hcz21_1:=pV BK102 (u103001) 1 rfl
        have hcz21_2:=pV BK102 (.slice none 0 0) 2 rfl
        have hfz21_0:=kF BK102.out 0
        have hfz21_1:=kF BK102.out 1
        have hfz21_2:=kF BK102.out 2
        obtain ⟨Ao22,co22,eo22⟩:=Kd.R_slice HO_103001.out
        subst eo22
        go_wp2_with (first|((with_reducible refine gate_builtin (b:=.append) (xs:=#[.tmp 28,.tmp 31]) rfl ?_);at_builtin;refine Kd.R_append k92 (w0:=w) w.heap.size rfl (.tmp 28) (.tmp 31) 23 92 (.agg #[(.bool false),(.int .i64 0),(.slice none 0 0),(.slice none 0 0)]) 64 rfl Tryz.underlying23 info92 rfl (by decide) (by omega) u107000 x107000_2 (⟨true,(⟨a1,x103001_1,([]:List (S90))⟩:S90)⟩:S92) [.bool true,.int .i64 a1,.slice Ao22 x103001_1.length co22,.slice none 0 0] (fun k_=>k_ ≠ gb102) (fun k_=>((fun k_=>k_ ≠ gb102)) k_∧some k_ ≠ (u107000:Value).ownBlock) rfl rfl ?aP (fun _ hk=>hk) ?aF ?aO ?aB ?aS ?aL ?_;(case aP=>exact k92_mkM _ _ _ (⟨true,(⟨a1,x103001_1,([]:List (S90))⟩:S90)⟩:S92) (Kd.R_mono (Kd.R_types (Kd.R_apart' (HO_103001.out) (Kd.R_typed HO_107000.out) (by decide)) BK102.out (by decide)) (fun k_ hk=>⟨hk.2,hk.1.2⟩)) (Kd.R_nil _ _ _ _ _));(case aB=>exact (by repeat (first|(with_reducible first|exact HB.out|apply wA|apply wN|apply wD|refine wS ?_ GE101.out|refine wS ?_ GE102.out|refine wS ?_ GE106.out)|exact HB.out)));(case aF=>exact (fun k_ hk=>Kd.freshB (g:=gb102) (o:=.cells #[.int .i64 a1,.slice Ao22 x103001_1.length co22,.slice none 0 0] 90 (0,0)) (pK BK102) k_ hk));(case aO=>exact (by refine pP ?_;exact HO_107000.out));(case aS=>exact (below_size (by repeat (first|(with_reducible first|exact HB.out|apply wA|apply wN|apply wD|refine wS ?_ GE101.out|refine wS ?_ GE102.out|refine wS ?_ GE106.out)|exact HB.out))));(case aL=>have:=LMc16.out;omega);intro v108 w23 ho hb hg hat;rw [← Ny107.out] at ho;have n0_:=Aside0.mk (blk_grown (g:=gb101) (o:=.cells #[.slice none 0 0] 25 (0,0)) (pK BK101) hg (Kd.R_ne HO_107000.out BK101.out (by decide)));have n1_:=Aside0.mk (blk_grown (g:=gb102) (o:=.cells #[.int .i64 a1,.slice Ao22 x103001_1.length co22,.slice none 0 0] 90 (0,0)) (pK BK102) hg (Kd.R_ne HO_107000.out BK102.out (by decide)));have n2_:=Aside0.mk (blk_grown (g:=gb106) (o:=.cells #[u107000] 25 (0,0)) (pK BK106) hg (Kd.R_ne HO_107000.out BK106.out (by decide)));have n3_:=Aside0.mk (hb);have n4_:=Aside0.mk (ho);have n5_:=Aside0.mk (Kd.R_over' HO_103001.out (Kd.R_typed HO_107000.out) (by decide) hg);clear BK101 BK102 BK106 HB HO_107000 HO_103001;have BK101:=n0_;have BK102:=n1_;have BK106:=n2_;have HB:=n3_;have HO109:=n4_;have HO_103001:=n5_;clear n0_ n1_ n2_ n3_ n4_ n5_ ho hb hg hat;obtain ⟨Ao24,co24,eo24⟩:=Kd.R_slice HO109.out;subst eo24;obtain ⟨hcz25_0,hfz25_0⟩:=p1 BK106))
        go_roundg k2
        case measure=>have:=HK1.out;have:=HK2.out;omega
        case rel=>exact ⟨(wrap64 (x8_2+1)),(y107),(.slice Ao24 y107.length co24),(by first|rfl|(simp;done)|(simp [*];done)),H',⟨by have:=HK1.out;have:=HK2.out;omega⟩,⟨by refine pP ?_;exact Kd.R_mono (Kd.R_far (p:=⟨gb106,0,none⟩) (Kd.R_types HO_103001.out BK106.out (by decide)) (fun _ hk=>hk.2) (.slice Ao24 y107.length co24)) (fun _ hk=>trivial)⟩,⟨by refine pP ?_;exact Kd.R_mono (Kd.R_far (p:=⟨gb106,0,none⟩) (Kd.R_types HO109.out BK106.out (by decide)) (fun _ hk=>hk.2) (.slice Ao24 y107.length co24)) (fun _ hk=>hk.1)⟩,⟨by refine pQ ?_;refine blk_far ?_ NB101_106.out _;exact pK BK101⟩,⟨by refine pQ ?_;refine blk_far ?_ NB102_106.out _;exact pK BK102⟩,⟨by refine pQ ?_;refine blk_put (cs:=#[u107000]) ?_ 0 _ rfl;exact pK BK106⟩,⟨by repeat (first|(with_reducible first|exact HB.out|apply wA|apply wN|apply wD|refine wS ?_ GE101.out|refine wS ?_ GE102.out|refine wS ?_ GE106.out)|exact HB.out)⟩⟩
       ·rw [if_neg c16] at H
        exact absurd H (by simp)
      ·rw [if_neg c15] at H
       have c15b0:decide (x8_2 < a0)=false:=decide_eq_false c15
       clear c15
       obtain rfl:=Option.some.inj H
       have hnb26:=NB106_101.out
       have hnc26:=NB101_106.out
       have hnb27:=NB106_102.out
       have hnc27:=NB102_106.out
       have hcz28_0:=pV BK106 (u107000) 0 rfl
       have hfz28_0:=kF BK106.out 0
       obtain ⟨Ao29,co29,eo29⟩:=Kd.R_slice HO_107000.out
       subst eo29
       have hnb30:=NB101_102.out
       have hnc30:=NB102_101.out
       have hcz31_0:=pV BK101 (.slice none 0 0) 0 rfl
       have hfz31_0:=kF BK101.out 0
       go_wp2
       refine bodyPost_ret (results_cell_row rfl _ _ gb101 25 #[.slice Ao29 x107000_2.length co29] (0,0) _ rfl (by refine pQ ?_;refine blk_put (cs:=#[.slice none 0 0]) ?_ 0 _ rfl;exact pK BK101) Tryz.underlying25 rfl pU) rfl ?_
       exact ⟨_,by first|rfl|(simp [errW_none,errW_some] <;> rfl)|(simp [*,errW_none,errW_some] <;> rfl),by refine pP ?_;exact Kd.R_mono (Kd.R_far (p:=⟨gb101,0,none⟩) (Kd.R_types HO_107000.out BK101.out (by decide)) (fun _ hk=>hk.2) (.slice Ao29 x107000_2.length co29)) (fun _ hk=>trivial),by repeat (first|(with_reducible first|exact HB.out|apply wA|apply wN|apply wD|refine wS ?_ GE101.out|refine wS ?_ GE102.out|refine wS ?_ GE106.out)|exact HB.out)⟩
end Go.Proofs.YtkjlcbfjllpcnaaGreat.X
