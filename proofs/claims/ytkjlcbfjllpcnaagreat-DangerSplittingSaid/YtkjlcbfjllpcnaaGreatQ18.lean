/- Proof of the statement DangerSplitting: part 8 of 9, what it computes and why that answers true. -/
import Derived.Test.YtkjlcbfjllpcnaaGreatQ17
set_option linter.unusedVariables false
set_option linter.unusedSimpArgs false
namespace Go.Proofs.YtkjlcbfjllpcnaaGreat.X
open Go.RowKit YtkjlcbfjllpcnaaGreatW.PrintWords YtkjlcbfjllpcnaaGreatW.PrintLast YtkjlcbfjllpcnaaGreatW.PrintMore
attribute [local go_sem] max2_int min2_int max_two min_two max_three min_three max_four min_four
mutual
def qlaw16_DangerSplitting.l0:Nat→Int→Bool→Int→Int→Int→Int→Int→Bool→Int→List (S92)→Option (Bool)
 | 0,_,_,_,_,_,_,_,_,_,_=>none
 | k+1,x5,x6,x7,x8,x9,x10,x12,x13,x14,x722000=>if x14≤x12 then (if x13=true then (qlaw16_DangerSplitting.l0 k x5 x6 x7 x8 x9 x10 x12 true (wrap64 (x14+1)) x722000) else ((qref09_Quorum.f k x722000 x14).bind fun t722=>(if t722=true then ((qref09_Greatest.f k x722000 (wrap64 (x12 - x14))).bind fun t723=>(qlaw16_DangerSplitting.l0 k x5 x6 x7 x8 x9 x10 x12 (t723 != 0) (wrap64 (x14+1)) x722000)) else (qlaw16_DangerSplitting.l0 k x5 x6 x7 x8 x9 x10 x12 false (wrap64 (x14+1)) x722000)))) else (if x7=0 then (if (x6 != x13)=true then (qlaw16_DangerSplitting.j1 k x5 x6 x8 x9 true x722000) else (if (x6 != (x10 == 0))=true then (qlaw16_DangerSplitting.j1 k x5 x6 x8 x9 true x722000) else (if x6=true then (qlaw16_DangerSplitting.j1 k x5 x6 x8 x9 false x722000) else (qlaw16_DangerSplitting.j1 k x5 x6 x8 x9 (x10 != 11) x722000)))) else (qlaw16_DangerSplitting.j1 k x5 x6 x8 x9 true x722000))
def qlaw16_DangerSplitting.j1:Nat→Int→Bool→Int→Int→Bool→List (S92)→Option (Bool)
 | 0,_,_,_,_,_,_=>none
 | k+1,x5,x6,x8,x9,x82,x722000=>if x82=true then (some false) else (if x6=true then (if (Go.bits .and .i64 x8 x9)=0 then (if (Go.bits .and .i64 (Go.bits .or .i64 x8 x9) x5)=0 then ((qref09_Quorum.f k x722000 x8).bind fun t724=>(if t724=true then ((qref09_Quorum.f k x722000 x9).bind fun t725=>(if t725=true then ((qlaw16_awake.f k).bind fun t726=>(some t726)) else (some false))) else (some false))) else (some false)) else (some false)) else ((qlaw16_awake.f k).bind fun t727=>(some t727)))
end
def qlaw16_DangerSplitting.f (k:Nat) (l0:List Int):Option (Bool):=(qmake_New.f l0).bind fun bt703=>((qmake_Config.f k bt703.1 bt703.2 6).bind fun bt706=>((qmake_Set.f k bt703.1 bt706.2 bt706.1).bind fun bt711=>((danger_Splits.f k bt706.1 bt711.1).bind fun bt713=>((danger_Pair.f k bt706.1 bt711.1).bind fun bt715=>((qref13_Delete.f k bt706.1 bt711.1).bind fun t718=>(qlaw16_DangerSplitting.l0 k bt711.1 bt713.1 bt713.2 bt715.1 bt715.2.1 bt715.2.2 (wrap64 ((shl .i64 1 (bt706.1.length:Int)) - 1)) false 1 t718))))))
set_option maxHeartbeats 8000000 in
set_option maxRecDepth 100000 in
theorem qlaw16_DangerSplitting.calls (k:Nat) (A0:Option Addr) (c0:Nat) (l0:List Int) (w:World) (hr0:Kd.C (Kd.int .i64) w A0 l0.length l0) (hc0:l0.length≤c0) (h:qlaw16_DangerSplitting.f k l0=some true) :
  Calls Tryz.prog 5 #[.slice A0 l0.length c0] w fun e w'=>e=.returned (.bool true)∧Below w.heap.size w w':=by
 have hu25:=Tryz.underlying25
 have HR0:=Z hr0
 have HC0:=Z hc0
 clear hr0 hc0
 have HB:=Z (Below.refl w.heap.size w)
 have H:((qmake_New.f l0).bind fun bt703=>((qmake_Config.f k bt703.1 bt703.2 6).bind fun bt706=>((qmake_Set.f k bt703.1 bt706.2 bt706.1).bind fun bt711=>((danger_Splits.f k bt706.1 bt711.1).bind fun bt713=>((danger_Pair.f k bt706.1 bt711.1).bind fun bt715=>((qref13_Delete.f k bt706.1 bt711.1).bind fun t718=>(qlaw16_DangerSplitting.l0 k bt711.1 bt713.1 bt713.2 bt715.1 bt715.2.1 bt715.2.2 (wrap64 ((shl .i64 1 (bt706.1.length:Int)) - 1)) false 1 t718)))))))=some true:=h
 clear h
 replace H:=pO H
 obtain ⟨⟨t703,t704⟩,A20,H⟩:=H
 try dsimp only at H
 have A2:=Z A20
 clear A20
 replace H:=pO H
 obtain ⟨⟨t706,t709⟩,A30,H⟩:=H
 try dsimp only at H
 have A3:=Z A30
 clear A30
 replace H:=pO H
 obtain ⟨⟨t711,t712⟩,A40,H⟩:=H
 try dsimp only at H
 have A4:=Z A40
 clear A40
 replace H:=pO H
 obtain ⟨⟨t713,t714⟩,A50,H⟩:=H
 try dsimp only at H
 have A5:=Z A50
 clear A50
 replace H:=pO H
 obtain ⟨⟨t715,t716,t717⟩,A60,H⟩:=H
 try dsimp only at H
 have A6:=Z A60
 clear A60
 replace H:=pO H
 obtain ⟨t718,A70,H⟩:=H
 try dsimp only at H
 have A7:=Z A70
 clear A70
 obtain ⟨ji8,hji8⟩:∃ j_:Int,(shl .i64 1 (t706.length:Int))=j_:=⟨_,rfl⟩
 replace H:(qlaw16_DangerSplitting.l0 k t711 t713 t714 t715 t716 t717 (wrap64 ((ji8) - 1)) false 1 t718)=some true:=by first|(rw [hji8] at H;exact H)|(simp only [hji8] at H ⊢;exact H)
 (try rw [hji8] at A2)
 (try rw [hji8] at A3)
 (try rw [hji8] at A4)
 (try rw [hji8] at A5)
 (try rw [hji8] at A6)
 (try rw [hji8] at A7)
 have hji8_:(IntKind.i64.wrap (1 * 2 ^ min (t706.length:Int).toNat 64))=ji8:=hji8
 have hji8z:(t706.length:Int)≤64→(IntKind.i64.wrap (1 * 2 ^ (t706.length:Int).toNat))=ji8:=shl_small hji8
 have hji8p:(IntKind.i64.wrap (1 * 2 ^ min t706.length 64))=ji8:=hji8_
 have hji8q:(t706.length:Int)≤64→(IntKind.i64.wrap (1 * 2 ^ t706.length))=ji8:=hji8z
 have hji8r:(IntKind.i64.wrap (2 ^ min t706.length 64))=ji8:=by have h_:=hji8p;rw [Int.one_mul] at h_;exact h_
 have hji8s:(t706.length:Int)≤64→(IntKind.i64.wrap (2 ^ t706.length))=ji8:=fun hle_=>by have h_:=hji8q hle_;rw [Int.one_mul] at h_;exact h_
 have hji8u:(IntKind.i64.wrap (2 ^ min (t706.length:Int).toNat 64))=ji8:=by have h_:=hji8_;rw [Int.one_mul] at h_;exact h_
 have hji8v:(t706.length:Int)≤64→(IntKind.i64.wrap (2 ^ (t706.length:Int).toNat))=ji8:=fun hle_=>by have h_:=hji8z hle_;rw [Int.one_mul] at h_;exact h_
 have hji8y:(wrap64 (1 * 2 ^ min (t706.length:Int).toNat 64))=ji8:=(i64_w _).symm.trans hji8_
 have hji8x:(t706.length:Int)≤64→(wrap64 (1 * 2 ^ (t706.length:Int).toNat))=ji8:=fun h_=>(i64_w _).symm.trans (hji8z h_)
 have H':=Z H
 clear H
 go_enter Tryz.func5,Tryz.ntmps5
 go_wp2_with (first|((with_reducible refine gate_callee (f:=20) rfl ?_);refine goesL_ (some 16) rfl rfl Tryz.func20 pU rfl #[.slice A0 l0.length c0] rfl pG ?_;(with_reducible refine (qmake_New.calls _ _ l0 t703 t704 w _ ?side1 ?side2 ?side3 A2.out).mono ?_);(case side1=>exact pB);(case side2=>exact HR0.out);(case side3=>exact HC0.out);rintro e w9 ⟨g705,rfl,hi,hb,hb2⟩;refine ⟨_,rfl,?_⟩;have n0_:=Z (hb);have HI705:=Z (hi);clear HB;have HB:=n0_;clear n0_;(try clear hb);(try clear hb2);(try clear hk);(try clear hi))|((with_reducible refine gate_callee (f:=21) rfl ?_);refine goesL_ (some 18) rfl rfl Tryz.func21 pU rfl #[.pointer (some ⟨g705,0,none⟩),.int .i64 6] rfl pG ?_;(with_reducible refine (qmake_Config.calls k g705 t703 t704 6 t706 t709 w _ ?side1 ?side2 A3.out).mono ?_);(case side1=>repeat (first|(with_reducible first|exact HI705.out|apply IsS95.alloc|apply IsS95.drewN|apply IsS95.drew|apply IsS95.set_1)|exact HI705.out));(case side2=>repeat (first|(with_reducible first|exact HB.out|apply wA|apply wN|apply wD|refine wS ?_ (IsS95.ge HI705.out))|exact HB.out));rintro e w10 ⟨v707,rfl,ho0,hi,hb,hk⟩;refine ⟨_,rfl,?_⟩;have HO708:=Z (Kd.R_lower ho0 (below_size (by repeat (first|(with_reducible first|exact HB.out|apply wA|apply wN|apply wD|refine wS ?_ (IsS95.ge HI705.out))|exact HB.out))));have n1_:=Z (hb);replace HI705:=Z (hi);clear HB;have HB:=n1_;clear n1_;(try clear hb);(try clear hb2);(try clear hk);(try clear hi);(try clear ho0))|((with_reducible refine gate_dst (N:=4) rfl ?_);refine box_event ?hg (N:=4) ?hd (cs:=#[.slice none 0 0]) (t:=25) ?hr ?_;(case hd=>rfl);(case hg=>rfl);(case hr=>first|(go_simp;done)|(go_simp;rfl));intro gb710 hg w11 hbox hb;replace HO708:=Z (Kd.R_below (pR HO708) hb);have n1_:=Z (IsS95.below (by repeat (first|(with_reducible first|exact HI705.out|apply IsS95.alloc|apply IsS95.drewN|apply IsS95.drew|apply IsS95.set_1)|exact HI705.out)) hb);have n2_:=Z (below_step (by repeat (first|(with_reducible first|exact HB.out|apply wA|apply wN|apply wD|refine wS ?_ (IsS95.ge HI705.out))|exact HB.out)) hb);have BK710:=Z (hbox);have GW710:=Z ((by rw [hg];exact (below_size (by repeat (first|(with_reducible first|exact HB.out|apply wA|apply wN|apply wD|refine wS ?_ (IsS95.ge HI705.out))|exact HB.out))):w.heap.size≤gb710));have GE710:=Z ((by rw [hg];exact (below_size (by repeat (first|(with_reducible first|exact HB.out|apply wA|apply wN|apply wD|refine wS ?_ (IsS95.ge HI705.out))|exact HB.out))):w.heap.size≤gb710));have NB705_710:=Z ((by rw [hg];exact Nat.ne_of_lt (IsS95.lt (show IsS95 w _ g705 t703 t709 from by repeat (first|(with_reducible first|exact HI705.out|apply IsS95.alloc|apply IsS95.drewN|apply IsS95.drew|apply IsS95.set_1)|exact HI705.out))):g705 ≠ gb710));have NB710_705:=Z ((by rw [hg];exact Nat.ne_of_gt (IsS95.lt (show IsS95 w _ g705 t703 t709 from by repeat (first|(with_reducible first|exact HI705.out|apply IsS95.alloc|apply IsS95.drewN|apply IsS95.drew|apply IsS95.set_1)|exact HI705.out))):gb710 ≠ g705));clear HI705 HB;have HI705:=n1_;have HB:=n2_;clear n1_ n2_ hb hbox hg;obtain ⟨Ao12,co12,eo12⟩:=Kd.R_slice HO708.out;subst eo12;have hnb13:=NB710_705.out;have hnc13:=NB705_710.out;obtain ⟨hcz14_0,hfz14_0⟩:=p1 BK710)|((with_reducible refine gate_callee (f:=39) rfl ?_);refine goesL_ (some 21) rfl rfl Tryz.func39 pU rfl #[.pointer (some ⟨g705,0,none⟩),.agg #[.slice Ao12 t706.length co12]] rfl pG ?_;(with_reducible refine (qmake_Set.calls k g705 t703 t709 _ _ t706 t711 t712 w _ ?side1 ?side2 ?side3 ?side4 A4.out).mono ?_);(case side1=>repeat (first|(with_reducible first|exact HI705.out|apply IsS95.alloc|apply IsS95.drewN|apply IsS95.drew|apply IsS95.set_1|refine IsS95.far ?_ NB705_710.out _)|exact HI705.out));(case side2=>repeat (first|(with_reducible first|exact HB.out|apply wA|apply wN|apply wD|refine wS ?_ (IsS95.ge HI705.out)|refine wS ?_ GE710.out)|exact HB.out));(case side3=>exact Kd.C_foot_own (IsS95.apart (show IsS95 w _ g705 t703 t709 from by repeat (first|(with_reducible first|exact HI705.out|apply IsS95.alloc|apply IsS95.drewN|apply IsS95.drew|apply IsS95.set_1|refine IsS95.far ?_ NB705_710.out _)|exact HI705.out)) (by refine pP ?_;exact (Kd.R_mono (Kd.R_far (p:=⟨gb710,0,none⟩) (Kd.R_types HO708.out BK710.out (by decide)) (fun _ hk=>hk.2) (.slice Ao12 t706.length co12)) (fun _ h_=>h_.1))) (by decide)) (fun _ h_=>h_.2));(case side4=>exact (Kd.R_reads' HO708.out).2.1);rintro e w15 ⟨rfl,hi,hb,hk⟩;refine ⟨_,rfl,?_⟩;replace HO708:=Z (Kd.R_mono (Kd.R_keep (IsS95.apart (show IsS95 w _ g705 t703 t709 from by repeat (first|(with_reducible first|exact HI705.out|apply IsS95.alloc|apply IsS95.drewN|apply IsS95.drew|apply IsS95.set_1|refine IsS95.far ?_ NB705_710.out _)|exact HI705.out)) (by refine pP ?_;exact (Kd.R_mono (Kd.R_far (p:=⟨gb710,0,none⟩) (Kd.R_types HO708.out BK710.out (by decide)) (fun _ hk=>hk.2) (.slice Ao12 t706.length co12)) (fun _ h_=>h_.1))) (by decide)) hk (fun _ h=>h.2)) (fun _ h=>h.1));replace BK710:=Z (KeepBut.blk hk (g':=gb710) (o:=.cells #[.slice Ao12 t706.length co12] 25 (0,0)) (by refine pQ ?_;refine blk_put (cs:=#[.slice none 0 0]) ?_ 0 _ rfl;exact pK BK710) NB710_705.out (by simp));have n2_:=Z (hb);replace HI705:=Z (hi);clear HB;have HB:=n2_;clear n2_;(try clear hb);(try clear hb2);(try clear hk);(try clear hi);obtain ⟨hcz16_0,hfz16_0⟩:=p1 BK710)|((with_reducible refine gate_callee (f:=40) rfl ?_);refine goesL_ (some 25) rfl rfl Tryz.func40 pU rfl #[.agg #[.slice Ao12 t706.length co12],.int .i64 t711] rfl pG ?_;(with_reducible refine (danger_Splits.calls k _ _ t706 t711 t713 t714 _ ?side1 ?side2 A5.out).mono ?_);(case side1=>repeat (first|exact (Kd.R_reads' HO708.out).2.2|(with_reducible refine Kd.C_alloc ?_ _)|(with_reducible refine Kd.C_drewN ?_ _)|(with_reducible refine Kd.C_drew ?_)));(case side2=>exact (Kd.R_reads' HO708.out).2.1);rintro e w17 ⟨rfl,hb⟩;refine ⟨_,rfl,?_⟩;replace HO708:=Z (Kd.R_below (pR HO708) hb);have n1_:=Z (IsS95.below (by repeat (first|(with_reducible first|exact HI705.out|apply IsS95.alloc|apply IsS95.drewN|apply IsS95.drew|apply IsS95.set_1|refine IsS95.far ?_ NB705_710.out _)|exact HI705.out)) hb);replace BK710:=Z (blk_below (g:=gb710) (o:=.cells #[.slice Ao12 t706.length co12] 25 (0,0)) (pK BK710) hb);have n3_:=Z (below_step (by repeat (first|(with_reducible first|exact HB.out|apply wA|apply wN|apply wD|refine wS ?_ (IsS95.ge HI705.out)|refine wS ?_ GE710.out)|exact HB.out)) hb);clear HI705 HB;have HI705:=n1_;have HB:=n3_;clear n1_ n3_;(try clear hb);(try clear hb2);(try clear hk);(try clear hi);obtain ⟨hcz18_0,hfz18_0⟩:=p1 BK710)|((with_reducible refine gate_callee (f:=41) rfl ?_);refine goesL_ (some 31) rfl rfl Tryz.func41 pU rfl #[.agg #[.slice Ao12 t706.length co12],.int .i64 t711] rfl pG ?_;(with_reducible refine (danger_Pair.calls k _ _ t706 t711 t715 t716 t717 _ ?side1 ?side2 A6.out).mono ?_);(case side1=>repeat (first|exact (Kd.R_reads' HO708.out).2.2|(with_reducible refine Kd.C_alloc ?_ _)|(with_reducible refine Kd.C_drewN ?_ _)|(with_reducible refine Kd.C_drew ?_)));(case side2=>exact (Kd.R_reads' HO708.out).2.1);rintro e w19 ⟨rfl,hb⟩;refine ⟨_,rfl,?_⟩;replace HO708:=Z (Kd.R_below (pR HO708) hb);have n1_:=Z (IsS95.below (by repeat (first|(with_reducible first|exact HI705.out|apply IsS95.alloc|apply IsS95.drewN|apply IsS95.drew|apply IsS95.set_1|refine IsS95.far ?_ NB705_710.out _)|exact HI705.out)) hb);replace BK710:=Z (blk_below (g:=gb710) (o:=.cells #[.slice Ao12 t706.length co12] 25 (0,0)) (pK BK710) hb);have n3_:=Z (below_step (by repeat (first|(with_reducible first|exact HB.out|apply wA|apply wN|apply wD|refine wS ?_ (IsS95.ge HI705.out)|refine wS ?_ GE710.out)|exact HB.out)) hb);clear HI705 HB;have HI705:=n1_;have HB:=n3_;clear n1_ n3_;(try clear hb);(try clear hb2);(try clear hk);(try clear hi);obtain ⟨hcz20_0,hfz20_0⟩:=p1 BK710)|((with_reducible refine gate_callee (f:=42) rfl ?_);refine goesL_ (some 37) rfl rfl Tryz.func42 pU rfl #[.agg #[.slice Ao12 t706.length co12],.int .i64 t711] rfl pG ?_;(with_reducible refine (qref13_Delete.calls k (fun k_=>((True∧k_ ≠ gb710)∧k_ ≠ g705)) _ _ t706 t711 t718 _ ?side1 A7.out).mono ?_);(case side1=>exact Kd.R_V (IsS95.apart HI705.out (Kd.R_types (HO708.out) BK710.out (by decide)) (by decide)));rintro e w21 ⟨v719,rfl,ho0,hb⟩;refine ⟨_,rfl,?_⟩;replace HO708:=Z (Kd.R_below (pR HO708) hb);have HO720:=Z (Kd.V_lower (Kd.V_mono (ok':=fun k_=>k_ ≠ gb710∧k_ ≠ g705) ho0 (fun k_ hk_=>⟨Or.elim hk_ (fun hs_=>hs_.1.2) (fun hn_=>(Kd.freshB (g:=gb710) (o:=.cells #[.slice Ao12 t706.length co12] 25 (0,0)) (pK BK710) k_ hn_)),Or.elim hk_ (fun hs_=>hs_.2) (fun hn_=>(IsS95.fresh (by repeat (first|(with_reducible first|exact HI705.out|apply IsS95.alloc|apply IsS95.drewN|apply IsS95.drew|apply IsS95.set_1|refine IsS95.far ?_ NB705_710.out _)|exact HI705.out)) k_ hn_))⟩)) (below_size (by repeat (first|(with_reducible first|exact HB.out|apply wA|apply wN|apply wD|refine wS ?_ (IsS95.ge HI705.out)|refine wS ?_ GE710.out)|exact HB.out))));have n2_:=Z (IsS95.below (by repeat (first|(with_reducible first|exact HI705.out|apply IsS95.alloc|apply IsS95.drewN|apply IsS95.drew|apply IsS95.set_1|refine IsS95.far ?_ NB705_710.out _)|exact HI705.out)) hb);replace BK710:=Z (blk_below (g:=gb710) (o:=.cells #[.slice Ao12 t706.length co12] 25 (0,0)) (pK BK710) hb);have n4_:=Z (below_step (by repeat (first|(with_reducible first|exact HB.out|apply wA|apply wN|apply wD|refine wS ?_ (IsS95.ge HI705.out)|refine wS ?_ GE710.out)|exact HB.out)) hb);clear HI705 HB;have HI705:=n2_;have HB:=n4_;clear n2_ n4_;(try clear hb);(try clear hb2);(try clear hk);(try clear hi);(try clear ho0))|((with_reducible refine gate_dst (N:=11) rfl ?_);refine box_event ?hg (N:=11) ?hd (cs:=#[.slice none 0 0]) (t:=25) ?hr ?_;(case hd=>rfl);(case hg=>rfl);(case hr=>first|(go_simp;done)|(go_simp;rfl));intro gb721 hg w22 hbox hb;replace HO708:=Z (Kd.R_below (pR HO708) hb);replace HO720:=Z (Kd.V_below (Kd.V_elderB (by (with_reducible repeat (first|apply Kd.V_alloc|apply Kd.V_drewN|apply Kd.V_drew));exact HO720.out) gb721 (Nat.le_of_eq hg.symm)) hb);have n2_:=Z (IsS95.below (by repeat (first|(with_reducible first|exact HI705.out|apply IsS95.alloc|apply IsS95.drewN|apply IsS95.drew|apply IsS95.set_1|refine IsS95.far ?_ NB705_710.out _)|exact HI705.out)) hb);have n3_:=Z (blk_below (g:=gb710) (o:=.cells #[.slice Ao12 t706.length co12] 25 (0,0)) (pK BK710) hb);have n4_:=Z (below_step (by repeat (first|(with_reducible first|exact HB.out|apply wA|apply wN|apply wD|refine wS ?_ (IsS95.ge HI705.out)|refine wS ?_ GE710.out)|exact HB.out)) hb);have BK721:=Z (hbox);have GW721:=Z ((by rw [hg];exact (below_size (by repeat (first|(with_reducible first|exact HB.out|apply wA|apply wN|apply wD|refine wS ?_ (IsS95.ge HI705.out)|refine wS ?_ GE710.out)|exact HB.out))):w.heap.size≤gb721));have GE721:=Z ((by rw [hg];exact (below_size (by repeat (first|(with_reducible first|exact HB.out|apply wA|apply wN|apply wD|refine wS ?_ (IsS95.ge HI705.out)|refine wS ?_ GE710.out)|exact HB.out))):w.heap.size≤gb721));have NB710_721:=Z ((pL hg (pK BK710):gb710 ≠ gb721));have NB721_710:=Z ((pM hg (pK BK710):gb721 ≠ gb710));have NB705_721:=Z ((by rw [hg];exact Nat.ne_of_lt (IsS95.lt (show IsS95 w _ g705 t703 t712 from by repeat (first|(with_reducible first|exact HI705.out|apply IsS95.alloc|apply IsS95.drewN|apply IsS95.drew|apply IsS95.set_1|refine IsS95.far ?_ NB705_710.out _)|exact HI705.out))):g705 ≠ gb721));have NB721_705:=Z ((by rw [hg];exact Nat.ne_of_gt (IsS95.lt (show IsS95 w _ g705 t703 t712 from by repeat (first|(with_reducible first|exact HI705.out|apply IsS95.alloc|apply IsS95.drewN|apply IsS95.drew|apply IsS95.set_1|refine IsS95.far ?_ NB705_710.out _)|exact HI705.out))):gb721 ≠ g705));clear HI705 BK710 HB;have HI705:=n2_;have BK710:=n3_;have HB:=n4_;clear n2_ n3_ n4_ hb hbox hg;obtain ⟨Ao23,co23,eo23⟩:=Kd.V_slice HO720.out;subst eo23;have hnb24:=NB721_710.out;have hnc24:=NB710_721.out;have hnb25:=NB721_705.out;have hnc25:=NB705_721.out;obtain ⟨hcz26_0,hfz26_0⟩:=p1 BK721;obtain ⟨hcz27_0,hfz27_0⟩:=p1 BK710))
 go_loopg [13,14] k (fun kq v13 v14 w'=>∃ (x13_1:Bool) (x14_1:Int),v13=.bool x13_1∧v14=.int .i64 x14_1∧Aside0 (qlaw16_DangerSplitting.l0 kq t711 t713 t714 t715 t716 t717 (wrap64 ((ji8) - 1)) x13_1 x14_1 t718=some true)∧Aside0 (kq≤k)∧Aside0 (Kd.R k92 92 w' w.heap.size (fun _=>True) (.slice Ao12 t706.length co12) t706)∧Aside0 (Kd.V k92 92 w' w.heap.size (fun k_=>k_ ≠ gb710∧k_ ≠ gb721) (.slice Ao23 t718.length co23) t718)∧Aside0 (w'.heap[gb710]?=some (.cells #[(.slice Ao12 t706.length co12)] 25 (0,0)))∧Aside0 (w'.heap[gb721]?=some (.cells #[(.slice Ao23 t718.length co23)] 25 (0,0)))∧Aside0 (Below w.heap.size w w'))
 case atStart=>exact ⟨(false),(1),pE,pE,H',⟨Nat.le_refl _⟩,⟨by refine pP ?_;exact Kd.R_mono (Kd.R_far (p:=⟨gb721,0,none⟩) (Kd.R_types HO708.out BK721.out (by decide)) (fun _ hk=>hk.2) (.slice Ao23 t718.length co23)) (fun _ hk=>trivial)⟩,⟨by (with_reducible repeat (first|apply Kd.V_alloc|apply Kd.V_drewN|apply Kd.V_drew));exact Kd.V_mono (Kd.V_far (p:=⟨gb721,0,none⟩) (Kd.V_mono HO720.out (fun k_ hk=>(⟨hk,hk.2⟩:_∧k_ ≠ gb721))) (fun _ hk=>hk.2) (.slice Ao23 t718.length co23)) (fun _ hk=>⟨hk.1.1.1,hk.1.2⟩)⟩,⟨by refine pQ ?_;refine blk_far ?_ NB710_721.out _;exact pK BK710⟩,⟨by refine pQ ?_;refine blk_put (cs:=#[.slice none 0 0]) ?_ 0 _ rfl;exact pK BK721⟩,⟨by repeat (first|(with_reducible first|exact HB.out|apply wA|apply wN|apply wD|refine wS ?_ (IsS95.ge HI705.out)|refine wS ?_ GE710.out|refine wS ?_ GE721.out)|exact HB.out)⟩⟩
 case round =>
  clear H'
  try clear c1
  try clear c2
  try clear p2
  try clear c3
  try clear c4
  try clear c5
  try clear p6
  try clear c13
  try clear c20
  try clear c21
  try clear c24
  try clear c25
  try clear hcz14_0
  try clear hcz16_0
  try clear hcz18_0
  try clear hcz20_0
  try clear hcz26_0
  try clear hcz27_0
  try clear hfz14_0
  try clear hfz16_0
  try clear hfz18_0
  try clear hfz20_0
  try clear hfz26_0
  try clear hfz27_0
  obtain ⟨x13_1,x14_1,rfl,rfl,HA,HK1,HO_711000,HO_722000,BK710,BK721,HB⟩:=hrel
  cases gk with
  | zero=>exact absurd HA.out (by simp [qlaw16_DangerSplitting.l0])
  | succ k1 =>
   have H:=HA.out
   clear HA
   simp only [qlaw16_DangerSplitting.l0] at H
   by_cases c28:x14_1≤(wrap64 ((ji8) - 1))
   ·rw [if_pos c28] at H
    have c28b0:decide (x14_1≤(wrap64 ((ji8) - 1)))=true:=decide_eq_true c28
    clear c28
    by_cases c29:x13_1=true
    ·subst c29
     rw [if_pos rfl] at H
     have H':=Z H
     clear H
     go_wp2
     go_roundg k1
     case measure=>have:=HK1.out;omega
     case rel=>exact ⟨(true),(wrap64 (x14_1+1)),pE,pE,H',⟨by have:=HK1.out;omega⟩,⟨pR HO_711000⟩,⟨by (with_reducible repeat (first|apply Kd.V_alloc|apply Kd.V_drewN|apply Kd.V_drew));exact HO_722000.out⟩,⟨pK BK710⟩,⟨pK BK721⟩,⟨pB⟩⟩
    ·replace c29:=Bool.eq_false_iff.mpr c29
     subst c29
     rw [if_neg (show ¬ (false=true) by decide)] at H
     replace H:=pO H
     obtain ⟨t722,A300,H⟩:=H
     try dsimp only at H
     have A30:=Z A300
     clear A300
     by_cases c31:t722=true
     ·subst c31
      rw [if_pos rfl] at H
      replace H:=pO H
      obtain ⟨t723,A320,H⟩:=H
      try dsimp only at H
      have A32:=Z A320
      clear A320
      have H':=Z H
      clear H
      have hnb33:=NB721_710.out
      have hnc33:=NB710_721.out
      have hcz34_0:=pV BK721 (.slice Ao23 t718.length co23) 0 rfl
      have hfz34_0:=kF BK721.out 0
      go_wp2_with (first|(go_at_call 43;(with_reducible refine (qref09_Quorum.calls k1 _ _ t718 x14_1 true _ ?side1 ?side2 A30.out).mono ?_);(case side1=>repeat (first|exact (Kd.V_reads' HO_722000.out).2.2|(with_reducible refine Kd.C_alloc ?_ _)|(with_reducible refine Kd.C_drewN ?_ _)|(with_reducible refine Kd.C_drew ?_)));(case side2=>exact (Kd.V_reads' HO_722000.out).2.1);rintro e w35 ⟨rfl,hb⟩;replace HO_711000:=Z (Kd.R_below (pR HO_711000) hb);replace HO_722000:=Z (Kd.V_below (by (with_reducible repeat (first|apply Kd.V_alloc|apply Kd.V_drewN|apply Kd.V_drew));exact HO_722000.out) hb);replace BK710:=Z (blk_below (g:=gb710) (o:=.cells #[.slice Ao12 t706.length co12] 25 (0,0)) (pK BK710) hb);replace BK721:=Z (blk_below (g:=gb721) (o:=.cells #[.slice Ao23 t718.length co23] 25 (0,0)) (pK BK721) hb);have n4_:=Z (below_step pB hb);clear HB;have HB:=n4_;clear n4_;(try clear hb);(try clear hb2);(try clear hk);(try clear hi);obtain ⟨hcz36_0,hfz36_0⟩:=p1 BK721)|(go_at_call 44;(with_reducible refine (qref09_Greatest.calls k1 _ _ t718 (wrap64 ((wrap64 ((ji8) - 1)) - x14_1)) t723 _ ?side1 ?side2 A32.out).mono ?_);(case side1=>repeat (first|exact (Kd.V_reads' HO_722000.out).2.2|(with_reducible refine Kd.C_alloc ?_ _)|(with_reducible refine Kd.C_drewN ?_ _)|(with_reducible refine Kd.C_drew ?_)));(case side2=>exact (Kd.V_reads' HO_722000.out).2.1);rintro e w37 ⟨rfl,hb⟩;replace HO_711000:=Z (Kd.R_below (pR HO_711000) hb);replace HO_722000:=Z (Kd.V_below (by (with_reducible repeat (first|apply Kd.V_alloc|apply Kd.V_drewN|apply Kd.V_drew));exact HO_722000.out) hb);replace BK710:=Z (blk_below (g:=gb710) (o:=.cells #[.slice Ao12 t706.length co12] 25 (0,0)) (pK BK710) hb);replace BK721:=Z (blk_below (g:=gb721) (o:=.cells #[.slice Ao23 t718.length co23] 25 (0,0)) (pK BK721) hb);have n4_:=Z (below_step pB hb);clear HB;have HB:=n4_;clear n4_;(try clear hb);(try clear hb2);(try clear hk);(try clear hi)))
      go_roundg k1
      case measure=>have:=HK1.out;omega
      case rel=>exact ⟨((t723 != 0)),(wrap64 (x14_1+1)),pE,pE,H',⟨by have:=HK1.out;omega⟩,⟨pR HO_711000⟩,⟨by (with_reducible repeat (first|apply Kd.V_alloc|apply Kd.V_drewN|apply Kd.V_drew));exact HO_722000.out⟩,⟨pK BK710⟩,⟨pK BK721⟩,⟨pB⟩⟩
     ·replace c31:=Bool.eq_false_iff.mpr c31
      subst c31
      rw [if_neg (show ¬ (false=true) by decide)] at H
      have H':=Z H
      clear H
      have hnb38:=NB721_710.out
      have hnc38:=NB710_721.out
      have hcz39_0:=pV BK721 (.slice Ao23 t718.length co23) 0 rfl
      have hfz39_0:=kF BK721.out 0
      go_wp2_with (first|(go_at_call 43;(with_reducible refine (qref09_Quorum.calls k1 _ _ t718 x14_1 false _ ?side1 ?side2 A30.out).mono ?_);(case side1=>repeat (first|exact (Kd.V_reads' HO_722000.out).2.2|(with_reducible refine Kd.C_alloc ?_ _)|(with_reducible refine Kd.C_drewN ?_ _)|(with_reducible refine Kd.C_drew ?_)));(case side2=>exact (Kd.V_reads' HO_722000.out).2.1);rintro e w40 ⟨rfl,hb⟩;replace HO_711000:=Z (Kd.R_below (pR HO_711000) hb);replace HO_722000:=Z (Kd.V_below (by (with_reducible repeat (first|apply Kd.V_alloc|apply Kd.V_drewN|apply Kd.V_drew));exact HO_722000.out) hb);replace BK710:=Z (blk_below (g:=gb710) (o:=.cells #[.slice Ao12 t706.length co12] 25 (0,0)) (pK BK710) hb);replace BK721:=Z (blk_below (g:=gb721) (o:=.cells #[.slice Ao23 t718.length co23] 25 (0,0)) (pK BK721) hb);have n4_:=Z (below_step pB hb);clear HB;have HB:=n4_;clear n4_;(try clear hb);(try clear hb2);(try clear hk);(try clear hi)))
      go_roundg k1
      case measure=>have:=HK1.out;omega
      case rel=>exact ⟨(false),(wrap64 (x14_1+1)),pE,pE,H',⟨by have:=HK1.out;omega⟩,⟨pR HO_711000⟩,⟨by (with_reducible repeat (first|apply Kd.V_alloc|apply Kd.V_drewN|apply Kd.V_drew));exact HO_722000.out⟩,⟨pK BK710⟩,⟨pK BK721⟩,⟨pB⟩⟩
   ·rw [if_neg c28] at H
    have c28b0:decide (x14_1≤(wrap64 ((ji8) - 1)))=false:=decide_eq_false c28
    clear c28
    have HC41:=Z H
    clear H
    go_upto_region 13 with (fail)
    go_cut [82] (fun v82 wc=>∃ (kq:Nat) (x82_40:Bool),v82=.bool x82_40∧Aside0 (qlaw16_DangerSplitting.j1 kq t711 t713 t715 t716 x82_40 t718=some true)∧Aside0 (kq≤k1)∧Aside0 (Kd.R k92 92 wc w.heap.size (fun _=>True) (.slice Ao12 t706.length co12) t706)∧Aside0 (Kd.V k92 92 wc w.heap.size (fun k_=>k_ ≠ gb710∧k_ ≠ gb721) (.slice Ao23 t718.length co23) t718)∧Aside0 (wc.heap[gb710]?=some (.cells #[(.slice Ao12 t706.length co12)] 25 (0,0)))∧Aside0 (wc.heap[gb721]?=some (.cells #[(.slice Ao23 t718.length co23)] 25 (0,0)))∧Aside0 (Below w.heap.size w wc))
    case first =>
     have H:=HC41.out
     clear HC41
     by_cases c42:t714=0
     ·rw [if_pos c42] at H
      have c42b0:(t714 == 0)=true:=beq_iff_eq.mpr c42
      have c42b1:(t714 != 0)=false:=bne_eq_false_iff_eq.mpr c42
      clear c42
      (first|rw [c42b0]|(simp only [i64_w,i32_w];rw [c42b0])|skip)
      by_cases c43:(t713 != x13_1)=true
      ·rw [if_pos c43] at H
       have c43b0:(t713 != x13_1)=true:=c43
       (try (have c43b1:decide (t713=x13_1)=false:=by simpa using c43))
       (try (have c43b2:(t713 == x13_1)=false:=by simpa using c43))
       (try (have c43b3:¬ (t713=x13_1):=by simpa using c43))
       clear c43
       have H':=Z H
       clear H
       go_wp2
       go_meet
       case rel=>exact ⟨_,(true),pE,H',⟨by have:=HK1.out;first|omega|exact Nat.le_refl _⟩,⟨pR HO_711000⟩,⟨by (with_reducible repeat (first|apply Kd.V_alloc|apply Kd.V_drewN|apply Kd.V_drew));exact HO_722000.out⟩,⟨pK BK710⟩,⟨pK BK721⟩,⟨pB⟩⟩
      ·rw [if_neg c43] at H
       have c43b0:(t713 != x13_1)=false:=by simpa using c43
       (try (have c43b1:decide (t713=x13_1)=true:=by simpa using c43))
       (try (have c43b2:(t713 == x13_1)=true:=by simpa using c43))
       clear c43
       by_cases c44:(t713 != (t717 == 0))=true
       ·rw [if_pos c44] at H
        have c44b0:(t713 != (t717 == 0))=true:=c44
        (try (have c44b1:decide (t713=(t717 == 0))=false:=by simpa using c44))
        (try (have c44b2:(t713 == (t717 == 0))=false:=by simpa using c44))
        (try (have c44b3:¬ (t713=(t717 == 0)):=by simpa using c44))
        clear c44
        have H':=Z H
        clear H
        go_wp2
        go_meet
        case rel=>exact ⟨_,(true),pE,H',⟨by have:=HK1.out;first|omega|exact Nat.le_refl _⟩,⟨pR HO_711000⟩,⟨by (with_reducible repeat (first|apply Kd.V_alloc|apply Kd.V_drewN|apply Kd.V_drew));exact HO_722000.out⟩,⟨pK BK710⟩,⟨pK BK721⟩,⟨pB⟩⟩
       ·rw [if_neg c44] at H
        have c44b0:(t713 != (t717 == 0))=false:=by simpa using c44
        (try (have c44b1:decide (t713=(t717 == 0))=true:=by simpa using c44))
        (try (have c44b2:(t713 == (t717 == 0))=true:=by simpa using c44))
        clear c44
        by_cases c45:t713=true
        ·subst c45
         rw [if_pos rfl] at H
         have H':=Z H
         clear H
         go_wp2
         go_meet
         case rel=>exact ⟨_,(false),pE,H',⟨by have:=HK1.out;first|omega|exact Nat.le_refl _⟩,⟨pR HO_711000⟩,⟨by (with_reducible repeat (first|apply Kd.V_alloc|apply Kd.V_drewN|apply Kd.V_drew));exact HO_722000.out⟩,⟨pK BK710⟩,⟨pK BK721⟩,⟨pB⟩⟩
        ·replace c45:=Bool.eq_false_iff.mpr c45
         subst c45
         rw [if_neg (show ¬ (false=true) by decide)] at H
         have H':=Z H
         clear H
         go_wp2
         go_meet
         case rel=>exact ⟨_,((t717 != 11)),pE,H',⟨by have:=HK1.out;first|omega|exact Nat.le_refl _⟩,⟨pR HO_711000⟩,⟨by (with_reducible repeat (first|apply Kd.V_alloc|apply Kd.V_drewN|apply Kd.V_drew));exact HO_722000.out⟩,⟨pK BK710⟩,⟨pK BK721⟩,⟨pB⟩⟩
     ·rw [if_neg c42] at H
      have c42b0:(t714 == 0)=false:=beq_eq_false_iff_ne.mpr c42
      have c42b1:(t714 != 0)=true:=bne_iff_ne.mpr c42
      (first|rw [c42b0]|(simp only [i64_w,i32_w];rw [c42b0])|skip)
      have H':=Z H
      clear H
      go_wp2
      go_meet
      case rel=>exact ⟨_,(true),pE,H',⟨by have:=HK1.out;first|omega|exact Nat.le_refl _⟩,⟨pR HO_711000⟩,⟨by (with_reducible repeat (first|apply Kd.V_alloc|apply Kd.V_drewN|apply Kd.V_drew));exact HO_722000.out⟩,⟨pK BK710⟩,⟨pK BK721⟩,⟨pB⟩⟩
    case rest =>
     clear HC41
     try clear c1
     try clear c2
     try clear p2
     try clear c3
     try clear c4
     try clear c5
     try clear p6
     try clear c13
     try clear c20
     try clear c21
     try clear c24
     try clear c25
     try clear c28
     try clear c28b0
     try clear c29
     try clear c31
     try clear c33
     try clear c38
     try clear c39
     try clear c40
     try clear c41
     try clear c42
     try clear c42b0
     try clear c42b1
     try clear c43
     try clear c43b0
     try clear c43b1
     try clear c43b2
     try clear c44
     try clear c44b0
     try clear c44b1
     try clear c44b2
     try clear c45
     try clear hcz14_0
     try clear hcz16_0
     try clear hcz18_0
     try clear hcz20_0
     try clear hcz26_0
     try clear hcz27_0
     try clear hcz34_0
     try clear hcz36_0
     try clear hcz39_0
     try clear hfz14_0
     try clear hfz16_0
     try clear hfz18_0
     try clear hfz20_0
     try clear hfz26_0
     try clear hfz27_0
     try clear hfz34_0
     try clear hfz36_0
     try clear hfz39_0
     obtain ⟨kq,x82_40,rfl,HA,HJ40,HO_711000,HO_722000,BK710,BK721,HB⟩:=hcut
     cases kq with
     | zero=>exact absurd HA.out (by simp [qlaw16_DangerSplitting.j1])
     | succ kj40 =>
      have H:=HA.out
      clear HA
      simp only [qlaw16_DangerSplitting.j1] at H
      by_cases c46:x82_40=true
      ·subst c46
       rw [if_pos rfl] at H
       exact absurd H (by simp)
      ·replace c46:=Bool.eq_false_iff.mpr c46
       subst c46
       rw [if_neg (show ¬ (false=true) by decide)] at H
       by_cases c47:t713=true
       ·subst c47
        rw [if_pos rfl] at H
        by_cases c48:(Go.bits .and .i64 t715 t716)=0
        ·rw [if_pos c48] at H
         have c48b0:((Go.bits .and .i64 t715 t716) == 0)=true:=beq_iff_eq.mpr c48
         have c48b1:((Go.bits .and .i64 t715 t716) != 0)=false:=bne_eq_false_iff_eq.mpr c48
         clear c48
         by_cases c49:(Go.bits .and .i64 (Go.bits .or .i64 t715 t716) t711)=0
         ·rw [if_pos c49] at H
          have c49b0:((Go.bits .and .i64 (Go.bits .or .i64 t715 t716) t711) == 0)=true:=beq_iff_eq.mpr c49
          have c49b1:((Go.bits .and .i64 (Go.bits .or .i64 t715 t716) t711) != 0)=false:=bne_eq_false_iff_eq.mpr c49
          clear c49
          replace H:=pO H
          obtain ⟨t724,A500,H⟩:=H
          try dsimp only at H
          have A50:=Z A500
          clear A500
          by_cases c51:t724=true
          ·subst c51
           rw [if_pos rfl] at H
           replace H:=pO H
           obtain ⟨t725,A520,H⟩:=H
           try dsimp only at H
           have A52:=Z A520
           clear A520
           by_cases c53:t725=true
           ·subst c53
            rw [if_pos rfl] at H
            replace H:=pO H
            obtain ⟨t726,A540,H⟩:=H
            try dsimp only at H
            have A54:=Z A540
            clear A540
            obtain rfl:=Option.some.inj H
            have hnb55:=NB721_710.out
            have hnc55:=NB710_721.out
            have hcz56_0:=pV BK721 (.slice Ao23 t718.length co23) 0 rfl
            have hfz56_0:=kF BK721.out 0
            go_wp2_with (first|(go_at_call 43;(with_reducible refine (qref09_Quorum.calls kj40 _ _ t718 t715 true _ ?side1 ?side2 A50.out).mono ?_);(case side1=>repeat (first|exact (Kd.V_reads' HO_722000.out).2.2|(with_reducible refine Kd.C_alloc ?_ _)|(with_reducible refine Kd.C_drewN ?_ _)|(with_reducible refine Kd.C_drew ?_)));(case side2=>exact (Kd.V_reads' HO_722000.out).2.1);rintro e w57 ⟨rfl,hb⟩;replace HO_711000:=Z (Kd.R_below (pR HO_711000) hb);replace HO_722000:=Z (Kd.V_below (by (with_reducible repeat (first|apply Kd.V_alloc|apply Kd.V_drewN|apply Kd.V_drew));exact HO_722000.out) hb);replace BK710:=Z (blk_below (g:=gb710) (o:=.cells #[.slice Ao12 t706.length co12] 25 (0,0)) (pK BK710) hb);replace BK721:=Z (blk_below (g:=gb721) (o:=.cells #[.slice Ao23 t718.length co23] 25 (0,0)) (pK BK721) hb);have n4_:=Z (below_step pB hb);clear HB;have HB:=n4_;clear n4_;(try clear hb);(try clear hb2);(try clear hk);(try clear hi);obtain ⟨hcz58_0,hfz58_0⟩:=p1 BK721)|(go_at_call 43;(with_reducible refine (qref09_Quorum.calls kj40 _ _ t718 t716 true _ ?side1 ?side2 A52.out).mono ?_);(case side1=>repeat (first|exact (Kd.V_reads' HO_722000.out).2.2|(with_reducible refine Kd.C_alloc ?_ _)|(with_reducible refine Kd.C_drewN ?_ _)|(with_reducible refine Kd.C_drew ?_)));(case side2=>exact (Kd.V_reads' HO_722000.out).2.1);rintro e w59 ⟨rfl,hb⟩;replace HO_711000:=Z (Kd.R_below (pR HO_711000) hb);replace HO_722000:=Z (Kd.V_below (by (with_reducible repeat (first|apply Kd.V_alloc|apply Kd.V_drewN|apply Kd.V_drew));exact HO_722000.out) hb);replace BK710:=Z (blk_below (g:=gb710) (o:=.cells #[.slice Ao12 t706.length co12] 25 (0,0)) (pK BK710) hb);replace BK721:=Z (blk_below (g:=gb721) (o:=.cells #[.slice Ao23 t718.length co23] 25 (0,0)) (pK BK721) hb);have n4_:=Z (below_step pB hb);clear HB;have HB:=n4_;clear n4_;(try clear hb);(try clear hb2);(try clear hk);(try clear hi))|(go_at_call 38;(with_reducible refine (qlaw16_awake.calls kj40   _ A54.out).mono ?_);rintro e w60 ⟨rfl,hb⟩;replace HO_711000:=Z (Kd.R_below (pR HO_711000) hb);replace HO_722000:=Z (Kd.V_below (by (with_reducible repeat (first|apply Kd.V_alloc|apply Kd.V_drewN|apply Kd.V_drew));exact HO_722000.out) hb);replace BK710:=Z (blk_below (g:=gb710) (o:=.cells #[.slice Ao12 t706.length co12] 25 (0,0)) (pK BK710) hb);replace BK721:=Z (blk_below (g:=gb721) (o:=.cells #[.slice Ao23 t718.length co23] 25 (0,0)) (pK BK721) hb);have n4_:=Z (below_step pB hb);clear HB;have HB:=n4_;clear n4_;(try clear hb);(try clear hb2);(try clear hk);(try clear hi)))
            go_ret
            exact ⟨by first|rfl|exact congrArg (fun b_:Bool=>Ending.returned (Value.bool b_)) HT.out|(simp [errW_none,errW_some] <;> rfl)|(simp only [← hji8];first|rfl|(simp [errW_none,errW_some] <;> rfl))|(simp [*,errW_none,errW_some] <;> rfl),pB⟩
           ·replace c53:=Bool.eq_false_iff.mpr c53
            subst c53
            rw [if_neg (show ¬ (false=true) by decide)] at H
            exact absurd H (by simp)
          ·replace c51:=Bool.eq_false_iff.mpr c51
           subst c51
           rw [if_neg (show ¬ (false=true) by decide)] at H
           exact absurd H (by simp)
         ·rw [if_neg c49] at H
          have c49b0:((Go.bits .and .i64 (Go.bits .or .i64 t715 t716) t711) == 0)=false:=beq_eq_false_iff_ne.mpr c49
          have c49b1:((Go.bits .and .i64 (Go.bits .or .i64 t715 t716) t711) != 0)=true:=bne_iff_ne.mpr c49
          exact absurd H (by simp)
        ·rw [if_neg c48] at H
         have c48b0:((Go.bits .and .i64 t715 t716) == 0)=false:=beq_eq_false_iff_ne.mpr c48
         have c48b1:((Go.bits .and .i64 t715 t716) != 0)=true:=bne_iff_ne.mpr c48
         exact absurd H (by simp)
       ·replace c47:=Bool.eq_false_iff.mpr c47
        subst c47
        rw [if_neg (show ¬ (false=true) by decide)] at H
        replace H:=pO H
        obtain ⟨t727,A610,H⟩:=H
        try dsimp only at H
        have A61:=Z A610
        clear A610
        obtain rfl:=Option.some.inj H
        go_wp2_with (first|(go_at_call 38;(with_reducible refine (qlaw16_awake.calls kj40   _ A61.out).mono ?_);rintro e w62 ⟨rfl,hb⟩;replace HO_711000:=Z (Kd.R_below (pR HO_711000) hb);replace HO_722000:=Z (Kd.V_below (by (with_reducible repeat (first|apply Kd.V_alloc|apply Kd.V_drewN|apply Kd.V_drew));exact HO_722000.out) hb);replace BK710:=Z (blk_below (g:=gb710) (o:=.cells #[.slice Ao12 t706.length co12] 25 (0,0)) (pK BK710) hb);replace BK721:=Z (blk_below (g:=gb721) (o:=.cells #[.slice Ao23 t718.length co23] 25 (0,0)) (pK BK721) hb);have n4_:=Z (below_step pB hb);clear HB;have HB:=n4_;clear n4_;(try clear hb);(try clear hb2);(try clear hk);(try clear hi)))
        go_ret
        exact ⟨by first|rfl|exact congrArg (fun b_:Bool=>Ending.returned (Value.bool b_)) HT.out|(simp [errW_none,errW_some] <;> rfl)|(simp only [← hji8];first|rfl|(simp [errW_none,errW_some] <;> rfl))|(simp [*,errW_none,errW_some] <;> rfl),pB⟩
def qlaw16_DangerSplitting.Pure:Prop:=∀ (l0:List Int),l0.length≤maxLen→l0.length * 8≤140737488351232→(∀ x∈l0,(Lit.int .i64 x).wf=true)→∃ k,qlaw16_DangerSplitting.f k l0=some true
theorem qlaw16_DangerSplitting.walk (P:qlaw16_DangerSplitting.Pure) (a0:Option Addr) (len0 cap0:Nat) (z0:List Int) (w:World) (w0:(a0=none∧len0=0∧cap0=0∧z0=[]) ∨ ∃ x,a0=some x∧len0≤cap0∧cap0≤maxLen∧z0.length=cap0∧(∀ i,i < z0.length→w.cell? (x.add i)=some (.int .i64 (z0.getD i 0)))∧∀ n∈z0,(Lit.int .i64 n).wf=true) (y0:len0 * 8≤140737488351232) :
  Calls Tryz.prog 5 #[.slice a0 len0 cap0] w fun e w'=>e=.returned (.bool true)∧Below w.heap.size w w':=by
 obtain ⟨l0,rfl,hr0,hm0,hw0,hc0⟩:=ReadsInt.ofRowC w0
 obtain ⟨k,h⟩:=P l0 hm0 y0 hw0
 refine (qlaw16_DangerSplitting.calls k _ _ l0 w (Kd.C_of_reads (d:=(0:Int)) (h1:=fun _=>rfl) hr0) hc0 h).mono ?_
 rintro e w' ⟨rfl,hd⟩
 exact ⟨rfl,hd⟩
end Go.Proofs.YtkjlcbfjllpcnaaGreat.X
namespace Go.Proofs.YtkjlcbfjllpcnaaGreat.X
open Go.RowKit YtkjlcbfjllpcnaaGreatW.PrintWords YtkjlcbfjllpcnaaGreatW.PrintLast YtkjlcbfjllpcnaaGreatW.PrintMore
theorem Delete_ev {c:List S92} (hc:OkC c) {s:Nat} (hs:s < 1024):Ev (fun k=>deletion_Delete.f k c (s:Int)) (delC c s):=by
 have h:∀ k,deletion_Delete.f k c (s:Int)=some (delC c s):=fun k=>by
  unfold deletion_Delete.f
  rw [if_pos]
  ·rw [Int.toNat_natCast]
  ·have hn:=hc.2.1
   simp only [Bool.and_eq_true,decide_eq_true_eq,List.all_eq_true]
   refine ⟨⟨⟨by omega,by omega⟩,by omega⟩,fun m hm=>?_⟩
   have hy:=hc.2.2 m hm
   unfold OkM at hy
   unfold okDb
   by_cases hf:m.f0=true
   ·rw [if_pos hf] at hy ⊢
    simp only [Bool.and_eq_true,decide_eq_true_eq]
    exact ⟨validT_chk hy.1,by have:=hy.2.1;omega⟩
   ·rw [if_neg hf] at hy ⊢
    rw [hy];rfl
 simp only [h]
 exact Ev.now _
def ltN (x y:Nat):Prop:=pcn x < pcn y ∨ (pcn x=pcn y∧x < y)
theorem ltN_trans {x y z:Nat} (h:ltN x y) (k:ltN y z):ltN x z:=by unfold ltN at *;omega
theorem pcn_full:∀ n,n < 11→pcn (2 ^ n - 1)=n:=by decide +kernel
theorem pcn_bound:∀ n,n < 11→∀ z,z < 2 ^ n→pcn z≤n:=by decide +kernel
theorem pcn_least:∀ z,z < 1024→2 ^ pcn z - 1≤z:=by decide +kernel
theorem below_eq (s:Int) {n:Nat} (hn:n≤10):nodeset_below.f s (n:Int)=some (decide (0≤s) && decide (s < ((2 ^ n:Nat):Int))):=by
 unfold nodeset_below.f
 have hsh:shl .i64 1 (n:Int)=((2 ^ n:Nat):Int):=shl_nat (by omega)
 by_cases h:s ≥ 0
 ·rw [if_pos h,if_pos (by omega),hsh]
  have:decide (0≤s)=true:=decide_eq_true h
  rw [this,Bool.true_and]
 ·rw [if_neg h]
  have:decide (0≤s)=false:=decide_eq_false h
  rw [this,Bool.false_and]
def Nxt (n s:Nat) (r:Int × Bool):Prop:=(r.2=true∧∃ t:Nat,r.1=(t:Int)∧t < 2 ^ n∧ltN s t∧∀ u,u < 2 ^ n→ltN u t→ltN u s ∨ u=s) ∨ (r.2=false∧∀ u,u < 2 ^ n→ltN u s ∨ u=s)
theorem size_nat {s:Nat} (hs:s < 1024):size (s:Int)=(pcn s:Int):=by
 unfold size
 rw [vld_nat hs,if_pos rfl,Int.toNat_natCast]
theorem Next_ev {n s:Nat} (hn:n≤10) (hs:s < 2 ^ n):EvP (fun k=>nodeset_Next.f k (s:Int) (n:Int)) (Nxt n s):=by
 have hp:=pow10 hn
 have hs10:s < 1024:=by omega
 have h1:¬ (n:Int) < 0:=by omega
 have h2:¬ (n:Int) > 10:=by omega
 have h3:(decide (0≤(s:Int)) && decide ((s:Int) < ((2 ^ n:Nat):Int)))=true:=by rw [Bool.and_eq_true,decide_eq_true_eq,decide_eq_true_eq];omega
 have hb:∀ s:Int,nodeset_below.f s (n:Int)=some (decide (0≤s) && decide (s < ((2 ^ n:Nat):Int))):=fun s=>below_eq s hn
 have hps:=pcn_bound n (by omega) s hs
 simp only [nodeset_Next.f,h1,h2,if_false,hb,h3,Option.bind_some,Bool.not_true]
 refine EvP.shift ?_
 simp only [nodeset_Next.j0,Bool.false_eq_true,if_false,Size_eq,size_nat hs10,Option.bind_some]
 rw [show wrap64 ((s:Int)+1)=((s+1:Nat):Int) from w64 (by omega) (by omega)]
 refine EvP.loop (L:=fun (t:Nat) k=>nodeset_Next.l0 k (n:Int) (pcn s:Int) (t:Int)) (fun t=>s < t∧t≤2 ^ n∧∀ u,s < u→u < t→pcn u ≠ pcn s) (fun t=>2 ^ n - t) ?_ (s+1) ⟨by omega,by omega,fun u h k=>absurd h (by omega)⟩
 rintro t ⟨h4,h5,h6⟩ ih
 refine EvP.shift ?_
 simp only [nodeset_Next.l0,hb,Option.bind_some]
 by_cases h7:t < 2 ^ n
 ·have h8:(decide (0≤(t:Int)) && decide ((t:Int) < ((2 ^ n:Nat):Int)))=true:=by rw [Bool.and_eq_true,decide_eq_true_eq,decide_eq_true_eq];omega
  have ht10:t < 1024:=by omega
  simp only [h8,if_true,Size_eq,size_nat ht10,Option.bind_some]
  by_cases h9:pcn t=pcn s
  ·have h10:(pcn t:Int)=(pcn s:Int):=by omega
   simp only [h10,if_true]
   refine EvP.now (Or.inl ⟨rfl,t,rfl,h7,Or.inr ⟨h9.symm,h4⟩,fun u hu hlt=>?_⟩)
   unfold ltN at hlt ⊢
   rcases hlt with h|⟨h,h'⟩
   ·left;left;omega
   ·rcases Nat.lt_trichotomy u s with h''|h''|h''
    ·left;right;omega
    ·right;exact h''
    ·exact absurd (show pcn u=pcn s by omega) (h6 u h'' h')
  ·have h10:¬ (pcn t:Int)=(pcn s:Int):=by omega
   simp only [h10,if_false]
   rw [show wrap64 ((t:Int)+1)=((t+1:Nat):Int) from w64 (by omega) (by omega)]
   refine ih (t+1) ⟨by omega,by omega,fun u hu hut=>?_⟩ (by omega)
   rcases Nat.lt_or_ge u t with h|h
   ·exact h6 u hu h
   ·have:u=t:=by omega
    rw [this];exact h9
 ·have h8:(decide (0≤(t:Int)) && decide ((t:Int) < ((2 ^ n:Nat):Int)))=false:=by rw [decide_eq_false (show ¬ (t:Int) < ((2 ^ n:Nat):Int) by omega),Bool.and_false]
  have ht:t=2 ^ n:=by omega
  simp only [h8,Bool.false_eq_true,if_false]
  have hno:∀ u,u < 2 ^ n→pcn u=pcn s→u≤s:=fun u hu he=>by
   rcases Nat.lt_or_ge s u with h|h
   ·exact absurd he (h6 u h (by omega))
   ·exact h
  by_cases h9:pcn s=n
  ·have h10:(pcn s:Int)=(n:Int):=by omega
   simp only [h10,if_true]
   refine EvP.now (Or.inr ⟨rfl,fun u hu=>?_⟩)
   have h11:=pcn_bound n (by omega) u hu
   unfold ltN
   rcases Nat.lt_or_ge (pcn u) (pcn s) with h|h
   ·left;left;exact h
   ·have:=hno u hu (by omega)
    rcases Nat.lt_or_ge u s with h'|h'
    ·left;right;omega
    ·right;omega
  ·have h10:¬ (pcn s:Int)=(n:Int):=by omega
   have e1:wrap64 ((pcn s:Int)+1)=((pcn s+1:Nat):Int):=w64 (by omega) (by omega)
   have h12:(0:Int)≤((pcn s+1:Nat):Int):=by omega
   have hm:pcn s+1≤n:=by omega
   have hpm:2 ^ (pcn s+1)≤2 ^ n:=Nat.pow_le_pow_right (by decide) hm
   have hpp:=Nat.two_pow_pos (pcn s+1)
   have e2:wrap64 (shl .i64 1 ((pcn s+1:Nat):Int) - 1)=((2 ^ (pcn s+1) - 1:Nat):Int):=by
    rw [shl_nat (by omega),w64 (by omega) (by omega)]
    omega
   simp only [h10,if_false,e1,h12,if_true,e2]
   have hpt:=pcn_full (pcn s+1) (by omega)
   refine EvP.now (Or.inl ⟨rfl,_,rfl,by omega,Or.inl (by omega),fun u hu hlt=>?_⟩)
   unfold ltN at hlt ⊢
   rcases hlt with h|⟨h,h'⟩
   ·rcases Nat.lt_or_ge (pcn u) (pcn s) with h''|h''
    ·left;left;exact h''
    ·have:=hno u hu (by omega)
     rcases Nat.lt_or_ge u s with h3|h3
     ·left;right;omega
     ·right;omega
   ·have h13:=pcn_least u (by omega)
    rw [h,hpt] at h13
    omega
theorem PGreatest_ev {c:List S92} (hc:Light c) {x:Nat} (hx:x < 1024):Ev (fun k=>closure_Greatest.f k c (x:Int)) (grt c x:Int):=by
 have hdl:=decl_lt c
 have key:∀ (n:Nat) (s:Nat) (o:List Int),s < 1024→Sub s (decl c)→pcn s < n→o.length+n≤1000→Ev (fun k=>closure_eliminate.l0 k (s:Int) o c) ((grtF c n s:Int),o++elimF c n s):=by
  intro n
  induction n with
  | zero=>intro s o _ _ h;exact absurd h (by omega)
  | succ n ih =>
   intro s o hs hd hp ho
   rw [elimF,grtF]
   (refine Ev.shift ?_;simp only [closure_eliminate.l0,Option.bind_some,↓reduceIte,Bool.false_eq_true,reduceCtorEq,decide_eq_true_eq,rd_,rd_T90,rd_T92])
   refine Ev.bind1 (unhappy_ev hc hs hd) ?_
   cases hu:unh c s with
   | none =>
    simp only [optN,Bool.false_eq_true,if_false,List.append_nil]
    exact Ev.now _
   | some j =>
    obtain ⟨i,rfl,h10,hi,_⟩:=unh_some hu
    have hol:o.length < 17592186044416:=by omega
    have hi0:(0:Int)≤i:=by omega
    simp only [optN,if_true,hol,hi0,Int.toNat_natCast]
    rw [shl_nat' h10,andNot_nat (a:=s) (b:=2 ^ i) (by omega) (by have:=two_lt10 h10;omega)]
    have:=ih (dif s (2 ^ i)) (o++[(i:Int)]) (dif_lt (n:=10) hs) ((dif_sub' _ _).trans hd) (by have:=pcn_dif h10 hi;omega) (by simp;omega)
    rw [List.append_assoc] at this
    exact this
 have hE:Ev (fun k=>closure_eliminate.f k c (x:Int)) ((grt c x:Int),elimF c 11 (x &&& decl c)):=by
  simp only [closure_eliminate.f,Valid_eq,vld_nat hx,Option.bind_some,↓reduceIte,Bool.false_eq_true,reduceCtorEq,decide_eq_true_eq,rd_,rd_T90,rd_T92]
  refine Ev.bind1 (Declared_ev hc.1) ?_
  rw [and_nat' hx hdl]
  have:=key 11 (x &&& decl c) [] (and_lt10 hdl) (fun i hi=>by rw [and_bit,Bool.and_eq_true] at hi;exact hi.2) (by have:=pcn_le (x &&& decl c);omega) (by simp)
  rw [List.nil_append] at this
  exact this
 simp only [closure_Greatest.f]
 refine Ev.bind1 hE ?_
 exact Ev.now _
def hit (c:List S92) (s:Nat):Bool:=quo c s && (grt c (dif (2 ^ c.length - 1) s) != 0)
def apartB (c:List S92):Bool:=(List.range (2 ^ c.length)).any fun s=>hit c s
theorem members_eq {c:List S92} (hn:c.length≤10):intersection_members.f c=some ((2 ^ c.length - 1:Nat):Int):=by
 have hp:=pow10 hn
 have hp0:=Nat.two_pow_pos c.length
 unfold intersection_members.f
 rw [shl_nat (by omega),w64 (by omega) (by omega)]
 congr 1
 omega
def Fnd (c:List S92) (r:Int × Int):Prop:=(∃ s:Nat,r=((s:Int),((grt c (dif (2 ^ c.length - 1) s):Nat):Int))∧s < 2 ^ c.length∧hit c s=true∧∀ u,u < 2 ^ c.length→ltN u s→hit c u=false) ∨ (r=(0,0)∧∀ u,u < 2 ^ c.length→hit c u=false)
theorem find_ev {c:List S92} (hc:Light c) (hn:c.length≤10):EvP (fun k=>intersection_find.f k c) (Fnd c):=by
 have hp:=pow10 hn
 have hp0:=Nat.two_pow_pos c.length
 simp only [intersection_find.f]
 have fin:∀ v:Int,(∀ u,u < 2 ^ c.length→hit c u=false)→EvP (fun k=>intersection_find.l0 k (c.length:Int) v false c) (Fnd c):=by
  intro v h
  refine EvP.shift ?_
  simp only [intersection_find.l0,Bool.false_eq_true,if_false]
  exact EvP.now (Or.inr ⟨rfl,h⟩)
 refine EvP.loop (L:=fun (s:Nat) k=>intersection_find.l0 k (c.length:Int) (s:Int) true c) (fun s=>s < 2 ^ c.length∧∀ u,u < 2 ^ c.length→ltN u s→hit c u=false) (fun s=>((List.range (2 ^ c.length)).filter fun u=>!decide (pcn u < pcn s ∨ (pcn u=pcn s∧u < s))).length) ?_ 0 ⟨hp0,fun u hu h=>by
  have h0:pcn 0=0:=by decide
  unfold ltN at h
  omega⟩
 rintro s ⟨hs,hno⟩ ih
 have hs10:s < 1024:=by omega
 have next:hit c s=false→EvP (fun k=>(nodeset_Next.f k (s:Int) (c.length:Int)).bind fun bt=>intersection_find.l0 k (c.length:Int) bt.1 bt.2 c) (Fnd c):=by
  intro hhit
  refine EvP.bind (Next_ev hn hs) ?_
  rintro ⟨v,b⟩ h
  rcases h with ⟨h1,t,h2,h3,h4,h5⟩|⟨h1,h2⟩
  ·simp only at h1 h2
   subst h1
   subst h2
   refine ih t ⟨h3,fun u hu hlt=>?_⟩ ?_
   ·rcases h5 u hu hlt with h|h
    ·exact hno u hu h
    ·rw [h];exact hhit
   ·
    have hsub:((List.range (2 ^ c.length)).filter fun u=>!decide (pcn u < pcn t ∨ (pcn u=pcn t∧u < t))).length < ((List.range (2 ^ c.length)).filter fun u=>!decide (pcn u < pcn s ∨ (pcn u=pcn s∧u < s))).length:=by
     rw [← List.countP_eq_length_filter,← List.countP_eq_length_filter]
     have hc1:(List.range (2 ^ c.length)).countP (fun u=>!decide (pcn u < pcn t ∨ (pcn u=pcn t∧u < t)))≤(List.range (2 ^ c.length)).countP (fun u=>!decide (pcn u < pcn s ∨ (pcn u=pcn s∧u < s)) && !decide (u=s)):=by
      refine List.countP_mono_left fun u _ h=>?_
      have h':¬ ltN u t:=fun hh=>by unfold ltN at hh;rw [decide_eq_true hh] at h;cases h
      have h6:¬ ltN u s:=fun hh=>h' (ltN_trans hh h4)
      have h7:u ≠ s:=fun e=>h' (by rw [e];exact h4)
      unfold ltN at h6
      simp [h7]
      omega
     have hc2:(List.range (2 ^ c.length)).countP (fun u=>!decide (pcn u < pcn s ∨ (pcn u=pcn s∧u < s)))=(List.range (2 ^ c.length)).countP (fun u=>!decide (pcn u < pcn s ∨ (pcn u=pcn s∧u < s)) && !decide (u=s))+(List.range (2 ^ c.length)).countP (fun u=>decide (u=s)):=by
      generalize List.range (2 ^ c.length)=R
      induction R with
      | nil=>rfl
      | cons x xs ihx =>
       rw [List.countP_cons,List.countP_cons,List.countP_cons,ihx]
       by_cases e:x=s
       ·subst e
        simp
        omega
       ·simp [e]
        omega
     have hc3:0 < (List.range (2 ^ c.length)).countP (fun u=>decide (u=s)):=List.countP_pos_iff.2 ⟨s,List.mem_range.2 hs,by simp⟩
     omega
    exact hsub
  ·simp only at h1
   subst h1
   refine fin v fun u hu=>?_
   rcases h2 u hu with h|h
   ·exact hno u hu h
   ·rw [h];exact hhit
 refine EvP.shift ?_
 simp only [intersection_find.l0,if_true]
 refine EvP.bind (EvP.ofEv (Quorum_ev hc hs10)) ?_
 rintro b rfl
 have hdl:dif (2 ^ c.length - 1) s < 1024:=Nat.lt_of_le_of_lt (dif_sub' _ _).le (by omega)
 cases hq:quo c s
 ·simp only [Bool.false_eq_true,if_false]
  exact next (by unfold hit;rw [hq];rfl)
 ·simp only [if_true,members_eq hn,Option.bind_some]
  rw [andNot_nat (by omega) (by omega)]
  refine EvP.bind (EvP.ofEv (PGreatest_ev hc hdl)) ?_
  rintro g rfl
  by_cases h0:grt c (dif (2 ^ c.length - 1) s)=0
  ·have h1:((grt c (dif (2 ^ c.length - 1) s):Nat):Int)=0:=by omega
   simp only [h1,if_true]
   exact next (by unfold hit;rw [h0];simp)
  ·have h1:¬ ((grt c (dif (2 ^ c.length - 1) s):Nat):Int)=0:=by omega
   simp only [h1,if_false]
   exact EvP.now (Or.inl ⟨s,rfl,hs,by unfold hit;rw [hq];simpa using h0,hno⟩)
theorem Holds_ev {c:List S92} (hc:Light c) (hn:c.length≤10) (hv:valC c=0):Ev (fun k=>intersection_Holds.f k c) (!apartB c,0):=by
 have h:EvP (fun k=>intersection_Holds.f k c) (fun r=>r=(!apartB c,0)):=by
  simp only [intersection_Holds.f]
  refine EvP.bind (EvP.ofEv (CValid_ev hc)) ?_
  rintro r rfl
  rw [hv]
  simp only [if_true]
  refine EvP.bind (find_ev hc hn) ?_
  rintro r (⟨s,rfl,hs,hh,_⟩|⟨rfl,hno⟩)
  ·have h1:apartB c=true:=List.any_eq_true.2 ⟨s,List.mem_range.2 hs,hh⟩
   have h2:s ≠ 0:=by
    have hq:quo c s=true:=by unfold hit at hh;rw [Bool.and_eq_true] at hh;exact hh.1
    have hp:=pow10 hn
    exact ((quo_iff (by omega)).1 hq).1
   rw [h1]
   refine EvP.now ?_
   simp
   omega
  ·have h1:apartB c=false:=by
    cases hb:apartB c
    ·rfl
    ·obtain ⟨s,hs,hh⟩:=List.any_eq_true.1 hb
     rw [hno s (List.mem_range.1 hs)] at hh
     cases hh
   rw [h1]
   exact EvP.now rfl
 obtain ⟨r,rfl,h⟩:=h
 exact h
theorem full_wrap {n:Nat} (hn:n≤10):wrap64 (shl .i64 1 (n:Int) - 1)=((2 ^ n - 1:Nat):Int):=by
 have hp:=pow10 hn
 have hp0:=Nat.two_pow_pos n
 rw [shl_nat (by omega),w64 (by omega) (by omega)]
 omega
def spl (c:List S92) (s:Nat):Bool:=apartB (delC c s)
def hal (c:List S92) (s:Nat):Bool:=grt c (dif (2 ^ c.length - 1) s) == 0
def lstB (p:Nat→Bool) (n:Nat):List Int:=leastS ((subsetsS ((2 ^ n - 1:Nat):Int)).filter fun s=>p s.toNat)
theorem lst_filter_len (p:Nat→Bool) {n:Nat} (hn:n≤10):((subsetsS ((2 ^ n - 1:Nat):Int)).filter fun s=>p s.toNat).length≤1024:=by
 have hp:=pow10 hn
 exact Nat.le_trans (List.length_filter_le _ _) (subsetsS_len (by omega))
theorem splits_ev {c:List S92} (hc:OkC c) {s:Nat} (hs:s < 1024):Ev (fun k=>danger_splits.f k c (s:Int)) (spl c s):=by
 have hd:=delC_ok hc s
 simp only [danger_splits.f]
 refine Ev.bind1 (Delete_ev hc hs) ?_
 refine Ev.bind1 (Holds_ev hd.light hd.2.1 hd.valC) ?_
 simp only [Bool.not_not]
 exact Ev.now _
theorem halts_ev {c:List S92} (hc:Light c) (hn:c.length≤10) {s:Nat} (hs:s < 1024):Ev (fun k=>danger_halts.f k c (s:Int)) (hal c s):=by
 have hp:=pow10 hn
 have hdl:dif (2 ^ c.length - 1) s < 1024:=Nat.lt_of_le_of_lt (dif_sub' _ _).le (by omega)
 simp only [danger_halts.f,danger_members.f,full_wrap hn,Option.bind_some]
 rw [andNot_nat (by omega) (by omega)]
 refine Ev.bind1 (PGreatest_ev hc hdl) ?_
 have:(((grt c (dif (2 ^ c.length - 1) s):Nat):Int) == 0)=hal c s:=by
  unfold hal
  by_cases h:grt c (dif (2 ^ c.length - 1) s)=0
  ·rw [h];rfl
  ·have h2:¬ ((grt c (dif (2 ^ c.length - 1) s):Nat):Int)=0:=by omega
   rw [beq_eq_false_iff_ne.2 h,beq_eq_false_iff_ne.2 h2]
 rw [this]
 exact Ev.now _
theorem least_fin {out:List Int} {p:Nat→Bool} {n:Nat} (hn:n≤10) (h:out=(subsetsS ((2 ^ n - 1:Nat):Int)).filter fun s=>p s.toNat):nodeset_Least.f out=some (lstB p n):=by
 have:=lst_filter_len p hn
 unfold nodeset_Least.f lstB
 rw [h,if_pos (by omega)]
theorem least_splits_ev {c:List S92} (hc:OkC c):Ev (fun k=>danger_least_splits.f k c) (lstB (spl c) c.length):=by
 have hn:=hc.2.1
 have hp:=pow10 hn
 have hp0:=Nat.two_pow_pos c.length
 simp only [danger_least_splits.f,danger_members.f,full_wrap hn,nodeset_Subsets.f,Option.bind_some]
 have hfull:2 ^ c.length - 1 < 1024:=by omega
 have hfin:∀ out,out=(subsetsS ((2 ^ c.length - 1:Nat):Int)).filter (fun s=>spl c s.toNat)→nodeset_Least.f out=some (lstB (spl c) c.length):=fun out h=>least_fin hn h
 have hsl:=subsetsS_len hfull
 have hmem:∀ y∈subsetsS ((2 ^ c.length - 1:Nat):Int),∃ t:Nat,y=(t:Int)∧t < 1024:=fun y hy=>by
  obtain ⟨t,rfl,h⟩:=(subsetsS_mem hfull).1 hy
  exact ⟨t,rfl,h.lt hfull⟩
 generalize subsetsS ((2 ^ c.length - 1:Nat):Int)=U at hfin hsl hmem
 refine Ev.fold (xs:=U) (L:=fun (o:List Int) i k=>danger_least_splits.l0 k o U (U.length:Int) i c) (by omega) (fun pre ys o=>o++ys.filter (fun s=>spl c s.toNat)=U.filter (fun s=>spl c s.toNat)∧o.length≤pre.length) ?_ ?_ [] ⟨rfl,Nat.le_refl _⟩
 ·rintro o i ⟨hI,ho⟩ hi
  rw [List.filter_nil,List.append_nil] at hI
  (refine Ev.shift ?_;simp only [danger_least_splits.l0,hi,hfin o hI,Option.bind_some,↓reduceIte,Bool.false_eq_true,reduceCtorEq,decide_eq_true_eq,rd_,rd_T90,rd_T92])
  exact Ev.now _
 ·rintro pre y ys o i e ⟨hI,ho⟩ hi h0 hlt hw hrd
  obtain ⟨t,rfl,ht⟩:=hmem y (by rw [e];simp)
  rw [List.filter_cons,Int.toNat_natCast] at hI
  have hol:o.length < 17592186044416:=by
   have:pre.length < U.length:=by omega
   omega
  have hs:=splits_ev hc ht
  cases hb:spl c t
  ·rw [hb] at hI hs
   simp only [Bool.false_eq_true,if_false] at hI
   refine Or.inl ⟨o,⟨hI,by simp;omega⟩,fun k=>?_⟩
   (refine Ev.shift ?_;simp only [danger_least_splits.l0,h0,hlt,hw,hrd,Option.bind_some,↓reduceIte,Bool.false_eq_true,reduceCtorEq,decide_eq_true_eq,rd_,rd_T90,rd_T92])
   refine Ev.bind1 hs ?_
   simp only [Bool.false_eq_true,if_false]
   exact k
  ·rw [hb] at hI hs
   simp only [if_true] at hI
   refine Or.inl ⟨o++[(t:Int)],⟨by rw [List.append_assoc];exact hI,by simp;omega⟩,fun k=>?_⟩
   (refine Ev.shift ?_;simp only [danger_least_splits.l0,h0,hlt,hw,hrd,Option.bind_some,↓reduceIte,Bool.false_eq_true,reduceCtorEq,decide_eq_true_eq,rd_,rd_T90,rd_T92])
   refine Ev.bind1 hs ?_
   simp only [if_true,hol]
   exact k
theorem least_halts_ev {c:List S92} (hc:Light c) (hn:c.length≤10):Ev (fun k=>danger_least_halts.f k c) (lstB (hal c) c.length):=by
 have hp:=pow10 hn
 have hp0:=Nat.two_pow_pos c.length
 simp only [danger_least_halts.f,danger_members.f,full_wrap hn,nodeset_Subsets.f,Option.bind_some]
 have hfull:2 ^ c.length - 1 < 1024:=by omega
 have hfin:∀ out,out=(subsetsS ((2 ^ c.length - 1:Nat):Int)).filter (fun s=>hal c s.toNat)→nodeset_Least.f out=some (lstB (hal c) c.length):=fun out h=>least_fin hn h
 have hsl:=subsetsS_len hfull
 have hmem:∀ y∈subsetsS ((2 ^ c.length - 1:Nat):Int),∃ t:Nat,y=(t:Int)∧t < 1024:=fun y hy=>by
  obtain ⟨t,rfl,h⟩:=(subsetsS_mem hfull).1 hy
  exact ⟨t,rfl,h.lt hfull⟩
 generalize subsetsS ((2 ^ c.length - 1:Nat):Int)=U at hfin hsl hmem
 refine Ev.fold (xs:=U) (L:=fun (o:List Int) i k=>danger_least_halts.l0 k o U (U.length:Int) i c) (by omega) (fun pre ys o=>o++ys.filter (fun s=>hal c s.toNat)=U.filter (fun s=>hal c s.toNat)∧o.length≤pre.length) ?_ ?_ [] ⟨rfl,Nat.le_refl _⟩
 ·rintro o i ⟨hI,ho⟩ hi
  rw [List.filter_nil,List.append_nil] at hI
  (refine Ev.shift ?_;simp only [danger_least_halts.l0,hi,hfin o hI,Option.bind_some,↓reduceIte,Bool.false_eq_true,reduceCtorEq,decide_eq_true_eq,rd_,rd_T90,rd_T92])
  exact Ev.now _
 ·rintro pre y ys o i e ⟨hI,ho⟩ hi h0 hlt hw hrd
  obtain ⟨t,rfl,ht⟩:=hmem y (by rw [e];simp)
  rw [List.filter_cons,Int.toNat_natCast] at hI
  have hol:o.length < 17592186044416:=by
   have:pre.length < U.length:=by omega
   omega
  have hs:=halts_ev hc hn ht
  cases hb:hal c t
  ·rw [hb] at hI hs
   simp only [Bool.false_eq_true,if_false] at hI
   refine Or.inl ⟨o,⟨hI,by simp;omega⟩,fun k=>?_⟩
   (refine Ev.shift ?_;simp only [danger_least_halts.l0,h0,hlt,hw,hrd,Option.bind_some,↓reduceIte,Bool.false_eq_true,reduceCtorEq,decide_eq_true_eq,rd_,rd_T90,rd_T92])
   refine Ev.bind1 hs ?_
   simp only [Bool.false_eq_true,if_false]
   exact k
  ·rw [hb] at hI hs
   simp only [if_true] at hI
   refine Or.inl ⟨o++[(t:Int)],⟨by rw [List.append_assoc];exact hI,by simp;omega⟩,fun k=>?_⟩
   (refine Ev.shift ?_;simp only [danger_least_halts.l0,h0,hlt,hw,hrd,Option.bind_some,↓reduceIte,Bool.false_eq_true,reduceCtorEq,decide_eq_true_eq,rd_,rd_T90,rd_T92])
   refine Ev.bind1 hs ?_
   simp only [if_true,hol]
   exact k
theorem small_ev {c:List S92} (hc:OkC c) (h7:c.length≤7):Ev (fun k=>danger_small.f k c) 0:=by
 have h:¬ (c.length:Int) > 7:=by omega
 simp only [danger_small.f]
 refine Ev.bind1 (CValid_ev hc.light) ?_
 rw [hc.valC]
 simp only [if_true,h,if_false]
 exact Ev.now _
theorem Splitting_ev {c:List S92} (hc:OkC c) (h7:c.length≤7):Ev (fun k=>danger_Splitting.f k c) (lstB (spl c) c.length,0):=by
 simp only [danger_Splitting.f]
 refine Ev.bind1 (small_ev hc h7) ?_
 simp only [if_true]
 refine Ev.bind1 (least_splits_ev hc) ?_
 exact Ev.now _
theorem Halting_ev {c:List S92} (hc:Light c) (hn:c.length≤10) (hv:valC c=0):Ev (fun k=>danger_Halting.f k c) (lstB (hal c) c.length,0):=by
 simp only [danger_Halting.f]
 refine Ev.bind1 (CValid_ev hc) ?_
 rw [hv]
 simp only [if_true]
 refine Ev.bind1 (least_halts_ev hc hn) ?_
 exact Ev.now _
def tol (n:Nat) (l:List Int):Int:=if l=[] then (n:Int) else size (l.getD 0 0) - 1
theorem size_bound (x:Int):0≤size x∧size x≤10:=by
 unfold size
 split
 ·have:=pcn_le x.toNat;omega
 ·omega
theorem tolerated_eq (c:List S92) (l:List Int):danger_tolerated.f c l=some (tol c.length l):=by
 unfold danger_tolerated.f tol
 cases l with
 | nil=>simp
 | cons x xs =>
  have h1:¬ (((x :: xs).length:Nat):Int)=0:=by simp;omega
  have h2:(0:Int) < (((x :: xs).length:Nat):Int):=by simp
  have h3:=size_bound x
  rw [if_neg h1,if_pos h2,if_neg (by simp)]
  simp only [rd_,Int.toNat_zero,List.getD_cons_zero,Size_eq,Option.bind_some]
  rw [w64 (by omega) (by omega)]
theorem Tolerates_ev {c:List S92} (hc:OkC c) (h7:c.length≤7):Ev (fun k=>danger_Tolerates.f k c) (tol c.length (lstB (spl c) c.length),tol c.length (lstB (hal c) c.length),0):=by
 simp only [danger_Tolerates.f]
 refine Ev.bind1 (small_ev hc h7) ?_
 simp only [if_true]
 refine Ev.bind1 (least_splits_ev hc) ?_
 simp only [tolerated_eq,Option.bind_some]
 refine Ev.bind1 (least_halts_ev hc.light hc.2.1) ?_
 exact Ev.now _
theorem Splits_ev {c:List S92} (hc:OkC c) {s:Nat} (hs:s < 2 ^ c.length):Ev (fun k=>danger_Splits.f k c (s:Int)) (spl c s,0):=by
 have hn:=hc.2.1
 have hp:=pow10 hn
 have h1:¬ (s:Int) < 0:=by omega
 have h2:¬ (s:Int) > ((2 ^ c.length - 1:Nat):Int):=by omega
 have ha:Ev (fun k=>danger_asked.f k c (s:Int)) 0:=by
  simp only [danger_asked.f,danger_members.f,full_wrap hn,Option.bind_some]
  refine Ev.bind1 (CValid_ev hc.light) ?_
  rw [hc.valC]
  simp only [if_true,h1,h2,if_false]
  exact Ev.now _
 simp only [danger_Splits.f]
 refine Ev.bind1 ha ?_
 simp only [if_true]
 refine Ev.bind1 (splits_ev hc (by omega)) ?_
 exact Ev.now _
theorem sameB_ev {n:Nat} (hn:n≤1000) (t:Int):Ev (fun k=>qlaw16_same.f k (n:Int) t) (sameC n t):=by
 have hlt:¬ (n:Int) < (n:Int):=by omega
 simp only [qlaw16_same.f]
 refine Ev.count (L:=fun (l:List Int) i k=>qlaw16_same.l0 k (n:Int) i t l) n (by omega) (fun i l=>l=(List.range i).map Int.ofNat) ?_ ?_ [] rfl
 ·intro l hl
  (refine Ev.shift ?_;simp only [qlaw16_same.l0,hlt,Option.bind_some,↓reduceIte,Bool.false_eq_true,reduceCtorEq,decide_eq_true_eq,rd_,rd_T90,rd_T92])
  subst hl
  refine Ev.count (L:=fun (c:List S92) i k=>qlaw16_same.l1 k (n:Int) i t ((List.range n).map Int.ofNat) c) n (by omega) (fun i c=>c=List.replicate i (memS n t)) ?_ ?_ [] rfl
  ·intro c h
   (refine Ev.shift ?_;simp only [qlaw16_same.l1,hlt,Option.bind_some,↓reduceIte,Bool.false_eq_true,reduceCtorEq,decide_eq_true_eq,rd_,rd_T90,rd_T92])
   rw [h]
   exact Ev.now _
  ·intro i c hi h hw
   have h1:(i:Int) < (n:Int):=by omega
   have h2:c.length < 2199023255552:=by rw [h,List.length_replicate];omega
   refine Or.inl ⟨c++[memS n t],by rw [h,List.replicate_succ'],fun k=>?_⟩
   (refine Ev.shift ?_;simp only [qlaw16_same.l1,h1,h2,hw,Option.bind_some,↓reduceIte,Bool.false_eq_true,reduceCtorEq,decide_eq_true_eq,rd_,rd_T90,rd_T92])
   exact k
 ·intro i l hi h hw
  have h1:(i:Int) < (n:Int):=by omega
  have h2:l.length < 17592186044416:=by rw [h,List.length_map,List.length_range];omega
  refine Or.inl ⟨l++[(i:Int)],by rw [h,List.range_succ,List.map_append];rfl,fun k=>?_⟩
  (refine Ev.shift ?_;simp only [qlaw16_same.l0,h1,h2,hw,Option.bind_some,↓reduceIte,Bool.false_eq_true,reduceCtorEq,decide_eq_true_eq,rd_,rd_T90,rd_T92])
  exact k
theorem same_okC {n t:Nat} (hn1:1≤n) (hn:n≤10) (hv:validT (memS n (t:Int)).f1=0) (hu:uses (memS n (t:Int)).f1 < 2 ^ n):OkC (sameC n (t:Int)):=by
 have hl:(sameC n (t:Int)).length=n:=by simp [sameC]
 refine ⟨by omega,by omega,fun m hm=>?_⟩
 rw [hl]
 rw [List.eq_of_mem_replicate hm]
 unfold OkM
 rw [if_pos (show (memS n (t:Int)).f0=true from rfl)]
 refine ⟨hv,?_,hu⟩
 show wt ⟨(t:Int),(List.range n).map Int.ofNat,[]⟩≤100
 rw [wt,wtL]
 simp
 omega
theorem s4_ok:OkC (sameC 4 3):=same_okC (n:=4) (t:=3) (by decide) (by decide) (by decide) (by decide)
theorem s4_subs:subsetsS ((2 ^ (sameC 4 3).length - 1:Nat):Int)=[0,1,2,4,8,3,5,6,9,10,12,7,11,13,14,15]:=by
 show subsetsS ((15:Nat):Int)=_
 rw [subsetsS,vld_nat (by decide),if_pos rfl]
 exact sortS_eq (List.isPerm_iff.1 (by decide)) (by decide)
theorem s4_splits:lstB (spl (sameC 4 3)) (sameC 4 3).length=[3,5,6,9,10,12]:=by
 have e:([0,1,2,4,8,3,5,6,9,10,12,7,11,13,14,15]:List Int).filter (fun s=>spl (sameC 4 3) s.toNat)=[3,5,6,9,10,12]:=by decide +kernel
 have e2:([3,5,6,9,10,12]:List Int).filter vld=[3,5,6,9,10,12]:=by decide
 have e3:sortS [3,5,6,9,10,12]=[3,5,6,9,10,12]:=sortS_eq (List.Perm.refl _) (by decide)
 rw [lstB,s4_subs,e,leastS,e2,e3]
 decide
theorem s4_halts:lstB (hal (sameC 4 3)) (sameC 4 3).length=[3,5,6,9,10,12]:=by
 have e:([0,1,2,4,8,3,5,6,9,10,12,7,11,13,14,15]:List Int).filter (fun s=>hal (sameC 4 3) s.toNat)=[3,5,6,9,10,12,7,11,13,14,15]:=by decide +kernel
 have e2:([3,5,6,9,10,12,7,11,13,14,15]:List Int).filter vld=[3,5,6,9,10,12,7,11,13,14,15]:=by decide
 have e3:sortS [3,5,6,9,10,12,7,11,13,14,15]=[3,5,6,9,10,12,7,11,13,14,15]:=sortS_eq (List.Perm.refl _) (by decide)
 rw [lstB,s4_subs,e,leastS,e2,e3]
 decide
theorem awake16_ev:Ev (fun k=>qlaw16_awake.f k) true:=by
 have hs:Ev (fun k=>qlaw16_same.f k 4 3) (sameC 4 3):=sameB_ev (n:=4) (by decide) 3
 have h1:=Splitting_ev s4_ok (by decide)
 have h2:=Halting_ev s4_ok.light (by decide) s4_ok.valC
 have h3:=Tolerates_ev s4_ok (by decide)
 rw [s4_splits] at h1
 rw [s4_halts] at h2
 rw [s4_splits,s4_halts] at h3
 have e:tol (sameC 4 3).length [3,5,6,9,10,12]=1:=by decide
 rw [e] at h3
 simp only [qlaw16_awake.f]
 refine Ev.bind1 hs ?_
 refine Ev.bind1 h1 ?_
 refine Ev.bind1 hs ?_
 refine Ev.bind1 h2 ?_
 refine Ev.bind1 hs ?_
 refine Ev.bind1 h3 ?_
 simp only [if_true]
 refine Ev.bind1 (Ints_ev (by decide)) ?_
 simp only [decide_true,if_true]
 refine Ev.bind1 (Ints_ev (by decide)) ?_
 simp only [decide_true,if_true,beq_self_eq_true]
 exact Ev.now _
theorem RDelete_ev {c:List S92} (hc:OkC c) {s:Nat} (hs:s < 1024):Ev (fun k=>qref13_Delete.f k c (s:Int)) (delC c s):=by
 have h:∀ k,qref13_Delete.f k c (s:Int)=some (delC c s):=fun k=>by
  unfold qref13_Delete.f
  rw [if_pos]
  ·rw [Int.toNat_natCast]
  ·have hn:=hc.2.1
   simp only [Bool.and_eq_true,decide_eq_true_eq,List.all_eq_true]
   refine ⟨⟨⟨by omega,by omega⟩,by omega⟩,fun m hm=>?_⟩
   have hy:=hc.2.2 m hm
   unfold OkM at hy
   unfold okDb
   by_cases hf:m.f0=true
   ·rw [if_pos hf] at hy ⊢
    simp only [Bool.and_eq_true,decide_eq_true_eq]
    exact ⟨validT_chk hy.1,by have:=hy.2.1;omega⟩
   ·rw [if_neg hf] at hy ⊢
    rw [hy];rfl
 simp only [h]
 exact Ev.now _
theorem Set_ev {s:List Int} (hs:s.length < 4611686018427387904) {s1:Int} (h1:0≤s1) {c:List S92} (hc:OkC c) :
  EvP (fun k=>qmake_Set.f k s s1 c) (fun r=>(∃ v:Nat,r.1=(v:Int)∧v < 2 ^ c.length)∧0≤r.2):=by
 have hn1:=hc.1
 have hn:=hc.2.1
 have hp:=pow10 hn
 have hp0:=Nat.two_pow_pos c.length
 simp only [qmake_Set.f]
 refine EvP.bind (tPick hs h1 (by decide) (by decide)) ?_
 rintro ⟨m,s2⟩ ⟨hm,h2⟩
 simp only at hm h2 ⊢
 have hm0:0≤m∧m≤3:=by
  simp only [List.mem_cons,List.not_mem_nil,or_false] at hm
  omega
 refine EvP.loop (L:=fun (x:Nat × Int × Int) k=>qmake_Set.l0 k (c.length:Int) (x.1:Int) x.2.1 s x.2.2 c) (fun x=>x.1 < 2 ^ c.length∧0≤x.2.1∧x.2.1≤3∧0≤x.2.2) (fun x=>x.2.1.toNat) ?_ (0,m,s2) ⟨hp0,hm0.1,hm0.2,h2⟩
 rintro ⟨v,m,s2⟩ ⟨h3,h4,h5,h6⟩ ih
 simp only at h3 h4 h5 h6 ih ⊢
 refine EvP.shift ?_
 by_cases hgt:m > 0
 ·simp only [qmake_Set.l0,hgt,if_true]
  refine EvP.bind (tN hs h6 (by omega) (by omega)) ?_
  rintro ⟨b,s3⟩ ⟨⟨h7,h8⟩,h9⟩
  simp only at h7 h8 h9 ⊢
  obtain ⟨i,rfl⟩:=Int.eq_ofNat_of_zero_le h7
  have hi:i < c.length:=by omega
  have h2i:2 ^ i < 2 ^ c.length:=Nat.pow_lt_pow_right (by decide) hi
  simp only [h7,if_true]
  have e1:Go.bits .or .i64 (v:Int) (shl .i64 1 (i:Int))=((v ||| 2 ^ i:Nat):Int):=by
   rw [shl_nat' (by omega),or_nat (by omega) (by omega)]
  have e2:wrap64 (m - 1)=m - 1:=w64 (by omega) (by omega)
  rw [e1,e2]
  exact ih (v ||| 2 ^ i,m - 1,s3) ⟨or_lt h3 h2i,by simp only;omega,by simp only;omega,h9⟩ (by simp only;omega)
 ·have hl0:(0:Int)≤(c.length:Int):=by omega
  simp only [qmake_Set.l0,hgt,if_false,hl0,if_true]
  refine EvP.bind (EvP.ofEv (ref_Declared_ev hc.light.1)) ?_
  rintro r rfl
  refine EvP.bind (tN hs h6 (by omega) (by omega)) ?_
  rintro ⟨b,s3⟩ ⟨⟨h7,h8⟩,h9⟩
  simp only at h7 h8 h9 ⊢
  refine EvP.now ⟨?_,h9⟩
  have hdl:=decl_lt c
  rw [full_wrap hn,andNot_nat (by omega) (by omega)]
  have hd:dif (2 ^ c.length - 1) (decl c) < 2 ^ c.length:=Nat.lt_of_le_of_lt (dif_sub' _ _).le (by omega)
  generalize dif (2 ^ c.length - 1) (decl c)=d at hd
  rcases (show b=0 ∨ b=1 by omega) with rfl|rfl
  ·refine ⟨v,?_,h3⟩
   simp only [Int.mul_zero]
   have:wrap64 0=((0:Nat):Int):=w64 (by decide) (by decide)
   rw [this,or_nat (by omega) (by omega)]
   simp
  ·refine ⟨v ||| d,?_,or_lt h3 hd⟩
   simp only [Int.mul_one]
   rw [w64 (by omega) (by omega),or_nat (by omega) (by omega)]
def Prd (d:List S92) (r:Int × Int × Int):Prop:=(∃ s:Nat,r=((s:Int),((grt d (dif (2 ^ d.length - 1) s):Nat):Int),0)∧s < 2 ^ d.length∧hit d s=true) ∨ (r=(0,0,11)∧∀ u,u < 2 ^ d.length→hit d u=false)
theorem hit_ne {d:List S92} {s:Nat} (hs:s < 1024) (h:hit d s=true):s ≠ 0:=by
 have hq:quo d s=true:=by unfold hit at h;rw [Bool.and_eq_true] at h;exact h.1
 exact ((quo_iff hs).1 hq).1
theorem asked_ev {c:List S92} (hc:OkC c) {s:Nat} (hs:s < 2 ^ c.length):Ev (fun k=>danger_asked.f k c (s:Int)) 0:=by
 have hn:=hc.2.1
 have hp:=pow10 hn
 have h1:¬ (s:Int) < 0:=by omega
 have h2:¬ (s:Int) > ((2 ^ c.length - 1:Nat):Int):=by omega
 simp only [danger_asked.f,danger_members.f,full_wrap hn,Option.bind_some]
 refine Ev.bind1 (CValid_ev hc.light) ?_
 rw [hc.valC]
 simp only [if_true,h1,h2,if_false]
 exact Ev.now _
theorem Pair_ev {c:List S92} (hc:OkC c) {x:Nat} (hx:x < 2 ^ c.length):EvP (fun k=>danger_Pair.f k c (x:Int)) (Prd (delC c x)):=by
 have hp:=pow10 hc.2.1
 have hd:=delC_ok hc x
 have hdn:=hd.2.1
 have hdp:=pow10 hdn
 simp only [danger_Pair.f]
 refine EvP.bind (EvP.ofEv (asked_ev hc hx)) ?_
 rintro r rfl
 simp only [if_true]
 refine EvP.bind (EvP.ofEv (Delete_ev hc (by omega))) ?_
 rintro r rfl
 have hD:EvP (fun k=>intersection_Disjoint.f k (delC c x)) (Prd (delC c x)):=by
  simp only [intersection_Disjoint.f]
  refine EvP.bind (EvP.ofEv (CValid_ev hd.light)) ?_
  rintro r rfl
  rw [hd.valC]
  simp only [if_true]
  refine EvP.bind (find_ev hd.light hdn) ?_
  rintro r (⟨s,rfl,hs,hh,_⟩|⟨rfl,hno⟩)
  ·have h0:=hit_ne (by omega) hh
   have h1:¬ (s:Int)=0:=by omega
   simp only [h1,if_false]
   exact EvP.now (Or.inl ⟨s,rfl,hs,hh⟩)
  ·simp only [if_true]
   exact EvP.now (Or.inr ⟨rfl,hno⟩)
 refine EvP.bind hD ?_
 rintro ⟨a,b,e⟩ h
 exact EvP.now h
theorem sub_difF {n y:Nat} (hy:y < 2 ^ n):2 ^ n - 1 - y=dif (2 ^ n - 1) y:=eq_bits fun i=>by
 have e:2 ^ n - 1 - y=2 ^ n - (y+1):=by omega
 rw [e,Nat.testBit_two_pow_sub_succ hy,dif_bit,full_bit]
theorem wrap_full {n y:Nat} (hn:n≤10) (hy:y < 2 ^ n):wrap64 (((2 ^ n - 1:Nat):Int) - (y:Int))=((dif (2 ^ n - 1) y:Nat):Int):=by
 have hp:=pow10 hn
 rw [← sub_difF hy,w64 (by omega) (by omega)]
 omega
theorem ne_zero_int (n:Nat):((n:Int) != 0)=(n != 0):=by
 by_cases h:n=0
 ·rw [h];rfl
 ·rw [bne_iff_ne.2 h,bne_iff_ne];omega
end Go.Proofs.YtkjlcbfjllpcnaaGreat.X
namespace Go.Proofs.YtkjlcbfjllpcnaaGreat.Pure
open Go.RowKit Go.Proofs.YtkjlcbfjllpcnaaGreat.X YtkjlcbfjllpcnaaGreatW.PrintWords YtkjlcbfjllpcnaaGreatW.PrintLast
theorem any_all {d:List S92} (m:Nat) (hm:m≤2 ^ d.length) (h:∀ u,u < 2 ^ d.length→hit d u=false):((List.range m).any fun s=>hit d s)=false:=by
 cases hb:(List.range m).any fun s=>hit d s
 ·rfl
 ·obtain ⟨s,hs,hh⟩:=List.any_eq_true.1 hb
  rw [h s (by have:=List.mem_range.1 hs;omega)] at hh
  cases hh
set_option maxHeartbeats 1000000 in
theorem DangerSplitting:qlaw16_DangerSplitting.Pure:=by
 intro l0 h1 h2 h3
 obtain ⟨s,hs,e⟩:=New_ev l0 (by omega)
 suffices h:EvP (fun k=>qlaw16_DangerSplitting.f k l0) (fun r=>r=true) by
  obtain ⟨r,rfl,h⟩:=h
  exact h.rounds
 simp only [qlaw16_DangerSplitting.f,e,Option.bind_some]
 refine EvP.bind (Config_ev hs (by decide) (by decide) (by decide)) ?_
 rintro ⟨c,s1⟩ ⟨⟨hc,hc6⟩,h4⟩
 simp only at hc hc6 h4 ⊢
 have hn10:=hc.2.1
 have hp:=pow10 hn10
 have hp0:=Nat.two_pow_pos c.length
 refine EvP.bind (Set_ev hs h4 hc) ?_
 rintro ⟨x,s2⟩ ⟨⟨v,hv,hv2⟩,h5⟩
 simp only at hv h5 ⊢
 subst hv
 have hv10:v < 1024:=by omega
 refine EvP.bind (EvP.ofEv (Splits_ev hc hv2)) ?_
 rintro r rfl
 refine EvP.bind (Pair_ev hc hv2) ?_
 rintro ⟨a,b,f⟩ hpr
 simp only
 refine EvP.bind (EvP.ofEv (RDelete_ev hc hv10)) ?_
 rintro r rfl
 have hd:=delC_ok hc v
 have hl:=delC_len c v
 have hdl:Light (delC c v):=hd.light
 have hdd:decl (delC c v)=dif (decl c) v:=delC_decl hv10
 have hspl:spl c v=(List.range (2 ^ c.length)).any fun s=>hit (delC c v) s:=by
  unfold spl apartB
  rw [hl]
 rw [full_wrap hn10]
 unfold Prd at hpr
 rw [hl] at hpr
 have hhit:∀ y:Nat,hit (delC c v) y=(quo (delC c v) y && (grt (delC c v) (dif (2 ^ c.length - 1) y) != 0)):=fun y=>by unfold hit;rw [hl]
 have fin:∀ y:Nat,y=2 ^ c.length→EvP (fun k=>qlaw16_DangerSplitting.l0 k (v:Int) (spl c v) 0 a b f ((2 ^ c.length - 1:Nat):Int) (spl c v) (y:Int) (delC c v)) (fun r=>r=true):=by
  intro y hy
  have hlt:¬ (y:Int)≤((2 ^ c.length - 1:Nat):Int):=by omega
  refine EvP.shift ?_
  simp only [qlaw16_DangerSplitting.l0,hlt,if_false,if_true,bne_self_eq_false,Bool.false_eq_true]
  rcases hpr with ⟨q,hr,hq,hh⟩|⟨hr,hno⟩
  ·have ha:a=(q:Int):=congrArg Prod.fst hr
   have hb:b=((grt (delC c v) (dif (2 ^ c.length - 1) q):Nat):Int):=congrArg (fun r=>r.2.1) hr
   have hf:f=0:=congrArg (fun r=>r.2.2) hr
   subst ha
   subst hb
   subst hf
   have hs1:spl c v=true:=by rw [hspl];exact List.any_eq_true.2 ⟨q,List.mem_range.2 hq,hh⟩
   have hq10:q < 1024:=by omega
   have hg:=hh
   rw [hhit,Bool.and_eq_true] at hg
   have hgq:quo (delC c v) q=true:=hg.1
   have hg0:grt (delC c v) (dif (2 ^ c.length - 1) q) ≠ 0:=by simpa using hg.2
   have hgg:=grt_quo hg0
   have hgs:=grt_sub (delC c v) (dif (2 ^ c.length - 1) q)
   have hgl:=grt_lt (delC c v) (dif (2 ^ c.length - 1) q)
   generalize grt (delC c v) (dif (2 ^ c.length - 1) q)=g at hg0 hgg hgs hgl
   have hqd:=((quo_iff hq10).1 hgq).2.1
   have hgd:=((quo_iff hgl).1 hgg).2.1
   rw [hdd] at hqd hgd
   have e1:Go.bits .and .i64 (q:Int) (g:Int)=0:=by
    rw [and_nat' hq10 hgl]
    have:q &&& g=0:=eq_bits fun i=>by
     rw [and_bit,Nat.zero_testBit]
     cases hi:g.testBit i
     ·simp
     ·have:=hgs i hi
      rw [dif_bit,Bool.and_eq_true] at this
      simpa using this.2
    rw [this];rfl
   have e2:Go.bits .and .i64 (Go.bits .or .i64 (q:Int) (g:Int)) (v:Int)=0:=by
    rw [or_nat' hq10 hgl,and_nat' (or_lt10 hq10 hgl) hv10]
    have:(q ||| g) &&& v=0:=eq_bits fun i=>by
     rw [and_bit,Nat.zero_testBit]
     cases hi:(q ||| g).testBit i
     ·rfl
     ·have:=Sub.or hqd hgd i hi
      rw [dif_bit,Bool.and_eq_true] at this
      simpa using this.2
    rw [this];rfl
   rw [hs1]
   simp only [beq_self_eq_true,bne_self_eq_false,Bool.false_eq_true,if_false,if_true]
   refine EvP.shift ?_
   simp only [qlaw16_DangerSplitting.j1,Bool.false_eq_true,if_false,if_true,e1,e2]
   refine EvP.bind (EvP.ofEv (ref_Quorum_ev hdl hq10)) ?_
   rintro r rfl
   rw [hgq]
   simp only [if_true]
   refine EvP.bind (EvP.ofEv (ref_Quorum_ev hdl hgl)) ?_
   rintro r rfl
   rw [hgg]
   simp only [if_true]
   refine EvP.bind (EvP.ofEv awake16_ev) ?_
   rintro r rfl
   exact EvP.now rfl
  ·have ha:a=0:=congrArg Prod.fst hr
   have hb:b=0:=congrArg (fun r=>r.2.1) hr
   have hf:f=11:=congrArg (fun r=>r.2.2) hr
   subst ha
   subst hb
   subst hf
   have hs1:spl c v=false:=by rw [hspl];exact any_all _ (by rw [hl];exact Nat.le_refl _) (by rw [hl];exact hno)
   rw [hs1]
   have e0:((11:Int) == 0)=false:=by decide
   simp only [e0,bne_self_eq_false,Bool.false_eq_true,if_false]
   refine EvP.shift ?_
   simp only [qlaw16_DangerSplitting.j1,Bool.false_eq_true,if_false]
   refine EvP.bind (EvP.ofEv awake16_ev) ?_
   rintro r rfl
   exact EvP.now rfl
 have h0:hit (delC c v) 0=false:=by
  cases hb:hit (delC c v) 0
  ·rfl
  ·exact absurd rfl (hit_ne (by decide) hb)
 refine EvP.loop (L:=fun (x:Nat × Bool) k=>qlaw16_DangerSplitting.l0 k (v:Int) (spl c v) 0 a b f ((2 ^ c.length - 1:Nat):Int) x.2 (x.1:Int) (delC c v)) (fun x=>1≤x.1∧x.1≤2 ^ c.length∧x.2=(List.range x.1).any fun s=>hit (delC c v) s) (fun x=>2 ^ c.length - x.1) ?_ (1,false) ⟨Nat.le_refl _,by simp only;omega,by
  show false=((List.range 1).any fun s=>hit (delC c v) s)
  rw [List.range_one,List.any_cons,h0];rfl⟩
 rintro ⟨y,sm⟩ ⟨h6,h7,h8⟩ ih
 simp only at h6 h7 h8 ih ⊢
 by_cases hy:y < 2 ^ c.length
 ·have hle:(y:Int)≤((2 ^ c.length - 1:Nat):Int):=by omega
  have hy10:y < 1024:=Nat.lt_of_lt_of_le hy hp
  have e1:wrap64 ((y:Int)+1)=((y+1:Nat):Int):=w64 (Int.le_trans (by decide) (Int.natCast_nonneg (y+1))) (Int.le_trans (Int.ofNat_le.2 (Nat.le_trans hy hp)) (by decide))
  have e2:wrap64 (((2 ^ c.length - 1:Nat):Int) - (y:Int))=((dif (2 ^ c.length - 1) y:Nat):Int):=wrap_full hn10 hy
  have hb1:1≤y+1:=Nat.le_add_left _ _
  have hb2:y+1≤2 ^ c.length:=hy
  have hb3:2 ^ c.length - (y+1) < 2 ^ c.length - y:=Nat.sub_lt_sub_left hy (Nat.lt_succ_self _)
  have hr:((List.range (y+1)).any fun s=>hit (delC c v) s)=(sm || hit (delC c v) y):=by
   rw [List.range_succ,List.any_append,← h8,List.any_cons,List.any_nil,Bool.or_false]
  have hdl2:dif (2 ^ c.length - 1) y < 1024:=Nat.lt_of_le_of_lt (dif_sub' _ _).le (Nat.lt_of_lt_of_le (Nat.sub_lt hp0 Nat.one_pos) hp)
  have nxt:=ih (y+1,sm || hit (delC c v) y) ⟨hb1,hb2,hr.symm⟩ hb3
  simp only at nxt
  refine EvP.shift ?_
  cases sm
  ·rw [Bool.false_or,hhit] at nxt
   simp only [qlaw16_DangerSplitting.l0,hle,if_true,Bool.false_eq_true,if_false]
   refine EvP.bind (EvP.ofEv (ref_Quorum_ev hdl hy10)) ?_
   rintro r rfl
   cases hq:quo (delC c v) y
   ·rw [hq,Bool.false_and] at nxt
    simp only [Bool.false_eq_true,if_false,e1]
    exact nxt
   ·rw [hq,Bool.true_and] at nxt
    simp only [if_true,e1,e2]
    refine EvP.bind (EvP.ofEv (Greatest_ev hdl hdl2)) ?_
    rintro r rfl
    rw [ne_zero_int]
    exact nxt
  ·rw [Bool.true_or] at nxt
   simp only [qlaw16_DangerSplitting.l0,hle,if_true,e1]
   exact nxt
 ·have hy2:y=2 ^ c.length:=by omega
  have hsm:sm=spl c v:=by rw [h8,hspl,hy2]
  rw [hsm]
  exact fin y hy2
end Go.Proofs.YtkjlcbfjllpcnaaGreat.Pure
