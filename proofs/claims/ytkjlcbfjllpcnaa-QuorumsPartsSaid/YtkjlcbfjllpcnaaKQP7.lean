/- Proof of the statement QuorumsParts: part 7 of 8, what it computes and why that answers true. -/
import Derived.Test.YtkjlcbfjllpcnaaKQP6
set_option linter.unusedVariables false
set_option linter.unusedSimpArgs false
namespace Go.Proofs.Ytkjlcbfjllpcnaa.Pure
open Go.RowKit Go.Proofs.Ytkjlcbfjllpcnaa.X Go.Proofs.YtkjlcbfjllpcnaaW.PrintWords Go.Proofs.YtkjlcbfjllpcnaaW.PrintLast
set_option linter.unusedVariables false
def orL (a : Nat) (l : List Int) : Nat := l.foldl (fun a x => a ||| x.toNat) a
theorem orL_bit (i : Nat) : ∀ (l : List Int) (a : Nat), (orL a l).testBit i = true ↔ a.testBit i = true ∨ ∃ x ∈ l, x.toNat.testBit i = true := by
  intro l a
  exact fold_or_bit (f := fun x => x.toNat) i l a
theorem parts_or {c : List S34} : orL 0 (partsS c) = decl c := by
  rw [← parts_all (c := c)]
  refine Sub.eq (fun i hi => ?_) fun i hi => ?_
  · rcases (orL_bit i _ _).1 hi with h | h
    · rw [Nat.zero_testBit] at h; cases h
    · exact (parts_inv.done i).2 h
  · exact (orL_bit i _ _).2 (Or.inr ((parts_inv.done i).1 hi))
theorem QuorumsParts : trustquorumlaw10_QuorumsParts.Pure := by
  intro l0 h1 h2 h3
  obtain ⟨s, hs, e⟩ := New_ev l0 (by omega)
  suffices h : EvP (fun k => trustquorumlaw10_QuorumsParts.f k l0) (fun r => r = true) by
    obtain ⟨r, rfl, h⟩ := h
    exact h.rounds
  simp only [trustquorumlaw10_QuorumsParts.f, e, Option.bind_some]
  refine EvP.bind (Config_ev hs (by decide) (by decide) (by decide)) ?_
  rintro ⟨c, s1⟩ ⟨⟨hc, _⟩, h4⟩
  simp only at hc h4 ⊢
  have hn10 := hc.2.1
  have hcl := hc.light
  refine EvP.ofEv ?_ |>.imp (fun a h => h)
  have hdl := decl_lt c
  refine Ev.bind1 (Parts_ev hcl hn10 hc.valC) ?_
  refine Ev.bind1 (Minimal_ev hcl hn10 hc.valC) ?_
  simp only [if_true, bne_self_eq_false]
  refine Ev.shift ?_
  simp only [trustquorumlaw10_QuorumsParts.j0, Bool.false_eq_true, if_false]
  have hpos : ∀ x ∈ partsS c, ∃ p : Nat, x = (p : Int) ∧ p < 1024 ∧ p ≠ 0 := fun x hx => part_pos hx
  have hap : (partsS c).Pairwise fun x y => x.toNat &&& y.toNat = 0 := parts_inv.apart
  have hplen : (partsS c).length ≤ c.length := parts_inv.len
  have hor := parts_or (c := c)
  have hin : ∀ x ∈ minQ c, ((partsS c).any fun y => Go.bits .and .i64 x y == x) = true := by
    intro x hx
    obtain ⟨q, rfl, mq⟩ := (minQ_mem hn10).1 hx
    obtain ⟨y, hy, hs⟩ := minQ_part mq
    obtain ⟨p, rfl, hp, _⟩ := part_pos hy
    rw [Int.toNat_natCast] at hs
    rw [List.any_eq_true]
    exact ⟨_, hy, by rw [and_nat' mq.1 hp, beq_iff_eq, sub_and.2 hs]⟩
  have hml := minQ_len c hn10
  generalize minQ c = M at hml hin
  generalize partsS c = P at hpos hap hplen hor hin
  refine Ev.fold (xs := P) (L := fun (a : Nat) i k => trustquorumlaw10_QuorumsParts.l0 k P M (a : Int) P (P.length : Int) i c) (by omega) (fun pre ys a => a < 1024 ∧ orL a ys = decl c ∧ ∀ y ∈ ys, a &&& y.toNat = 0) ?_ ?_ 0 ⟨by decide, hor, fun y _ => Nat.zero_and _⟩
  · rintro a i ⟨ha, hI, _⟩ hi
    have hI' : a = decl c := hI
    refine Ev.shift ?_
    simp only [trustquorumlaw10_QuorumsParts.l0, hi, if_false]
    refine Ev.fold (xs := M) (L := fun (u : Unit) i k => trustquorumlaw10_QuorumsParts.l1 k P (a : Int) M (M.length : Int) i c) (by omega) (fun _ _ _ => True) ?_ ?_ () trivial
    · intro u i _ hi
      refine Ev.shift ?_
      simp only [trustquorumlaw10_QuorumsParts.l1, hi, if_false]
      refine Ev.bind1 (ref_Declared_ev hcl.1) ?_
      simp only [hI', if_true]
      refine Ev.bind1 awake10_ev ?_
      exact Ev.now _
    · intro pre x xs u i e _ hi h0 hlt hwi hrd
      refine Or.inl ⟨(), trivial, fun k => ?_⟩
      have hx := hin x (by rw [e]; simp)
      refine Ev.shift ?_
      simp only [trustquorumlaw10_QuorumsParts.l1, h0, hlt, if_true, Go.Proofs.YtkjlcbfjllpcnaaW.PrintWords.rd, hrd]
      refine Ev.fold (xs := P) (L := fun (b : Bool) q k => trustquorumlaw10_QuorumsParts.l2 k P (a : Int) x b M (M.length : Int) i P (P.length : Int) q c) (by omega) (fun pre ys b => (b || ys.any fun y => Go.bits .and .i64 x y == x) = true) ?_ ?_ false (by simpa using hx)
      · intro b q hI hq
        rw [List.any_nil, Bool.or_false] at hI
        subst hI
        refine Ev.shift ?_
        simp only [trustquorumlaw10_QuorumsParts.l2, hq, if_false, if_true, hwi]
        exact k
      · intro pre' y ys b q e' hI hq h0q hltq hwq hrdq
        rw [List.any_cons, ← Bool.or_assoc] at hI
        refine Or.inl ⟨b || (Go.bits .and .i64 x y == x), hI, fun k => ?_⟩
        refine Ev.shift ?_
        cases b
        · rw [Bool.false_or] at k
          simp only [trustquorumlaw10_QuorumsParts.l2, h0q, hltq, hwq, if_true, Bool.false_eq_true, if_false, Go.Proofs.YtkjlcbfjllpcnaaW.PrintWords.rd, hrdq]
          exact k
        · rw [Bool.true_or] at k
          simp only [trustquorumlaw10_QuorumsParts.l2, h0q, hltq, hwq, if_true]
          exact k
  · rintro pre y ys a i e ⟨ha, hI, hno⟩ hi h0 hlt hw hrd
    obtain ⟨p, rfl, hp, hp0⟩ := hpos y (by rw [e]; simp)
    have h5 := hno _ (List.mem_cons_self)
    rw [Int.toNat_natCast] at h5
    have hpi : ¬ (p : Int) = 0 := by omega
    have hand : Go.bits .and .i64 (a : Int) (p : Int) = 0 := by rw [and_nat' ha hp, h5]; rfl
    refine Or.inl ⟨a ||| p, ⟨or_lt10 ha hp, by rw [← hI]; rfl, fun z hz => ?_⟩, fun k => ?_⟩
    · have h6 := hno z (by simp [hz])
      rw [e, List.pairwise_append, List.pairwise_cons] at hap
      have h7 := hap.2.1.1 z hz
      rw [Int.toNat_natCast] at h7
      refine eq_bits fun j => ?_
      have h8 : (a &&& z.toNat).testBit j = false := by rw [h6, Nat.zero_testBit]
      have h9 : (p &&& z.toNat).testBit j = false := by rw [h7, Nat.zero_testBit]
      rw [and_bit] at h8 h9
      rw [and_bit, or_bit, Nat.zero_testBit]
      cases ha : a.testBit j <;> cases hz : z.toNat.testBit j <;> simp_all
    · refine Ev.shift ?_
      simp only [trustquorumlaw10_QuorumsParts.l0, h0, hlt, hw, if_true, if_false, Go.Proofs.YtkjlcbfjllpcnaaW.PrintWords.rd, hrd, hpi, hand, or_nat' ha hp]
      exact k
end Go.Proofs.Ytkjlcbfjllpcnaa.Pure
