/- Proof of the statement DangerUniform: part 5 of 6, what it computes and why that answers true. -/
import Derived.Test.YtkjlcbfjllpcnaaKDU4
set_option linter.unusedVariables false
set_option linter.unusedSimpArgs false
namespace Go.Proofs.Ytkjlcbfjllpcnaa.X
open Go.RowKit Go.Proofs.YtkjlcbfjllpcnaaW.PrintWords Go.Proofs.YtkjlcbfjllpcnaaW.PrintLast Go.Proofs.YtkjlcbfjllpcnaaW.PrintMore
set_option linter.unusedVariables false
theorem inS_mono {s t : Nat} (h : Sub s t) {x : Int} (hx : inS s x = true) : inS t x = true := by
  simp only [inS, Bool.and_eq_true] at hx ⊢
  exact ⟨hx.1, h _ hx.2⟩
mutual
theorem sat_mono {s t : Nat} (h : Sub s t) : ∀ x : S32, sat s x = true → sat t x = true
  | ⟨n, l, ts⟩ => by
    rw [sat, sat, decide_eq_true_eq, decide_eq_true_eq]
    intro hx
    have h1 : l.countP (fun x => inS s x) ≤ l.countP (fun x => inS t x) := List.countP_mono_left fun x _ hx => inS_mono h hx
    have h2 := satC_mono h ts
    omega
theorem satC_mono {s t : Nat} (h : Sub s t) : ∀ l : List S32, satC s l ≤ satC t l
  | [] => by rw [satC, satC]; exact Nat.le_refl _
  | x :: xs => by
    rw [satC, satC]
    have h1 := satC_mono h xs
    have h2 := sat_mono h x
    cases hs : sat s x
    · simp; omega
    · rw [h2 hs]; simp; omega
end
def declF (i a : Nat) : List S34 → Nat
  | [] => a
  | m :: ms => declF (i + 1) (if m.f0 = true ∧ i < 10 then a ||| 2 ^ i else a) ms
def decl (c : List S34) : Nat := declF 0 0 c
theorem declF_bit : ∀ (ms : List S34) (i a j : Nat), (declF i a ms).testBit j = (a.testBit j || (decide (i ≤ j) && decide (j < 10) && (ms.getD (j - i) z34).f0)) := by
  intro ms
  induction ms with
  | nil => intro i a j; simp [declF, z34]
  | cons m ms ih =>
    intro i a j
    rw [declF, ih]
    by_cases h : j = i
    · subst h
      have e : decide (j + 1 ≤ j) = false := by simp
      have e2 : decide (j ≤ j) = true := by simp
      rw [e, e2, Nat.sub_self]
      by_cases h2 : j < 10 <;> cases hm : m.f0 <;> simp [h2, hm]
    · have e : (if m.f0 = true ∧ i < 10 then a ||| 2 ^ i else a).testBit j = a.testBit j := by
        split
        · rw [or_bit, two_bit]; simp; intro h2; omega
        · rfl
      rw [e]
      by_cases h2 : i ≤ j
      · obtain ⟨d, rfl⟩ : ∃ d, j = i + 1 + d := ⟨j - (i + 1), by omega⟩
        have h3 : i + 1 + d - i = d + 1 := by omega
        have h4 : i + 1 + d - (i + 1) = d := by omega
        rw [h3, h4, List.getD_cons_succ]
        simp [h2]
      · have h3 : ¬ i + 1 ≤ j := by omega
        simp [h2, h3]
theorem decl_bit (c : List S34) (j : Nat) : (decl c).testBit j = (decide (j < 10) && (c.getD j z34).f0) := by
  rw [decl, declF_bit]; simp
theorem decl_lt (c : List S34) : decl c < 1024 := lt_of_bits (n := 10) fun i hi => by rw [decl_bit]; simp; omega
theorem decl_len {c : List S34} {j : Nat} (h : (decl c).testBit j = true) : j < c.length := by
  rw [decl_bit] at h
  by_cases hj : j < c.length
  · exact hj
  · rw [List.getD_eq_getElem?_getD, List.getElem?_eq_none (by omega)] at h
    simp [z34] at h
def nodesL (s : Nat) : List Int := ((List.range 10).filter fun i => s.testBit i).map Int.ofNat
theorem nodesL_mem {s : Nat} {x : Int} : x ∈ nodesL s ↔ inS s x = true := by
  simp only [nodesL, List.mem_map, List.mem_filter, List.mem_range, inS, Bool.and_eq_true, decide_eq_true_eq]
  constructor
  · rintro ⟨i, ⟨h1, h2⟩, rfl⟩
    exact ⟨⟨by simp, by simp; omega⟩, by simpa using h2⟩
  · rintro ⟨⟨h1, h2⟩, h3⟩
    exact ⟨x.toNat, ⟨by omega, h3⟩, by simp; omega⟩
theorem nodesL_len (s : Nat) : (nodesL s).length ≤ 10 := by
  rw [nodesL, List.length_map]
  have := List.length_filter_le (fun i => s.testBit i) (List.range 10)
  simpa using this
def Light (c : List S34) : Prop := c.length < 1000000 ∧ ∀ m ∈ c, wt m.f1 < 1000000
theorem OkC.light {c : List S34} (h : OkC c) : Light c := by
  refine ⟨by have := h.2.1; omega, fun m hm => ?_⟩
  have := h.2.2 m hm
  unfold OkM at this
  split at this
  · have := this.2.1; omega
  · rw [this]; decide
theorem Light.at {c : List S34} (h : Light c) (j : Nat) : wt (c.getD j z34).f1 < 1000000 := by
  by_cases hj : j < c.length
  · exact h.2 _ (getD_mem' z34 hj)
  · rw [List.getD_eq_getElem?_getD, List.getElem?_eq_none (by omega)]; decide
def blk (c : List S34) (s : Nat) (j : Int) : Bool := inS (decl c) j && !(sat (dif 1023 s ||| 2 ^ j.toNat) (c.getD j.toNat z34).f1)
theorem inS_iff {s : Nat} {x : Int} : inS s x = true ↔ ∃ i : Nat, x = (i : Int) ∧ i < 10 ∧ s.testBit i = true := by
  simp only [inS, Bool.and_eq_true, decide_eq_true_eq]
  constructor
  · rintro ⟨⟨h1, h2⟩, h3⟩
    exact ⟨x.toNat, by omega, by omega, h3⟩
  · rintro ⟨i, rfl, h1, h2⟩
    exact ⟨⟨by omega, by omega⟩, by simpa using h2⟩
theorem and_nat' {a b : Nat} (ha : a < 1024) (hb : b < 1024) : Go.bits .and .i64 (a : Int) (b : Int) = ((a &&& b : Nat) : Int) := and_nat (by omega) (by omega)
theorem or_nat' {a b : Nat} (ha : a < 1024) (hb : b < 1024) : Go.bits .or .i64 (a : Int) (b : Int) = ((a ||| b : Nat) : Int) := or_nat (by omega) (by omega)
theorem shl_nat' {k : Nat} (h : k < 10) : shl .i64 1 (k : Int) = ((2 ^ k : Nat) : Int) := shl_nat (by omega)
theorem Declared_ev {c : List S34} (hc : c.length < 1000000) : Ev (fun k => configuration_Declared.f k c) (decl c : Int) := by
  simp only [configuration_Declared.f]
  refine Ev.fold (xs := c) (L := fun (a : Nat) i k => configuration_Declared.l0 k (a : Int) c (c.length : Int) i) (by omega) (fun pre ys a => declF pre.length a ys = decl c ∧ a < 1024) ?_ ?_ 0 ⟨rfl, by decide⟩
  · rintro a i ⟨hI, ha⟩ hi
    rw [declF] at hI
    (refine Ev.shift ?_; simp only [configuration_Declared.l0, hi, Option.bind_some, ↓reduceIte, Bool.false_eq_true, reduceCtorEq, decide_eq_true_eq, Go.Proofs.YtkjlcbfjllpcnaaW.PrintWords.rd, rd_T32, rd_T34])
    rw [hI]
    exact Ev.now _
  · rintro pre y ys a i e ⟨hI, ha⟩ hi h0 hlt hw hrd
    subst hi
    rw [declF] at hI
    by_cases h10 : pre.length < 10
    · have h10' : (pre.length : Int) < 10 := by omega
      have h2 := two_lt10 h10
      cases hy : y.f0
      · refine Or.inl ⟨a, ⟨by simpa [hy] using hI, ha⟩, fun k => ?_⟩
        (refine Ev.shift ?_; simp only [configuration_Declared.l0, h0, hlt, hw, hrd, hy, h10', Option.bind_some, ↓reduceIte, Bool.false_eq_true, reduceCtorEq, decide_eq_true_eq, Go.Proofs.YtkjlcbfjllpcnaaW.PrintWords.rd, rd_T32, rd_T34])
        exact k
      · refine Or.inl ⟨a ||| 2 ^ pre.length, ⟨by simpa [hy, h10] using hI, or_lt10 ha h2⟩, fun k => ?_⟩
        (refine Ev.shift ?_; simp only [configuration_Declared.l0, h0, hlt, hw, hrd, hy, h10', Option.bind_some, ↓reduceIte, Bool.false_eq_true, reduceCtorEq, decide_eq_true_eq, Go.Proofs.YtkjlcbfjllpcnaaW.PrintWords.rd, rd_T32, rd_T34])
        rw [shl_nat' h10, or_nat' ha h2]
        exact k
    · have h10' : ¬ (pre.length : Int) < 10 := by omega
      refine Or.inl ⟨a, ⟨by simpa [h10] using hI, ha⟩, fun k => ?_⟩
      cases hy : y.f0
      · (refine Ev.shift ?_; simp only [configuration_Declared.l0, h0, hlt, hw, hrd, hy, h10', Option.bind_some, ↓reduceIte, Bool.false_eq_true, reduceCtorEq, decide_eq_true_eq, Go.Proofs.YtkjlcbfjllpcnaaW.PrintWords.rd, rd_T32, rd_T34])
        exact k
      · (refine Ev.shift ?_; simp only [configuration_Declared.l0, h0, hlt, hw, hrd, hy, h10', Option.bind_some, ↓reduceIte, Bool.false_eq_true, reduceCtorEq, decide_eq_true_eq, Go.Proofs.YtkjlcbfjllpcnaaW.PrintWords.rd, rd_T32, rd_T34])
        exact k
theorem Nodes_ev {s : Nat} (hs : s < 1024) : Ev (fun k => nodeset_Nodes.f k (s : Int)) (nodesL s) := by
  simp only [nodeset_Nodes.f]
  refine Ev.count (L := fun (l : List Int) i k => nodeset_Nodes.l0 k (s : Int) l i) 10 (by decide) (fun i l => l = ((List.range i).filter fun i => s.testBit i).map Int.ofNat) ?_ ?_ [] rfl
  · rintro l rfl
    have h : ¬ ((10 : Nat) : Int) < 10 := by decide
    (refine Ev.shift ?_; simp only [nodeset_Nodes.l0, h, Option.bind_some, ↓reduceIte, Bool.false_eq_true, reduceCtorEq, decide_eq_true_eq, Go.Proofs.YtkjlcbfjllpcnaaW.PrintWords.rd, rd_T32, rd_T34])
    exact Ev.now _
  · rintro i l hi hl hw
    have h : (i : Int) < 10 := by omega
    have hlen : l.length < 17592186044416 := by
      rw [hl, List.length_map]
      have := List.length_filter_le (fun i => s.testBit i) (List.range i)
      simp at this ⊢; omega
    cases hb : s.testBit i
    · refine Or.inl ⟨l, ?_, fun k => ?_⟩
      · rw [hl, List.range_succ, List.filter_append]; simp [hb]
      · (refine Ev.shift ?_; simp only [nodeset_Nodes.l0, h, Has_eq hs, inS_nat s i (by omega), hb, hw, Option.bind_some, ↓reduceIte, Bool.false_eq_true, reduceCtorEq, decide_eq_true_eq, Go.Proofs.YtkjlcbfjllpcnaaW.PrintWords.rd, rd_T32, rd_T34])
        exact k
    · refine Or.inl ⟨l ++ [(i : Int)], ?_, fun k => ?_⟩
      · rw [hl, List.range_succ, List.filter_append]; simp [hb]
      · (refine Ev.shift ?_; simp only [nodeset_Nodes.l0, h, Has_eq hs, inS_nat s i (by omega), hb, hw, hlen, Option.bind_some, ↓reduceIte, Bool.false_eq_true, reduceCtorEq, decide_eq_true_eq, Go.Proofs.YtkjlcbfjllpcnaaW.PrintWords.rd, rd_T32, rd_T34])
        exact k
theorem Sub.or {a b c : Nat} (h : Sub a c) (k : Sub b c) : Sub (a ||| b) c := fun i hi => by
  rw [or_bit, Bool.or_eq_true] at hi
  exact hi.elim (h i) (k i)
theorem Sub.orl (a b : Nat) : Sub a (a ||| b) := fun i hi => by rw [or_bit, hi]; rfl
theorem Sub.orr (a b : Nat) : Sub b (a ||| b) := fun i hi => by rw [or_bit, hi]; simp
theorem Sub.two {i s : Nat} (h : s.testBit i = true) : Sub (2 ^ i) s := fun j hj => by
  rw [two_bit, decide_eq_true_eq] at hj; subst hj; exact h
theorem pcn_lt {s i : Nat} (hi : i < 10) (h : s.testBit i = false) : pcn s < pcn (s ||| 2 ^ i) := by
  unfold pcn
  have key : ∀ n, (List.range n).countP (fun k => s.testBit k) + (if i < n then 1 else 0) ≤ (List.range n).countP fun k => (s ||| 2 ^ i).testBit k := by
    intro n
    induction n with
    | zero => simp
    | succ n ih =>
      rw [List.range_succ, List.countP_append, List.countP_append, List.countP_singleton, List.countP_singleton, or_bit, two_bit]
      generalize (List.range n).countP (fun k => (s ||| 2 ^ i).testBit k) = B at ih ⊢
      generalize (List.range n).countP (fun k => s.testBit k) = A at ih ⊢
      by_cases e : i = n
      · subst e
        rw [h, if_neg (Nat.lt_irrefl i)] at *
        simp
        omega
      · by_cases hin : i < n
        · rw [if_pos hin] at ih
          rw [if_pos (show i < n + 1 by omega)]
          cases hb : s.testBit n <;> simp [e] <;> omega
        · rw [if_neg hin] at ih
          rw [if_neg (show ¬ i < n + 1 by omega)]
          cases hb : s.testBit n <;> simp [e] <;> omega
  have := key 10
  rw [if_pos hi] at this
  omega
theorem pcn_le (s : Nat) : pcn s ≤ 10 := by
  have : (List.range 10).countP (fun k => s.testBit k) ≤ (List.range 10).length := List.countP_le_length
  simpa [pcn] using this
def quo (c : List S34) (x : Nat) : Bool := decide (x ≠ 0) && decide (x &&& decl c = x) && (nodesL x).all fun j => sat x (c.getD j.toNat z34).f1
theorem quo_iff {c : List S34} {x : Nat} (hx : x < 1024) : quo c x = true ↔ x ≠ 0 ∧ Sub x (decl c) ∧ ∀ i, x.testBit i = true → sat x (c.getD i z34).f1 = true := by
  unfold quo
  rw [Bool.and_eq_true, Bool.and_eq_true, decide_eq_true_eq, decide_eq_true_eq, List.all_eq_true, sub_and]
  constructor
  · rintro ⟨⟨h1, h2⟩, h3⟩
    refine ⟨h1, h2, fun i hi => ?_⟩
    have h10 : i < 10 := by
      rcases Nat.lt_or_ge i 10 with h | h
      · exact h
      · rw [bit_lt (n := 10) hx h] at hi; cases hi
    have := h3 (i : Int) (nodesL_mem.2 (inS_iff.2 ⟨i, rfl, h10, hi⟩))
    rwa [Int.toNat_natCast] at this
  · rintro ⟨h1, h2, h3⟩
    refine ⟨⟨h1, h2⟩, fun j hj => ?_⟩
    obtain ⟨i, rfl, h10, hi⟩ := inS_iff.1 (nodesL_mem.1 hj)
    rw [Int.toNat_natCast]
    exact h3 i hi
end Go.Proofs.Ytkjlcbfjllpcnaa.X
namespace Go.Proofs.Ytkjlcbfjllpcnaa.X
open Go.RowKit Go.Proofs.YtkjlcbfjllpcnaaW.PrintWords Go.Proofs.YtkjlcbfjllpcnaaW.PrintLast Go.Proofs.YtkjlcbfjllpcnaaW.PrintMore
attribute [local go_sem] max2_int min2_int max_two min_two max_three min_three max_four min_four
set_option linter.unusedVariables false
set_option linter.unusedSimpArgs false
end Go.Proofs.Ytkjlcbfjllpcnaa.X
namespace Go.Proofs.Ytkjlcbfjllpcnaa.X
open Go.RowKit Go.Lib Go.Sort Go.Proofs.YtkjlcbfjllpcnaaW.PrintWords Go.Proofs.YtkjlcbfjllpcnaaW.PrintLast Go.Proofs.YtkjlcbfjllpcnaaW.PrintMore
set_option linter.unusedVariables false
def leS (x y : Int) : Prop := ¬ ltS y x
instance (x y : Int) : Decidable (leS x y) := inferInstanceAs (Decidable (¬ (_ ∨ _)))
theorem leS_antisymm {x y : Int} (h : leS x y) (k : leS y x) : x = y := by unfold leS ltS at *; omega
theorem sortS_perm (l : List Int) : (sortS l).Perm l := List.mergeSort_perm _ _
theorem sortS_sorted (l : List Int) : (sortS l).Pairwise leS := by
  have := List.pairwise_mergeSort (le := fun x y => !(ltOf cmpS) y x) (by
    intro a b c h1 h2
    rw [Bool.not_eq_true', ltOf_not] at *
    unfold ltS at *; omega) (by
    intro a b
    rw [Bool.or_eq_true, Bool.not_eq_true', Bool.not_eq_true', ltOf_not, ltOf_not]
    unfold ltS; omega) l
  refine this.imp ?_
  intro a b h
  rw [Bool.not_eq_true', ltOf_not] at h
  exact h
theorem sortS_eq {l l' : List Int} (h : l.Perm l') (hs : l'.Pairwise leS) : sortS l = l' :=
  List.Perm.eq_of_pairwise (le := leS) (fun a b _ _ h k => leS_antisymm h k) (sortS_sorted l) hs ((sortS_perm l).trans h)
theorem sub_nat {a b : Nat} (ha : a < 1024) (hb : b < 1024) : sub (a : Int) (b : Int) = true ↔ Sub a b := by
  unfold sub
  rw [andNot_nat (by omega) (by omega), beq_iff_eq, ← sub_dif]
  omega
theorem subsetsS_mem {s : Nat} (hs : s < 1024) {x : Int} : x ∈ subsetsS (s : Int) ↔ ∃ t : Nat, x = (t : Int) ∧ Sub t s := by
  rw [subsetsS, vld_nat hs, if_pos rfl, (sortS_perm _).mem_iff, subsBelow, List.mem_filter, List.mem_map]
  constructor
  · rintro ⟨⟨t, h1, rfl⟩, h2⟩
    rw [List.mem_range] at h1
    exact ⟨t, rfl, (sub_nat (by simp at h1; omega) hs).1 h2⟩
  · rintro ⟨t, rfl, h⟩
    have ht : t ≤ s := by
      have : t &&& s = t := sub_and.2 h
      rw [← this]; exact Nat.and_le_right
    exact ⟨⟨t, by rw [List.mem_range]; simp; omega, rfl⟩, (sub_nat (by omega) hs).2 h⟩
theorem subsetsS_len {s : Nat} (hs : s < 1024) : (subsetsS (s : Int)).length ≤ 1024 := by
  rw [subsetsS, vld_nat hs, if_pos rfl, sortS_length]
  have := subsBelow_le (s : Int) ((s : Int).toNat + 1)
  simp at this ⊢; omega
def memV (n : Nat) (m : S34) : Int := if m.f0 = true then (if validT m.f1 = 0 then (if uses m.f1 < 2 ^ n then 0 else 5) else validT m.f1) else (if m.f1.f0 = 0 ∧ m.f1.f1 = [] ∧ m.f1.f2 = [] then 0 else 1)
def valF (n : Nat) : List S34 → Int
  | [] => 0
  | m :: ms => if memV n m = 0 then valF n ms else memV n m
def valC (c : List S34) : Int := if c.length > 10 then 3 else valF c.length c
theorem member_ev {n : Nat} (hn : n ≤ 10) (m : S34) (hm : wt m.f1 < 1000000) : Ev (fun k => configuration_member.f k m.f0 m.f1.f0 m.f1.f1 m.f1.f2 (n : Int)) (memV n m) := by
  unfold memV
  cases h : m.f0
  · simp only [configuration_member.f, configuration_blank.f, Option.bind_some, ↓reduceIte, Bool.false_eq_true, reduceCtorEq, decide_eq_true_eq, Go.Proofs.YtkjlcbfjllpcnaaW.PrintWords.rd, rd_T32, rd_T34]
    by_cases h1 : m.f1.f0 = 0
    · by_cases h2 : m.f1.f1 = []
      · by_cases h3 : m.f1.f2 = []
        · simp only [h1, h2, h3, and_self, if_true, List.length_nil, Option.bind_some]
          simp only [Int.natCast_zero, beq_self_eq_true, if_true, Int.ofNat_zero, Option.bind_some]
          exact Ev.now _
        · have : ¬ (m.f1.f2.length : Int) = 0 := by
            intro h; exact h3 (List.eq_nil_of_length_eq_zero (by omega))
          have e2 : ((m.f1.f2.length : Int) == 0) = false := by simpa using this
          simp only [h1, h2, h3, and_false, if_true, if_false, List.length_nil, Int.natCast_zero, Int.ofNat_zero, e2, Option.bind_some, Bool.false_eq_true]
          exact Ev.now _
      · have : ¬ (m.f1.f1.length : Int) = 0 := by
          intro h; exact h2 (List.eq_nil_of_length_eq_zero (by omega))
        simp only [h1, h2, this, false_and, and_false, if_true, if_false, Option.bind_some, Bool.false_eq_true]
        exact Ev.now _
    · simp only [h1, false_and, if_false, Option.bind_some, Bool.false_eq_true]
      exact Ev.now _
  · simp only [configuration_member.f, Option.bind_some, ↓reduceIte, Bool.false_eq_true, reduceCtorEq, decide_eq_true_eq, Go.Proofs.YtkjlcbfjllpcnaaW.PrintWords.rd, rd_T32, rd_T34]
    refine Ev.bind1 (Valid_ev m.f1 hm) ?_
    by_cases h1 : validT m.f1 = 0
    · simp only [h1, if_true]
      refine Ev.bind1 (Uses_ev 1000000 m.f1 hm (by decide)) ?_
      have h0 : (0 : Int) ≤ (n : Int) := by omega
      rw [shl_nat (by omega), if_pos h0]
      by_cases h2 : uses m.f1 < 2 ^ n
      · rw [if_pos h2, if_neg (by omega)]; exact Ev.now _
      · rw [if_neg h2, if_pos (by omega)]; exact Ev.now _
    · simp only [h1, if_false]
      exact Ev.now _
theorem CValid_ev {c : List S34} (hc : Light c) : Ev (fun k => configuration_Valid.f k c) (valC c) := by
  have hl := hc.1
  unfold valC
  by_cases h : c.length > 10
  · have h2 : (c.length : Int) > 10 := by omega
    simp only [configuration_Valid.f, h, h2, Option.bind_some, ↓reduceIte, Bool.false_eq_true, reduceCtorEq, decide_eq_true_eq, Go.Proofs.YtkjlcbfjllpcnaaW.PrintWords.rd, rd_T32, rd_T34]
    exact Ev.now _
  · have h2 : ¬ (c.length : Int) > 10 := by omega
    simp only [configuration_Valid.f, h, h2, Option.bind_some, ↓reduceIte, Bool.false_eq_true, reduceCtorEq, decide_eq_true_eq, Go.Proofs.YtkjlcbfjllpcnaaW.PrintWords.rd, rd_T32, rd_T34]
    refine Ev.fold (xs := c) (L := fun (a : Unit) i k => configuration_Valid.l0 k c (c.length : Int) i c) (by omega) (fun pre ys a => valF c.length ys = valF c.length c) ?_ ?_ () rfl
    · intro a i hI hi
      rw [valF] at hI
      (refine Ev.shift ?_; simp only [configuration_Valid.l0, hi, Option.bind_some, ↓reduceIte, Bool.false_eq_true, reduceCtorEq, decide_eq_true_eq, Go.Proofs.YtkjlcbfjllpcnaaW.PrintWords.rd, rd_T32, rd_T34])
      rw [← hI]
      exact Ev.now _
    · intro pre y ys a i e hI hi h0 hlt hw hrd
      rw [valF] at hI
      have hm := member_ev (n := c.length) (by omega) y (hc.2 y (by rw [e]; simp))
      by_cases h4 : memV c.length y = 0
      · rw [if_pos h4] at hI
        refine Or.inl ⟨(), hI, fun k => ?_⟩
        (refine Ev.shift ?_; simp only [configuration_Valid.l0, h0, hlt, hw, hrd, Option.bind_some, ↓reduceIte, Bool.false_eq_true, reduceCtorEq, decide_eq_true_eq, Go.Proofs.YtkjlcbfjllpcnaaW.PrintWords.rd, rd_T32, rd_T34])
        refine Ev.bind1 hm ?_
        rw [h4]
        exact k
      · rw [if_neg h4] at hI
        refine Or.inr ?_
        rw [← hI]
        (refine Ev.shift ?_; simp only [configuration_Valid.l0, h0, hlt, hw, hrd, Option.bind_some, ↓reduceIte, Bool.false_eq_true, reduceCtorEq, decide_eq_true_eq, Go.Proofs.YtkjlcbfjllpcnaaW.PrintWords.rd, rd_T32, rd_T34])
        refine Ev.bind1 hm ?_
        simp only [h4, if_false]
        exact Ev.now _
theorem OkM.memV {n : Nat} {m : S34} (h : OkM n m) : memV n m = 0 := by
  unfold OkM at h
  unfold X.memV
  split at h
  · rename_i h1
    rw [if_pos h1, if_pos h.1, if_pos h.2.2]
  · rename_i h1
    rw [if_neg h1, h]
    simp
theorem valF_ok {n : Nat} : ∀ (l : List S34), (∀ m ∈ l, OkM n m) → valF n l = 0
  | [], _ => by rw [valF]
  | m :: ms, h => by rw [valF, if_pos (h m (by simp)).memV]; exact valF_ok ms fun x hx => h x (by simp [hx])
theorem OkC.valC {c : List S34} (h : OkC c) : valC c = 0 := by
  have := h.2.1
  rw [X.valC, if_neg (by omega)]
  exact valF_ok c h.2.2
theorem Ints_ev {xs ys : List Int} (hx : xs.length < 1000000) : Ev (fun k => trustquorummake_Ints.f k xs ys) (decide (xs = ys)) := by
  by_cases hl : xs.length = ys.length
  · have hl2 : (xs.length : Int) = (ys.length : Int) := by omega
    simp only [trustquorummake_Ints.f, Option.bind_some, ↓reduceIte, Bool.false_eq_true, reduceCtorEq, decide_eq_true_eq, Go.Proofs.YtkjlcbfjllpcnaaW.PrintWords.rd, rd_T32, rd_T34]
    simp only [if_pos hl2]
    refine Ev.fold (xs := xs) (L := fun (a : Unit) i k => trustquorummake_Ints.l0 k xs ys (xs.length : Int) i) (by omega) (fun pre zs a => xs.take pre.length = ys.take pre.length) ?_ ?_ () rfl
    · intro a i hI hi
      rw [List.take_of_length_le (Nat.le_refl _), List.take_of_length_le (by omega)] at hI
      (refine Ev.shift ?_; simp only [trustquorummake_Ints.l0, hi, Option.bind_some, ↓reduceIte, Bool.false_eq_true, reduceCtorEq, decide_eq_true_eq, Go.Proofs.YtkjlcbfjllpcnaaW.PrintWords.rd, rd_T32, rd_T34])
      rw [decide_eq_true hI]
      exact Ev.now _
    · intro pre y zs a i e hI hi h0 hlt hw hrd
      subst hi
      have hrd' := hrd
      simp only [Int.toNat_natCast] at hrd'
      have hlt2 : (pre.length : Int) < (ys.length : Int) := by omega
      have hp : pre.length < ys.length := by omega
      have hy : ys.getD pre.length 0 = ys[pre.length] := by rw [List.getD_eq_getElem?_getD, List.getElem?_eq_getElem hp]; rfl
      have hx' : xs.take (pre.length + 1) = xs.take pre.length ++ [y] := by
        have := hrd 0
        rw [Int.toNat_natCast, List.getD_eq_getElem?_getD, List.getElem?_eq_getElem (show pre.length < xs.length by omega)] at this
        rw [List.take_succ_eq_append_getElem (by omega)]
        congr 2
      by_cases h : y = ys.getD pre.length 0
      · refine Or.inl ⟨(), ?_, fun k => ?_⟩
        · rw [List.length_append, List.length_singleton, hx', hI, List.take_succ_eq_append_getElem hp, ← hy, h]
        · (refine Ev.shift ?_; simp only [trustquorummake_Ints.l0, h0, hlt, hw, hlt2, hrd', Int.toNat_natCast, Option.bind_some, ↓reduceIte, Bool.false_eq_true, reduceCtorEq, decide_eq_true_eq, Go.Proofs.YtkjlcbfjllpcnaaW.PrintWords.rd, rd_T32, rd_T34])
          simp only [if_pos h]
          exact k
      · refine Or.inr ?_
        have hne : xs ≠ ys := by
          intro hh
          subst hh
          have := hrd 0
          rw [Int.toNat_natCast] at this
          exact h this.symm
        rw [decide_eq_false hne]
        (refine Ev.shift ?_; simp only [trustquorummake_Ints.l0, h0, hlt, hw, hlt2, hrd', Int.toNat_natCast, Option.bind_some, ↓reduceIte, Bool.false_eq_true, reduceCtorEq, decide_eq_true_eq, Go.Proofs.YtkjlcbfjllpcnaaW.PrintWords.rd, rd_T32, rd_T34])
        simp only [if_neg h]
        exact Ev.now _
  · have hl2 : ¬ (xs.length : Int) = (ys.length : Int) := by omega
    simp only [trustquorummake_Ints.f, hl2, Option.bind_some, ↓reduceIte, Bool.false_eq_true, reduceCtorEq, decide_eq_true_eq, Go.Proofs.YtkjlcbfjllpcnaaW.PrintWords.rd, rd_T32, rd_T34]
    have hne : xs ≠ ys := fun hh => hl (by rw [hh])
    rw [decide_eq_false hne]
    exact Ev.now _
end Go.Proofs.Ytkjlcbfjllpcnaa.X
namespace Go.Proofs.Ytkjlcbfjllpcnaa.X
open Go.RowKit Go.Proofs.YtkjlcbfjllpcnaaW.PrintWords Go.Proofs.YtkjlcbfjllpcnaaW.PrintLast Go.Proofs.YtkjlcbfjllpcnaaW.PrintMore
set_option linter.unusedVariables false
instance (x y:Int):Decidable (ltS x y):=inferInstanceAs (Decidable (_ ∨ _))
theorem shr_one {s k:Nat} (hs:s < 1024) (hk:k < 10):(Go.bits .and .i64 (shr .i64 (s:Int) (k:Int)) 1)=if s.testBit k=true then 1 else 0:=by
 have hl:s / 2 ^ k≤s:=Nat.div_le_self _ _
 rw [shr_nat s k (by omega),show (1:Int)=((1:Nat):Int) from rfl,and_nat (by omega) (by decide),Nat.testBit_eq_decide_div_mod_eq,Nat.and_one_is_mod]
 by_cases h:s / 2 ^ k % 2=1
 ·simp [h]
 ·have:s / 2 ^ k % 2=0:=by omega
  simp [this]
theorem ref_SizeEv {s:Nat} (hs:s < 1024):Ev (fun k=>trustquorumref01_Size.f k (s:Int)) (pcn s:Int):=by
 simp only [trustquorumref01_Size.f]
 refine Ev.count (L:=fun (c:Nat) i k=>trustquorumref01_Size.l0 k (s:Int) (c:Int) i) 10 (by decide) (fun i c=>c=(List.range i).countP fun k=>s.testBit k) ?_ ?_ 0 rfl
 ·intro c hc
  have h:¬ ((10:Nat):Int) < 10:=by decide
  (refine Ev.shift ?_;simp only [trustquorumref01_Size.l0,h,Option.bind_some,↓reduceIte,Bool.false_eq_true,reduceCtorEq,decide_eq_true_eq,Go.Proofs.YtkjlcbfjllpcnaaW.PrintWords.rd,rd_T32,rd_T34])
  rw [hc]
  exact Ev.now _
 ·intro i c hi hc hw
  have h:(i:Int) < 10:=by omega
  have h0:(0:Int)≤i:=by omega
  have hle:c≤i:=by rw [hc];have:=List.countP_le_length (p:=fun k=>s.testBit k) (l:=List.range i);simpa using this
  refine Or.inl ⟨c+if s.testBit i=true then 1 else 0,by rw [hc,List.range_succ,List.countP_append,List.countP_singleton],fun k=>?_⟩
  (refine Ev.shift ?_;simp only [trustquorumref01_Size.l0,h,h0,ref01_Valid_eq,vld_nat hs,shr_one hs hi,hw,Option.bind_some,↓reduceIte,Bool.false_eq_true,reduceCtorEq,decide_eq_true_eq,Go.Proofs.YtkjlcbfjllpcnaaW.PrintWords.rd,rd_T32,rd_T34])
  cases hb:s.testBit i
  ·rw [hb] at k
   simp only [Bool.false_eq_true,if_false,Int.add_zero,Nat.add_zero] at k ⊢
   rw [w64 (by omega) (by omega)]
   exact k
  ·rw [hb] at k
   simp only [if_true] at k ⊢
   rw [show wrap64 ((c:Int)+1)=((c+1:Nat):Int) from w64 (by omega) (by omega)]
   exact k
end Go.Proofs.Ytkjlcbfjllpcnaa.X
namespace Go.Proofs.Ytkjlcbfjllpcnaa.X
open Go.RowKit Go.Lib Go.Sort Go.Proofs.YtkjlcbfjllpcnaaW.PrintWords Go.Proofs.YtkjlcbfjllpcnaaW.PrintLast Go.Proofs.YtkjlcbfjllpcnaaW.PrintMore
set_option linter.unusedVariables false
theorem ltS_irrefl (x : Int) : ¬ ltS x x := by unfold ltS; omega
theorem ltS_tri {x y : Int} (h : ¬ ltS x y) (k : x ≠ y) : ltS y x := by unfold ltS at *; omega
def Mini (l : List Int) (x : Int) : Prop := x ∈ l ∧ vld x = true ∧ ∀ y ∈ l, vld y = true → Sub y.toNat x.toNat → y = x
theorem vld_cast {x : Int} (h : vld x = true) : ∃ n : Nat, x = (n : Int) ∧ n < 1024 := by
  rw [vld_iff] at h
  exact ⟨x.toNat, by omega, by omega⟩
theorem sub_v {x y : Int} (hx : vld x = true) (hy : vld y = true) : sub x y = true ↔ Sub x.toNat y.toNat := by
  obtain ⟨a, rfl, ha⟩ := vld_cast hx
  obtain ⟨b, rfl, hb⟩ := vld_cast hy
  rw [sub_nat ha hb, Int.toNat_natCast, Int.toNat_natCast]
theorem pcn_sub {a b : Nat} (hb : b < 1024) (h : Sub a b) (hne : a ≠ b) : pcn a < pcn b := by
  have hex : ∃ i, i < 10 ∧ b.testBit i = true ∧ a.testBit i = false := by
    apply Classical.byContradiction
    intro hn
    refine hne (Sub.eq h fun i hi => ?_)
    cases ha : a.testBit i
    · refine absurd ⟨i, ?_, hi, ha⟩ hn
      rcases Nat.lt_or_ge i 10 with h | h
      · exact h
      · rw [bit_lt (n := 10) hb h] at hi; cases hi
    · rfl
  obtain ⟨i, h10, hbi, hai⟩ := hex
  refine Nat.lt_of_lt_of_le (pcn_lt h10 hai) ?_
  unfold pcn
  refine List.countP_mono_left fun k _ hk => ?_
  exact (Sub.or h (Sub.two hbi)) k hk
theorem ltS_of_sub {x y : Int} (hx : vld x = true) (hy : vld y = true) (h : Sub x.toNat y.toNat) (hne : x ≠ y) : ltS x y := by
  obtain ⟨a, rfl, ha⟩ := vld_cast hx
  obtain ⟨b, rfl, hb⟩ := vld_cast hy
  rw [Int.toNat_natCast, Int.toNat_natCast] at h
  have := pcn_sub hb h (by omega)
  left
  unfold rank size
  rw [vld_nat ha, vld_nat hb]
  simp only [if_true, Int.toNat_natCast]
  omega
theorem leastFold_spec (l : List Int) (hv : ∀ x ∈ l, vld x = true) (hs : l.Pairwise leS) : (leastFold l).Pairwise ltS ∧ ∀ x, x ∈ leastFold l ↔ Mini l x := by
  have key : ∀ (rest pre out : List Int), l = pre ++ rest → out.Pairwise ltS → (∀ x ∈ out, x ∈ pre ∧ Mini l x) → (∀ x ∈ pre, ∃ t ∈ out, Sub t.toNat x.toNat) →
      (rest.foldl leastStep out).Pairwise ltS ∧ ∀ x, x ∈ rest.foldl leastStep out ↔ Mini l x := by
    intro rest
    induction rest with
    | nil =>
      intro pre out e h1 h2 h3
      rw [List.append_nil] at e
      subst e
      refine ⟨h1, fun x => ⟨fun h => (h2 x h).2, fun h => ?_⟩⟩
      obtain ⟨t, ht, hts⟩ := h3 x h.1
      have := h.2.2 t (h2 t ht).1 (h2 t ht).2.2.1 hts
      rw [← this]; exact ht
    | cons y ys ih =>
      intro pre out e h1 h2 h3
      rw [List.foldl_cons]
      have hy : y ∈ l := by rw [e]; simp
      have hvy := hv y hy
      by_cases ha : (out.any fun t => sub t y) = true
      · rw [leastStep, if_pos ha]
        obtain ⟨t, ht, hts⟩ := List.any_eq_true.1 ha
        refine ih (pre ++ [y]) out (by rw [e]; simp) h1 (fun x hx => ⟨by simp [(h2 x hx).1], (h2 x hx).2⟩) fun x hx => ?_
        rcases List.mem_append.1 hx with h | h
        · exact h3 x h
        · rw [List.mem_singleton.1 h]
          exact ⟨t, ht, (sub_v (h2 t ht).2.2.1 hvy).1 hts⟩
      · rw [leastStep, if_neg ha]
        have hno : ∀ t ∈ out, ¬ Sub t.toNat y.toNat := fun t ht hh => ha (List.any_eq_true.2 ⟨t, ht, (sub_v (h2 t ht).2.2.1 hvy).2 hh⟩)
        have hpy : ∀ x ∈ pre, leS x y := by
          intro x hx
          rw [e, List.pairwise_append] at hs
          exact hs.2.2 x hx y (by simp)
        have hmin : Mini l y := by
          refine ⟨hy, hvy, fun z hz hvz hzy => ?_⟩
          apply Classical.byContradiction
          intro hne
          have hlt := ltS_of_sub hvz hvy hzy hne
          have hzp : z ∈ pre := by
            rw [e] at hz
            rcases List.mem_append.1 hz with h | h
            · exact h
            · rcases List.mem_cons.1 h with h | h
              · exact absurd h hne
              · rw [e, List.pairwise_append, List.pairwise_cons] at hs
                exact absurd hlt (hs.2.1.1 z h)
          obtain ⟨t, ht, hts⟩ := h3 z hzp
          exact hno t ht (hts.trans hzy)
        refine ih (pre ++ [y]) (out ++ [y]) (by rw [e]; simp) ?_ ?_ ?_
        · rw [List.pairwise_append]
          refine ⟨h1, by simp, fun a ha b hb => ?_⟩
          rw [List.mem_singleton.1 hb]
          refine ltS_tri (hpy a (h2 a ha).1) fun hh => ?_
          exact hno a ha (by rw [hh]; exact Sub.refl _)
        · intro x hx
          rcases List.mem_append.1 hx with h | h
          · exact ⟨by simp [(h2 x h).1], (h2 x h).2⟩
          · rw [List.mem_singleton.1 h]; exact ⟨by simp, hmin⟩
        · intro x hx
          rcases List.mem_append.1 hx with h | h
          · obtain ⟨t, ht, hts⟩ := h3 x h
            exact ⟨t, by simp [ht], hts⟩
          · rw [List.mem_singleton.1 h]; exact ⟨y, by simp, Sub.refl _⟩
  exact key l [] [] rfl List.Pairwise.nil (by simp) (by simp)
theorem leastS_spec (l : List Int) : (leastS l).Pairwise ltS ∧ ∀ x, x ∈ leastS l ↔ Mini l x := by
  have hm : ∀ x, x ∈ sortS (l.filter vld) ↔ x ∈ l ∧ vld x = true := fun x => by rw [(sortS_perm _).mem_iff, List.mem_filter]
  have := leastFold_spec (sortS (l.filter vld)) (fun x hx => ((hm x).1 hx).2) (sortS_sorted _)
  refine ⟨this.1, fun x => (this.2 x).trans ?_⟩
  unfold Mini
  rw [hm]
  constructor
  · rintro ⟨⟨h1, h2⟩, h3, h4⟩
    exact ⟨h1, h2, fun y hy hv => h4 y ((hm y).2 ⟨hy, hv⟩) hv⟩
  · rintro ⟨h1, h2, h3⟩
    exact ⟨⟨h1, h2⟩, h2, fun y hy hv => h3 y ((hm y).1 hy).1 hv⟩
end Go.Proofs.Ytkjlcbfjllpcnaa.X
namespace Go.Proofs.Ytkjlcbfjllpcnaa.X
open Go.RowKit Go.Proofs.YtkjlcbfjllpcnaaW.PrintWords Go.Proofs.YtkjlcbfjllpcnaaW.PrintLast Go.Proofs.YtkjlcbfjllpcnaaW.PrintMore
set_option linter.unusedVariables false
def unh (c : List S34) (x : Nat) : Option Int := (nodesL x).find? fun j => !(sat x (c.getD j.toNat z34).f1)
theorem bit10 {x i : Nat} (hx : x < 1024) (hi : x.testBit i = true) : i < 10 := by
  rcases Nat.lt_or_ge i 10 with h | h
  · exact h
  · rw [bit_lt (n := 10) hx h] at hi; cases hi
theorem unh_none {c : List S34} {x : Nat} (hx : x < 1024) : unh c x = none ↔ ∀ i, x.testBit i = true → sat x (c.getD i z34).f1 = true := by
  unfold unh
  rw [List.find?_eq_none]
  constructor
  · intro h i hi
    have := h (i : Int) (nodesL_mem.2 (inS_iff.2 ⟨i, rfl, bit10 hx hi, hi⟩))
    rw [Int.toNat_natCast] at this
    simpa using this
  · intro h j hj
    obtain ⟨i, rfl, h10, hi⟩ := inS_iff.1 (nodesL_mem.1 hj)
    rw [Int.toNat_natCast, h i hi]
    simp
theorem unh_some {c : List S34} {x : Nat} {j : Int} (h : unh c x = some j) : ∃ i : Nat, j = (i : Int) ∧ i < 10 ∧ x.testBit i = true ∧ sat x (c.getD i z34).f1 = false := by
  have h1 := List.find?_some h
  have h2 := List.mem_of_find?_eq_some h
  obtain ⟨i, rfl, h10, hi⟩ := inS_iff.1 (nodesL_mem.1 h2)
  rw [Int.toNat_natCast] at h1
  exact ⟨i, rfl, h10, hi, by simpa using h1⟩
def grtF (c : List S34) : Nat → Nat → Nat
  | 0, x => x
  | n + 1, x => match unh c x with
    | none => x
    | some j => grtF c n (dif x (2 ^ j.toNat))
def elimF (c : List S34) : Nat → Nat → List Int
  | 0, x => []
  | n + 1, x => match unh c x with
    | none => []
    | some j => j :: elimF c n (dif x (2 ^ j.toNat))
def grt (c : List S34) (x : Nat) : Nat := grtF c 11 (x &&& decl c)
theorem pcn_dif {x i : Nat} (h10 : i < 10) (h : x.testBit i = true) : pcn (dif x (2 ^ i)) < pcn x := by
  have h1 : (dif x (2 ^ i)).testBit i = false := by rw [dif_bit, two_bit]; simp
  have h2 := pcn_lt h10 h1
  have h3 : dif x (2 ^ i) ||| 2 ^ i = x := eq_bits fun j => by
    rw [or_bit, dif_bit, two_bit]
    by_cases e : i = j
    · subst e; simp [h]
    · simp [e]
  rwa [h3] at h2
theorem dif_sub' (a b : Nat) : Sub (dif a b) a := fun i hi => by rw [dif_bit, Bool.and_eq_true] at hi; exact hi.1
theorem Sub.lt {a b : Nat} (h : Sub a b) (hb : b < 1024) : a < 1024 := lt_of_bits (n := 10) fun i hi => by
  cases ha : a.testBit i
  · rfl
  · rw [← h i ha]; exact bit_lt hb hi
theorem Sub.le {a b : Nat} (h : Sub a b) : a ≤ b := by
  rw [← sub_and.2 h]; exact Nat.and_le_right
theorem quo_sat {c : List S34} {q i : Nat} (hq : q < 1024) (h : quo c q = true) (hi : q.testBit i = true) : sat q (c.getD i z34).f1 = true := ((quo_iff hq).1 h).2.2 i hi
theorem grtF_spec {c : List S34} : ∀ n x, x < 1024 → pcn x < n →
    unh c (grtF c n x) = none ∧ Sub (grtF c n x) x ∧ (∀ q, q < 1024 → quo c q = true → Sub q x → Sub q (grtF c n x))
  | 0, x, _, h => absurd h (by omega)
  | n + 1, x, hx, h => by
    rw [grtF]
    cases hu : unh c x with
    | none => exact ⟨hu, Sub.refl _, fun q _ _ h => h⟩
    | some j =>
      obtain ⟨i, rfl, h10, hi, hs⟩ := unh_some hu
      simp only [Int.toNat_natCast]
      have h1 := pcn_dif h10 hi
      have h2 := grtF_spec (c := c) n (dif x (2 ^ i)) (dif_lt (n := 10) hx) (by omega)
      refine ⟨h2.1, h2.2.1.trans (dif_sub' _ _), fun q hq hqq hsub => h2.2.2 q hq hqq fun k hk => ?_⟩
      rw [dif_bit, hsub k hk, two_bit]
      by_cases e : i = k
      · subst e
        rw [sat_mono hsub _ (quo_sat hq hqq hk)] at hs
        cases hs
      · simp [e]
theorem and_lt10 {a b : Nat} (hb : b < 1024) : a &&& b < 1024 := Nat.lt_of_le_of_lt Nat.and_le_right hb
theorem grt_un {c : List S34} (x : Nat) : unh c (grt c x) = none ∧ Sub (grt c x) (x &&& decl c) ∧ ∀ q, q < 1024 → quo c q = true → Sub q (x &&& decl c) → Sub q (grt c x) :=
  grtF_spec 11 _ (and_lt10 (decl_lt c)) (by have := pcn_le (x &&& decl c); omega)
theorem grt_sub (c : List S34) (x : Nat) : Sub (grt c x) x := fun i hi => by
  have := (grt_un (c := c) x).2.1 i hi
  rw [and_bit, Bool.and_eq_true] at this
  exact this.1
theorem grt_decl (c : List S34) (x : Nat) : Sub (grt c x) (decl c) := fun i hi => by
  have := (grt_un (c := c) x).2.1 i hi
  rw [and_bit, Bool.and_eq_true] at this
  exact this.2
theorem grt_lt (c : List S34) (x : Nat) : grt c x < 1024 := (grt_decl c x).lt (decl_lt c)
theorem grt_quo {c : List S34} {x : Nat} (h : grt c x ≠ 0) : quo c (grt c x) = true :=
  (quo_iff (grt_lt c x)).2 ⟨h, grt_decl c x, (unh_none (grt_lt c x)).1 (grt_un x).1⟩
theorem grt_max {c : List S34} {x q : Nat} (hq : q < 1024) (h : quo c q = true) (hs : Sub q x) : Sub q (grt c x) :=
  (grt_un x).2.2 q hq h fun i hi => by rw [and_bit, hs i hi, ((quo_iff hq).1 h).2.1 i hi]; rfl
theorem Sub.zero {a : Nat} (h : Sub a 0) : a = 0 := h.eq fun i hi => by rw [Nat.zero_testBit] at hi; cases hi
theorem grt_ne {c : List S34} {x q : Nat} (hq : q < 1024) (h : quo c q = true) (hs : Sub q x) : grt c x ≠ 0 := fun e => by
  have h1 := grt_max hq h hs
  rw [e] at h1
  exact ((quo_iff hq).1 h).1 h1.zero
theorem pow10 {n : Nat} (hn : n ≤ 10) : 2 ^ n ≤ 1024 := Nat.pow_le_pow_right (n := 2) (by decide) hn
end Go.Proofs.Ytkjlcbfjllpcnaa.X
namespace Go.Proofs.Ytkjlcbfjllpcnaa.X
open Go.RowKit Go.Proofs.YtkjlcbfjllpcnaaW.PrintWords Go.Proofs.YtkjlcbfjllpcnaaW.PrintLast Go.Proofs.YtkjlcbfjllpcnaaW.PrintMore
attribute [local go_sem] max2_int min2_int max_two min_two max_three min_three max_four min_four
set_option linter.unusedVariables false
set_option linter.unusedSimpArgs false
end Go.Proofs.Ytkjlcbfjllpcnaa.X
namespace Go.Proofs.Ytkjlcbfjllpcnaa.X
open Go.RowKit Go.Proofs.YtkjlcbfjllpcnaaW.PrintWords Go.Proofs.YtkjlcbfjllpcnaaW.PrintLast Go.Proofs.YtkjlcbfjllpcnaaW.PrintMore
set_option linter.unusedVariables false
theorem content_ev {c : List S34} (hc : Light c) {x j : Nat} (hx : x < 1024) (hj : j < c.length) : Ev (fun k => closure_content.f k c (j : Int) (x : Int)) (sat x (c.getD j z34).f1) := by
  have hj0 : (0 : Int) ≤ j := by omega
  have hj1 : (j : Int) < (c.length : Int) := by omega
  have hsat := Sat_ev hx 1000000 _ (hc.at j) (by decide)
  simp only [closure_content.f, hj0, hj1, Int.toNat_natCast, Option.bind_some, ↓reduceIte, Bool.false_eq_true, reduceCtorEq, decide_eq_true_eq, Go.Proofs.YtkjlcbfjllpcnaaW.PrintWords.rd, rd_T32, rd_T34]
  refine Ev.bind1 hsat ?_
  exact Ev.now _
def optN : Option Int → Int × Bool
  | some j => (j, true)
  | none => (0, false)
theorem unhappy_ev {c : List S34} (hc : Light c) {x : Nat} (hx : x < 1024) (hd : Sub x (decl c)) : Ev (fun k => closure_unhappy.f k c (x : Int)) (optN (unh c x)) := by
  simp only [closure_unhappy.f]
  refine Ev.bind1 (Nodes_ev hx) ?_
  have hl := nodesL_len x
  refine Ev.fold (xs := nodesL x) (L := fun (a : Unit) i k => closure_unhappy.l0 k (x : Int) (nodesL x) ((nodesL x).length : Int) i c) (by omega) (fun pre ys a => (ys.find? fun j => !(sat x (c.getD j.toNat z34).f1)) = unh c x) ?_ ?_ () rfl
  · intro a i hI hi
    rw [List.find?_nil] at hI
    (refine Ev.shift ?_; simp only [closure_unhappy.l0, hi, Option.bind_some, ↓reduceIte, Bool.false_eq_true, reduceCtorEq, decide_eq_true_eq, Go.Proofs.YtkjlcbfjllpcnaaW.PrintWords.rd, rd_T32, rd_T34])
    rw [← hI]
    exact Ev.now _
  · intro pre y ys a i e hI hi h0 hlt hw hrd
    obtain ⟨j, rfl, h10, hj⟩ := inS_iff.1 (nodesL_mem.1 (show y ∈ nodesL x by rw [e]; simp))
    have hcon := content_ev hc hx (decl_len (hd j hj))
    rw [List.find?_cons, Int.toNat_natCast] at hI
    cases hs : sat x (c.getD j z34).f1
    · refine Or.inr ?_
      rw [hs] at hI
      simp only [Bool.not_false] at hI
      rw [← hI]
      (refine Ev.shift ?_; simp only [closure_unhappy.l0, h0, hlt, hw, hrd, Option.bind_some, ↓reduceIte, Bool.false_eq_true, reduceCtorEq, decide_eq_true_eq, Go.Proofs.YtkjlcbfjllpcnaaW.PrintWords.rd, rd_T32, rd_T34])
      refine Ev.bind1 hcon ?_
      rw [hs]
      exact Ev.now _
    · rw [hs] at hI
      simp only [Bool.not_true] at hI
      refine Or.inl ⟨(), hI, fun k => ?_⟩
      (refine Ev.shift ?_; simp only [closure_unhappy.l0, h0, hlt, hw, hrd, Option.bind_some, ↓reduceIte, Bool.false_eq_true, reduceCtorEq, decide_eq_true_eq, Go.Proofs.YtkjlcbfjllpcnaaW.PrintWords.rd, rd_T32, rd_T34])
      refine Ev.bind1 hcon ?_
      rw [hs]
      exact k
theorem quo_unh {c : List S34} {x : Nat} (hx : x < 1024) (h0 : x ≠ 0) (hd : Sub x (decl c)) : quo c x = !(optN (unh c x)).2 := by
  cases hu : unh c x with
  | none => exact (quo_iff hx).2 ⟨h0, hd, (unh_none hx).1 hu⟩
  | some j =>
    obtain ⟨i, rfl, h10, hi, hs⟩ := unh_some hu
    cases hq : quo c x
    · rfl
    · rw [quo_sat hx hq hi] at hs; cases hs
theorem Quorum_ev {c : List S34} (hc : Light c) {x : Nat} (hx : x < 1024) : Ev (fun k => closure_Quorum.f k c (x : Int)) (quo c x) := by
  simp only [closure_Quorum.f, Valid_eq, vld_nat hx, Option.bind_some, ↓reduceIte, Bool.false_eq_true, reduceCtorEq, decide_eq_true_eq, Go.Proofs.YtkjlcbfjllpcnaaW.PrintWords.rd, rd_T32, rd_T34]
  by_cases h0 : x = 0
  · have h1 : (x : Int) = 0 := by omega
    simp only [h1, Option.bind_some, ↓reduceIte, Bool.false_eq_true, reduceCtorEq, decide_eq_true_eq, Go.Proofs.YtkjlcbfjllpcnaaW.PrintWords.rd, rd_T32, rd_T34]
    have : quo c x = false := by unfold quo; simp [h0]
    rw [this]
    exact Ev.now _
  have h1 : ¬ (x : Int) = 0 := by omega
  simp only [h1, closure_inside.f, Option.bind_some, ↓reduceIte, Bool.false_eq_true, reduceCtorEq, decide_eq_true_eq, Go.Proofs.YtkjlcbfjllpcnaaW.PrintWords.rd, rd_T32, rd_T34]
  have hD := Declared_ev hc.1
  have hin : Ev (fun k => (configuration_Declared.f k c).bind fun t => some (Go.bits .andNot .i64 (x : Int) t == 0)) (dif x (decl c) == 0) := by
    refine Ev.bind1 hD ?_
    have hdl := decl_lt c
    rw [andNot_nat (by omega) (by omega)]
    have : (((dif x (decl c) : Nat) : Int) == 0) = (dif x (decl c) == 0) := by
      by_cases h : dif x (decl c) = 0
      · rw [h]; rfl
      · have h2 : ¬ ((dif x (decl c) : Nat) : Int) = 0 := by omega
        rw [beq_eq_false_iff_ne.2 h, beq_eq_false_iff_ne.2 h2]
    rw [this]
    exact Ev.now _
  refine Ev.bind1 hin ?_
  by_cases h : Sub x (decl c)
  · rw [sub_dif.2 h]
    simp only [beq_self_eq_true, if_true]
    refine Ev.bind1 (unhappy_ev hc hx h) ?_
    rw [quo_unh hx h0 h]
    exact Ev.now _
  · have h2 : (dif x (decl c) == 0) = false := beq_eq_false_iff_ne.2 fun e => h (sub_dif.1 e)
    rw [h2]
    simp only [Bool.false_eq_true, if_false]
    have : quo c x = false := by
      cases hq : quo c x
      · rfl
      · exact absurd ((quo_iff hx).1 hq).2.1 h
    rw [this]
    exact Ev.now _
def fwd (c : List S34) (j : Int) : Nat := uses (c.getD j.toNat z34).f1 &&& decl c
def stp (c : List S34) (s : Nat) : Nat := (nodesL s).foldl (fun a j => a ||| fwd c j) s
def rchF (c : List S34) : Nat → Nat → Nat
  | 0, s => s
  | n + 1, s => if stp c s = s then s else rchF c n (stp c s)
def rch (c : List S34) (k : Nat) : Nat := rchF c 11 (2 ^ k)
def prt (c : List S34) (k : Nat) : Nat := (nodesL (rch c k)).foldl (fun a n => a ||| if (rch c n.toNat).testBit k = true then 2 ^ n.toNat else 0) 0
structure PInv (c : List S34) (n : Nat) (o : List Int × Nat) : Prop where
  form : ∀ x ∈ o.1, ∃ k, (decl c).testBit k = true ∧ x = (prt c k : Int)
  done : ∀ i, o.2.testBit i = true ↔ ∃ x ∈ o.1, x.toNat.testBit i = true
  apart : o.1.Pairwise fun x y => x.toNat &&& y.toNat = 0
  all : ∀ j, j < n → (decl c).testBit j = true → o.2.testBit j = true
  lt : o.2 < 1024
  len : o.1.length ≤ n
end Go.Proofs.Ytkjlcbfjllpcnaa.X
namespace Go.Proofs.Ytkjlcbfjllpcnaa.X
open Go.RowKit Go.Proofs.YtkjlcbfjllpcnaaW.PrintWords Go.Proofs.YtkjlcbfjllpcnaaW.PrintLast Go.Proofs.YtkjlcbfjllpcnaaW.PrintMore
attribute [local go_sem] max2_int min2_int max_two min_two max_three min_three max_four min_four
set_option linter.unusedVariables false
set_option linter.unusedSimpArgs false
end Go.Proofs.Ytkjlcbfjllpcnaa.X
namespace Go.Proofs.Ytkjlcbfjllpcnaa.X
open Go.RowKit Go.Proofs.YtkjlcbfjllpcnaaW.PrintWords Go.Proofs.YtkjlcbfjllpcnaaW.PrintLast Go.Proofs.YtkjlcbfjllpcnaaW.PrintMore
set_option linter.unusedVariables false
def memS (n : Nat) (t : Int) : S34 := ⟨true, ⟨t, (List.range n).map Int.ofNat, []⟩⟩
def sameC (n : Nat) (t : Int) : List S34 := List.replicate n (memS n t)
end Go.Proofs.Ytkjlcbfjllpcnaa.X
namespace Go.Proofs.Ytkjlcbfjllpcnaa.X
open Go.RowKit Go.Proofs.YtkjlcbfjllpcnaaW.PrintWords Go.Proofs.YtkjlcbfjllpcnaaW.PrintLast Go.Proofs.YtkjlcbfjllpcnaaW.PrintMore
attribute [local go_sem] max2_int min2_int max_two min_two max_three min_three max_four min_four
set_option linter.unusedVariables false
set_option linter.unusedSimpArgs false
end Go.Proofs.Ytkjlcbfjllpcnaa.X
namespace Go.Proofs.Ytkjlcbfjllpcnaa.X
open Go.RowKit Go.Proofs.YtkjlcbfjllpcnaaW.PrintWords Go.Proofs.YtkjlcbfjllpcnaaW.PrintLast Go.Proofs.YtkjlcbfjllpcnaaW.PrintMore
set_option linter.unusedVariables false
def repC (n : Nat) (x : S32) : List S34 := List.replicate n ⟨true, x⟩
theorem repC_get {n : Nat} {x : S32} {i : Nat} (hi : i < n) : (repC n x).getD i z34 = ⟨true, x⟩ := by
  unfold repC
  rw [List.getD_eq_getElem?_getD, List.getElem?_replicate, if_pos hi]
  rfl
theorem repC_decl {n : Nat} {x : S32} (hn : n ≤ 10) : decl (repC n x) = 2 ^ n - 1 := eq_bits fun i => by
  rw [decl_bit, full_bit]
  by_cases hi : i < n
  · rw [repC_get hi]
    have : i < 10 := by omega
    simp [hi, this]
  · have : (repC n x).getD i z34 = z34 := by
      unfold repC
      rw [List.getD_eq_getElem?_getD, List.getElem?_replicate, if_neg hi]
      rfl
    rw [this]
    simp [hi]
    intro _; rfl
mutual
theorem sat_zero : ∀ (t : S32), chk t = 0 → sat 0 t = false
  | ⟨n, l, ts⟩ => by
    intro h
    rw [chk] at h
    rw [sat, decide_eq_false_iff_not]
    split at h
    · cases h
    rename_i h1
    split at h
    · cases h
    split at h
    · have h2 := satC_zero ts h
      have h3 : l.countP (fun x => inS 0 x) = 0 := by
        rw [List.countP_eq_zero]
        intro x _ hx
        unfold inS at hx
        simp at hx
      rw [h2, h3]
      omega
    · rename_i h4; exact absurd h h4
theorem satC_zero : ∀ (l : List S32), chkL l = 0 → satC 0 l = 0
  | [], _ => by rw [satC]
  | t :: ts, h => by
    rw [chkL] at h
    rw [satC]
    split at h
    · rename_i h1
      rw [sat_zero t h1, satC_zero ts h]
      simp
    · rename_i h1; exact absurd h h1
end
theorem validT_chk {t : S32} (h : validT t = 0) : chk t = 0 := by
  unfold validT at h
  split at h
  · cases h
  split at h
  · cases h
  exact h
theorem quo_rep {n : Nat} {x : S32} (hn : n ≤ 10) (hx : chk x = 0) {z : Nat} (hz : z < 2 ^ n) : quo (repC n x) z = sat z x := by
  have hp := pow10 hn
  have hz10 : z < 1024 := by omega
  have hget : ∀ i, z.testBit i = true → (repC n x).getD i z34 = ⟨true, x⟩ := fun i hi => repC_get (by
    rcases Nat.lt_or_ge i n with h | h
    · exact h
    · rw [bit_lt hz h] at hi; cases hi)
  have hsub : Sub z (decl (repC n x)) := fun i hi => by
    rw [repC_decl hn, full_bit]
    rcases Nat.lt_or_ge i n with h | h
    · simpa using h
    · rw [bit_lt hz h] at hi; cases hi
  cases hs : sat z x
  · cases hq : quo (repC n x) z
    · rfl
    · have hh := (quo_iff hz10).1 hq
      obtain ⟨i, hi⟩ : ∃ i, z.testBit i = true := by
        apply Classical.byContradiction
        intro hno
        refine hh.1 (eq_bits fun i => ?_)
        rw [Nat.zero_testBit]
        cases hb : z.testBit i
        · rfl
        · exact absurd ⟨i, hb⟩ hno
      have := hh.2.2 i hi
      rw [hget i hi, hs] at this
      cases this
  · refine (quo_iff hz10).2 ⟨fun e => ?_, hsub, fun i hi => by rw [hget i hi]; exact hs⟩
    rw [e, sat_zero x hx] at hs
    cases hs
mutual
def lv (s : Nat) : S32 → S32
  | ⟨n, l, ts⟩ => ⟨max (max n 0 - ((l.countP (fun x => inS s x) + lvC s ts : Nat) : Int)) 0, l.filter (fun x => !inS s x), lvI s ts⟩
def lvI (s : Nat) : List S32 → List S32
  | [] => []
  | t :: ts => if (lv s t).f0 = 0 then lvI s ts else lv s t :: lvI s ts
def lvC (s : Nat) : List S32 → Nat
  | [] => 0
  | t :: ts => (if (lv s t).f0 = 0 then 1 else 0) + lvC s ts
end
theorem lv_eq (s : Nat) (t : S32) : lv s t = ⟨max (max t.f0 0 - ((t.f1.countP (fun x => inS s x) + lvC s t.f2 : Nat) : Int)) 0, t.f1.filter (fun x => !inS s x), lvI s t.f2⟩ := by cases t; rw [lv]
theorem inS_or (x s : Nat) (k : Int) : inS (x ||| s) k = (inS x k || inS s k) := by
  unfold inS
  rw [or_bit]
  cases decide (0 ≤ k) <;> cases decide (k < 10) <;> simp
theorem countP_or (x s : Nat) : ∀ l : List Int, l.countP (fun k => inS (x ||| s) k) = l.countP (fun k => inS s k) + (l.filter (fun k => !inS s k)).countP (fun k => inS x k)
  | [] => rfl
  | k :: ks => by
    have ih := countP_or x s ks
    rw [List.countP_cons, List.countP_cons, List.filter_cons, ih, inS_or]
    cases hs : inS s k <;> cases hx : inS x k <;> simp [hx] <;> omega
mutual
theorem lv_zero (s : Nat) : ∀ t : S32, (lv s t).f0 = 0 ↔ sat s t = true
  | ⟨n, l, ts⟩ => by
    have h := lvC_sat s ts
    rw [lv, sat, decide_eq_true_eq, h]
    simp only
    omega
theorem lvC_sat (s : Nat) : ∀ ts : List S32, lvC s ts = satC s ts
  | [] => by rw [lvC, satC]
  | t :: ts => by
    rw [lvC, satC, lvC_sat s ts]
    by_cases h : sat s t = true
    · rw [if_pos h, if_pos ((lv_zero s t).2 h)]
    · rw [if_neg h, if_neg (fun e => h ((lv_zero s t).1 e))]
end
mutual
theorem lv_sat (s x : Nat) : ∀ t : S32, sat x (lv s t) = sat (x ||| s) t
  | ⟨n, l, ts⟩ => by
    have h1 := countP_or x s l
    have h2 := lvI_sat s x ts
    rw [lv, sat, sat, h1, h2]
    simp only [decide_eq_decide]
    omega
theorem lvI_sat (s x : Nat) : ∀ ts : List S32, satC (x ||| s) ts = lvC s ts + satC x (lvI s ts)
  | [] => by rw [satC, lvC, lvI, satC]
  | t :: ts => by
    have ih := lvI_sat s x ts
    have it := lv_sat s x t
    rw [satC, lvC, lvI, ih]
    by_cases h : (lv s t).f0 = 0
    · have h3 : sat (x ||| s) t = true := sat_mono (Sub.orr x s) _ ((lv_zero s t).1 h)
      rw [if_pos h, if_pos h, if_pos h3]
      omega
    · rw [if_neg h, if_neg h, satC, it]
      omega
end
def delT (s : Nat) (j : Int) (t : S32) : S32 := if (lv s t).f0 = 0 then ⟨1, [j], []⟩ else lv s t
theorem delT_sat {s x j : Nat} (h10 : j < 10) (hj : x.testBit j = true) (t : S32) : sat x (delT s (j : Int) t) = sat (x ||| s) t := by
  unfold delT
  split
  · rename_i h
    rw [sat_mono (Sub.orr x s) _ ((lv_zero s t).1 h), sat, satC]
    simp [inS_nat x j h10, hj]
  · exact lv_sat s x t
mutual
theorem lv_wt (s : Nat) : ∀ t : S32, wt (lv s t) ≤ wt t
  | ⟨n, l, ts⟩ => by
    have h1 := List.length_filter_le (fun x => !inS s x) l
    have h2 := lvI_wt s ts
    rw [lv, wt, wt]
    omega
theorem lvI_wt (s : Nat) : ∀ ts : List S32, wtL (lvI s ts) ≤ wtL ts
  | [] => by rw [lvI]; exact Nat.le_refl _
  | t :: ts => by
    have h1 := lv_wt s t
    have h2 := lvI_wt s ts
    rw [lvI]
    split
    · rw [wtL]; omega
    · rw [wtL, wtL]; omega
end
mutual
theorem lv_dep (s : Nat) : ∀ t : S32, dep (lv s t) ≤ dep t
  | ⟨n, l, ts⟩ => by
    have h2 := lvI_dep s ts
    rw [lv, dep, dep]
    omega
theorem lvI_dep (s : Nat) : ∀ ts : List S32, depL (lvI s ts) ≤ depL ts
  | [] => by rw [lvI]; exact Nat.le_refl _
  | t :: ts => by
    have h1 := lv_dep s t
    have h2 := lvI_dep s ts
    rw [lvI]
    split
    · rw [depL]; omega
    · rw [depL, depL]; omega
end
mutual
theorem lv_siz (s : Nat) : ∀ t : S32, siz (lv s t) ≤ siz t
  | ⟨n, l, ts⟩ => by
    have h1 := List.length_filter_le (fun x => !inS s x) l
    have h2 := lvI_siz s ts
    rw [lv, siz, siz]
    omega
theorem lvI_siz (s : Nat) : ∀ ts : List S32, (lvI s ts).length + sizL (lvI s ts) ≤ ts.length + sizL ts
  | [] => by rw [lvI]; exact Nat.le_refl _
  | t :: ts => by
    have h1 := lv_siz s t
    have h2 := lvI_siz s ts
    rw [lvI]
    split
    · rw [sizL, List.length_cons]; omega
    · rw [sizL, sizL, List.length_cons, List.length_cons]; omega
end
theorem foldU_mono {p : Int → Bool} : ∀ (l : List Int) (a b : Nat), Sub a b → Sub (foldU (l.filter p) a) (foldU l b)
  | [], a, b, h => h
  | x :: xs, a, b, h => by
    rw [List.filter_cons]
    have h1 : ∀ c : Nat, foldU (x :: xs) c = foldU xs (if noNode x = true then c else c ||| 2 ^ x.toNat) := fun _ => rfl
    split
    · have h2 : foldU (x :: xs.filter p) a = foldU (xs.filter p) (if noNode x = true then a else a ||| 2 ^ x.toNat) := rfl
      rw [h1, h2]
      refine foldU_mono xs _ _ ?_
      split
      · exact h
      · exact Sub.or (h.trans (Sub.orl _ _)) (Sub.orr _ _)
    · rw [h1]
      refine foldU_mono xs _ _ (h.trans ?_)
      split
      · exact Sub.refl _
      · exact Sub.orl _ _
mutual
theorem lv_uses (s : Nat) : ∀ t : S32, Sub (uses (lv s t)) (uses t)
  | ⟨n, l, ts⟩ => by
    have h2 := lvI_uses s ts
    have h1 := foldU_mono (p := fun x => !inS s x) l 0 0 (Sub.refl _)
    rw [lv, uses, uses]
    exact Sub.or (h1.trans (Sub.orl _ _)) (h2.trans (Sub.orr _ _))
theorem lvI_uses (s : Nat) : ∀ ts : List S32, Sub (useL (lvI s ts)) (useL ts)
  | [] => by rw [lvI]; exact Sub.refl _
  | t :: ts => by
    have h1 := lv_uses s t
    have h2 := lvI_uses s ts
    rw [lvI]
    split
    · rw [useL]; exact h2.trans (Sub.orr _ _)
    · rw [useL, useL]; exact Sub.or (h1.trans (Sub.orl _ _)) (h2.trans (Sub.orr _ _))
end
theorem ofS_filter {p : Int → Bool} : ∀ (l : List Int) (a b : Nat), Sub b a → (ofS a l).2 = 0 → (ofS b (l.filter p)).2 = 0
  | [], a, b, _, _ => rfl
  | x :: xs, a, b, hs, h => by
    rw [ofS] at h
    split at h
    · cases h
    rename_i h1
    split at h
    · cases h
    rename_i h2
    rw [List.filter_cons]
    split
    · rw [ofS, if_neg h1, if_neg (fun e => h2 (inS_mono hs e))]
      exact ofS_filter xs _ _ (Sub.or (hs.trans (Sub.orl _ _)) (Sub.orr _ _)) h
    · exact ofS_filter xs _ _ (hs.trans (Sub.orl _ _)) h
theorem any_filter {p q : Int → Bool} {l : List Int} (h : ¬ l.any q = true) : ¬ (l.filter p).any q = true := by
  intro hh
  obtain ⟨x, hx, hq⟩ := List.any_eq_true.1 hh
  exact h (List.any_eq_true.2 ⟨x, (List.mem_filter.1 hx).1, hq⟩)
theorem count_len (s : Nat) (l : List Int) : l.length = l.countP (fun x => inS s x) + (l.filter (fun x => !inS s x)).length := by
  induction l with
  | nil => rfl
  | cons x xs ih =>
    rw [List.length_cons, List.countP_cons, List.filter_cons, ih]
    cases inS s x <;> simp <;> omega
theorem lvI_len (s : Nat) : ∀ ts : List S32, ts.length = lvC s ts + (lvI s ts).length
  | [] => by rw [lvC, lvI]; rfl
  | t :: ts => by
    have := lvI_len s ts
    rw [lvC, lvI]
    split <;> simp <;> omega
mutual
theorem lv_chk (s : Nat) : ∀ t : S32, chk t = 0 → (lv s t).f0 ≠ 0 → chk (lv s t) = 0
  | ⟨n, l, ts⟩ => by
    intro h h0
    rw [chk] at h
    split at h
    · cases h
    rename_i h1
    split at h
    · cases h
    rename_i h2
    split at h
    case isFalse hh => exact absurd h hh
    rename_i h3
    have h4 := lvI_chk s ts h
    have h5 := ofS_filter (p := fun x => !inS s x) l 0 0 (Sub.refl _) h3
    have h6 := count_len s l
    have h7 := lvI_len s ts
    rw [lv] at h0 ⊢
    simp only at h0
    rw [chk, if_neg (by omega), if_neg (any_filter h2), if_pos h5]
    exact h4
theorem lvI_chk (s : Nat) : ∀ ts : List S32, chkL ts = 0 → chkL (lvI s ts) = 0
  | [], _ => by rw [lvI, chkL]
  | t :: ts, h => by
    rw [chkL] at h
    split at h
    case isFalse hh => exact absurd h hh
    rename_i h1
    have h2 := lvI_chk s ts h
    rw [lvI]
    split
    · exact h2
    · rename_i h3
      rw [chkL, if_pos (lv_chk s t h1 h3)]
      exact h2
end
theorem delT_ok {n : Nat} (hn : n ≤ 10) {s j : Nat} (hj : j < n) {t : S32} (h : Okt n t) : Okt n (delT s (j : Int) t) := by
  unfold delT
  split
  · exact one_ok (by omega) (by omega) hn
  · rename_i h0
    have hv := h.1
    have h1 := lv_dep s t
    have h2 := lv_siz s t
    have h3 := lv_chk s t (validT_chk hv) h0
    refine ⟨?_, Nat.le_trans (lv_wt s t) h.2.1, ?_⟩
    · unfold validT at hv
      split at hv
      · cases hv
      split at hv
      · cases hv
      unfold validT
      rw [if_neg (by omega), if_neg (by omega)]
      exact h3
    · exact Nat.lt_of_le_of_lt (lv_uses s t).le h.2.2
def delM (s : Nat) (j : Nat) (m : S34) : S34 := if inS s (j : Int) = true then ⟨false, ⟨0, [], []⟩⟩ else if m.f0 = true then ⟨true, delT s (j : Int) m.f1⟩ else ⟨false, ⟨m.f1.f0, [], []⟩⟩
def delF (s : Nat) : Nat → List S34 → List S34
  | _, [] => []
  | j, m :: ms => delM s j m :: delF s (j + 1) ms
def delC (c : List S34) (s : Nat) : List S34 := delF s 0 c
theorem delF_len (s : Nat) : ∀ (c : List S34) (j : Nat), (delF s j c).length = c.length
  | [], _ => rfl
  | m :: ms, j => by rw [delF, List.length_cons, List.length_cons, delF_len s ms]
theorem delC_len (c : List S34) (s : Nat) : (delC c s).length = c.length := delF_len s c 0
theorem delF_get (s : Nat) : ∀ (c : List S34) (j i : Nat), i < c.length → (delF s j c).getD i z34 = delM s (j + i) (c.getD i z34)
  | [], _, _, h => absurd h (by simp)
  | m :: ms, j, 0, _ => rfl
  | m :: ms, j, i + 1, h => by
    rw [delF, List.getD_cons_succ, List.getD_cons_succ, delF_get s ms (j + 1) i (by simpa using h), Nat.add_right_comm, Nat.add_assoc]
theorem delC_get {c : List S34} {s i : Nat} (h : i < c.length) : (delC c s).getD i z34 = delM s i (c.getD i z34) := by
  unfold delC
  rw [delF_get s c 0 i h, Nat.zero_add]
theorem delC_decl {c : List S34} {s : Nat} (hs : s < 1024) : decl (delC c s) = dif (decl c) s := eq_bits fun i => by
  rw [dif_bit, decl_bit, decl_bit]
  by_cases h10 : i < 10
  · by_cases hi : i < c.length
    · rw [delC_get hi]
      unfold delM
      rw [inS_nat s i h10]
      cases s.testBit i <;> cases hf : (c.getD i z34).f0 <;> simp [h10]
    · have e1 : (delC c s).getD i z34 = z34 := by rw [List.getD_eq_getElem?_getD, List.getElem?_eq_none (by rw [delC_len]; omega)]; rfl
      have e2 : c.getD i z34 = z34 := by rw [List.getD_eq_getElem?_getD, List.getElem?_eq_none (by omega)]; rfl
      rw [e1, e2]
      simp [z34]
  · simp [h10]
theorem delC_ok {c : List S34} (hc : OkC c) (s : Nat) : OkC (delC c s) := by
  have hl := delC_len c s
  refine ⟨by rw [hl]; exact hc.1, by rw [hl]; exact hc.2.1, fun m hm => ?_⟩
  rw [hl]
  obtain ⟨i, hi, rfl⟩ := List.getElem_of_mem hm
  rw [hl] at hi
  have e : (delC c s)[i] = delM s i (c.getD i z34) := by
    rw [← delC_get hi, List.getD_eq_getElem?_getD, List.getElem?_eq_getElem (by rw [hl]; exact hi)]
    rfl
  rw [e]
  have ho := hc.2.2 _ (getD_mem' z34 hi)
  unfold delM OkM
  unfold OkM at ho
  split
  · rfl
  · by_cases hf : (c.getD i z34).f0 = true
    · rw [if_pos hf] at ho ⊢
      exact delT_ok hc.2.1 hi ho
    · rw [if_neg hf] at ho ⊢
      rw [ho]
      rfl
theorem quo_del {c : List S34} {s q : Nat} (hs : s < 1024) (hq : q < 1024) : quo (delC c s) q = true ↔ q ≠ 0 ∧ Sub q (dif (decl c) s) ∧ ∀ i, q.testBit i = true → sat (q ||| s) (c.getD i z34).f1 = true := by
  rw [quo_iff hq, delC_decl hs]
  constructor
  · rintro ⟨h1, h2, h3⟩
    refine ⟨h1, h2, fun i hi => ?_⟩
    have hd := h2 i hi
    rw [dif_bit, Bool.and_eq_true] at hd
    have hil := decl_len hd.1
    have h10 := bit10 hq hi
    have h4 := h3 i hi
    have hf : (c.getD i z34).f0 = true := by rw [decl_bit, Bool.and_eq_true] at hd; exact hd.1.2
    rw [delC_get hil, delM, inS_nat s i h10, if_neg (by simpa using hd.2), if_pos hf] at h4
    rwa [← delT_sat h10 hi]
  · rintro ⟨h1, h2, h3⟩
    refine ⟨h1, h2, fun i hi => ?_⟩
    have hd := h2 i hi
    rw [dif_bit, Bool.and_eq_true] at hd
    have hil := decl_len hd.1
    have h10 := bit10 hq hi
    have hf : (c.getD i z34).f0 = true := by rw [decl_bit, Bool.and_eq_true] at hd; exact hd.1.2
    rw [delC_get hil, delM, inS_nat s i h10, if_neg (by simpa using hd.2), if_pos hf]
    rw [delT_sat h10 hi]
    exact h3 i hi
theorem eta32 (t : S32) : (⟨t.f0, t.f1, t.f2⟩ : S32) = t := by cases t; rfl
theorem mx_max (a b : Int) : mx a b = max a b := by unfold mx; split <;> omega
theorem lowered_eq {t : Int} (h0 : 0 ≤ t) (h1 : t ≤ 1000000000) : deletion_lowered.f t 1 = some (max t 1 - 1) := by
  unfold deletion_lowered.f
  rw [mx_max, w64 (by omega) (by omega)]
theorem chkL_mem : ∀ {l : List S32} {t : S32}, t ∈ l → chkL l = 0 → chk t = 0
  | x :: xs, t, h, hc => by
    rw [chkL] at hc
    split at hc
    case isFalse hh => exact absurd hc hh
    rename_i h1
    rcases List.mem_cons.1 h with rfl | h
    · exact h1
    · exact chkL_mem h hc
theorem chk_inner {t : S32} (h : chk t = 0) : chkL t.f2 = 0 ∧ 1 ≤ t.f0 ∧ t.f0 ≤ ((t.f1.length + t.f2.length : Nat) : Int) := by
  rw [chk_eq] at h
  split at h
  · cases h
  rename_i h1
  split at h
  · cases h
  split at h
  case isFalse hh => exact absurd h hh
  exact ⟨h, by omega, by omega⟩
theorem level_l1 {s : Nat} (n0 : Int) (xs : List S32) (hx : xs.length < 1000000)
    (h : ∀ y ∈ xs, Ev (fun k => deletion_level.f k y.f0 y.f1 y.f2 (s : Int)) ((lv s y).f0, (lv s y).f1, (lv s y).f2)) (l' : List Int) (T : Int) (t0 : Int) (h0 : 0 ≤ t0) (h1 : t0 ≤ 1000000000) (hT : max (t0 - (lvC s xs : Nat)) 0 = T) :
    Ev (fun k => deletion_level.l1 k (s : Int) xs (xs.length : Int) 0 t0 l' ([] : List S32)) (T, l', lvI s xs) := by
  refine Ev.fold (L := fun (c : Int × List S32) i k => deletion_level.l1 k (s : Int) xs (xs.length : Int) i c.1 l' c.2) (by omega) (fun pre ys c => 0 ≤ c.1 ∧ c.1 ≤ 1000000000 ∧ max (c.1 - (lvC s ys : Nat)) 0 = T ∧ c.2 ++ lvI s ys = lvI s xs ∧ c.2.length ≤ pre.length) ?_ ?_ (t0, []) ⟨h0, h1, hT, rfl, Nat.le_refl _⟩
  · rintro ⟨t, o⟩ i ⟨i0, i1, i2, i3, i4⟩ hi
    simp only at i0 i1 i2 i3 i4 ⊢
    rw [lvC] at i2
    rw [lvI, List.append_nil] at i3
    (refine Ev.shift ?_; simp only [deletion_level.l1, hi, Option.bind_some, ↓reduceIte, Bool.false_eq_true, reduceCtorEq, decide_eq_true_eq, Go.Proofs.YtkjlcbfjllpcnaaW.PrintWords.rd, rd_T32, rd_T34])
    have : t = T := by omega
    rw [this, i3]
    exact Ev.now _
  · rintro pre y ys ⟨t, o⟩ i e ⟨i0, i1, i2, i3, i4⟩ hi h0 hlt hw hrd
    simp only at i0 i1 i2 i3 i4 ⊢
    rw [lvC] at i2
    rw [lvI] at i3
    have hy := h y (by rw [e]; simp)
    by_cases hz : (lv s y).f0 = 0
    · rw [if_pos hz] at i2 i3
      refine Or.inl ⟨(max t 1 - 1, o), ⟨by simp only; omega, by simp only; omega, by simp only; omega, i3, by simp; omega⟩, fun k => ?_⟩
      (refine Ev.shift ?_; simp only [deletion_level.l1, h0, hlt, hw, hrd, Option.bind_some, ↓reduceIte, Bool.false_eq_true, reduceCtorEq, decide_eq_true_eq, Go.Proofs.YtkjlcbfjllpcnaaW.PrintWords.rd, rd_T32, rd_T34])
      refine Ev.bind1 hy ?_
      simp only [hz, if_true, lowered_eq i0 i1, Option.bind_some]
      exact k
    · rw [if_neg hz] at i2 i3
      have hol : o.length < 2513169434916 := by
        have : pre.length < xs.length := by omega
        omega
      refine Or.inl ⟨(t, o ++ [lv s y]), ⟨i0, i1, by simp only; omega, by rw [List.append_assoc]; exact i3, by simp; omega⟩, fun k => ?_⟩
      (refine Ev.shift ?_; simp only [deletion_level.l1, h0, hlt, hw, hrd, Option.bind_some, ↓reduceIte, Bool.false_eq_true, reduceCtorEq, decide_eq_true_eq, Go.Proofs.YtkjlcbfjllpcnaaW.PrintWords.rd, rd_T32, rd_T34])
      refine Ev.bind1 hy ?_
      simp only [hz, if_false, hol, if_true, eta32]
      exact k
theorem dlevel_ev {s : Nat} (hs : s < 1024) : ∀ (m : Nat) (t : S32), wt t < m → m ≤ 1000000 → chk t = 0 → Ev (fun k => deletion_level.f k t.f0 t.f1 t.f2 (s : Int)) ((lv s t).f0, (lv s t).f1, (lv s t).f2)
  | 0, t, h, _, _ => absurd h (by omega)
  | m + 1, t, h, hm, hc => by
    obtain ⟨hci, hf1, hf2⟩ := chk_inner hc
    rw [wt_eq] at h
    have hl := len_wtL t.f2
    rw [lv_eq]
    simp only
    have hin : ∀ y ∈ t.f2, Ev (fun k => deletion_level.f k y.f0 y.f1 y.f2 (s : Int)) ((lv s y).f0, (lv s y).f1, (lv s y).f2) := fun y hy => dlevel_ev hs m y (by have := wt_mem hy; omega) (by omega) (chkL_mem hy hci)
    have hcl := lvI_len s t.f2
    (refine Ev.shift ?_; simp only [deletion_level.f, mx_max, Option.bind_some, ↓reduceIte, Bool.false_eq_true, reduceCtorEq, decide_eq_true_eq, Go.Proofs.YtkjlcbfjllpcnaaW.PrintWords.rd, rd_T32, rd_T34])
    refine Ev.fold (xs := t.f1) (L := fun (c : Int × List Int) i k => deletion_level.l0 k (s : Int) t.f1 (t.f1.length : Int) i t.f0 t.f1 t.f2 c.1 c.2) (by omega) (fun pre ys c => 0 ≤ c.1 ∧ c.1 ≤ 1000000000 ∧ max (c.1 - (ys.countP (fun x => inS s x) : Nat)) 0 = max (max t.f0 0 - (t.f1.countP (fun x => inS s x) : Nat)) 0 ∧ c.2 ++ ys.filter (fun x => !inS s x) = t.f1.filter (fun x => !inS s x) ∧ c.2.length ≤ pre.length) ?_ ?_ (max t.f0 0, []) ⟨by simp only; omega, by simp only; omega, rfl, rfl, Nat.le_refl _⟩
    · rintro ⟨t', o⟩ i ⟨i0, i1, i2, i3, i4⟩ hi
      simp only at i0 i1 i2 i3 i4 ⊢
      rw [List.countP_nil] at i2
      rw [List.filter_nil, List.append_nil] at i3
      (refine Ev.shift ?_; simp only [deletion_level.l0, hi, Option.bind_some, ↓reduceIte, Bool.false_eq_true, reduceCtorEq, decide_eq_true_eq, Go.Proofs.YtkjlcbfjllpcnaaW.PrintWords.rd, rd_T32, rd_T34])
      rw [i3]
      refine level_l1 t.f0 t.f2 (by omega) hin _ _ t' i0 i1 ?_
      omega
    · rintro pre y ys ⟨t', o⟩ i e ⟨i0, i1, i2, i3, i4⟩ hi h0 hlt hw hrd
      simp only at i0 i1 i2 i3 i4 ⊢
      rw [List.countP_cons] at i2
      rw [List.filter_cons] at i3
      cases hin : inS s y
      · rw [hin] at i2 i3
        simp only [Bool.not_false, if_true, Bool.false_eq_true, if_false] at i2 i3
        have hol : o.length < 17592186044416 := by
          have : pre.length < t.f1.length := by omega
          omega
        refine Or.inl ⟨(t', o ++ [y]), ⟨i0, i1, i2, by rw [List.append_assoc]; exact i3, by simp; omega⟩, fun k => ?_⟩
        (refine Ev.shift ?_; simp only [deletion_level.l0, h0, hlt, hw, hrd, Has_eq hs, hin, hol, Option.bind_some, ↓reduceIte, Bool.false_eq_true, reduceCtorEq, decide_eq_true_eq, Go.Proofs.YtkjlcbfjllpcnaaW.PrintWords.rd, rd_T32, rd_T34])
        exact k
      · rw [hin] at i2 i3
        simp only [Bool.not_true, Bool.false_eq_true, if_false, if_true] at i2 i3
        refine Or.inl ⟨(max t' 1 - 1, o), ⟨by simp only; omega, by simp only; omega, by simp only; omega, i3, by simp; omega⟩, fun k => ?_⟩
        (refine Ev.shift ?_; simp only [deletion_level.l0, h0, hlt, hw, hrd, Has_eq hs, hin, lowered_eq i0 i1, Option.bind_some, ↓reduceIte, Bool.false_eq_true, reduceCtorEq, decide_eq_true_eq, Go.Proofs.YtkjlcbfjllpcnaaW.PrintWords.rd, rd_T32, rd_T34])
        exact k
theorem DTrust_ev {s : Nat} (hs : s < 1024) (j : Int) (t : S32) (h : wt t < 1000000) (hc : chk t = 0) : Ev (fun k => deletion_Trust.f k t.f0 t.f1 t.f2 j (s : Int)) ((delT s j t).f0, (delT s j t).f1, (delT s j t).f2) := by
  simp only [deletion_Trust.f, Valid_eq, vld_nat hs, Option.bind_some, ↓reduceIte, Bool.false_eq_true, reduceCtorEq, decide_eq_true_eq, Go.Proofs.YtkjlcbfjllpcnaaW.PrintWords.rd, rd_T32, rd_T34]
  refine Ev.bind1 (dlevel_ev hs 1000000 t h (Nat.le_refl _) hc) ?_
  unfold delT
  by_cases hz : (lv s t).f0 = 0
  · simp only [hz, if_true]
    exact Ev.now _
  · simp only [hz, if_false]
    exact Ev.now _
theorem Delete_ev {c : List S34} (hc : OkC c) {s : Nat} (hs : s < 1024) : Ev (fun k => deletion_Delete.f k c (s : Int)) (delC c s) := by
  simp only [deletion_Delete.f]
  have hn := hc.2.1
  refine Ev.fold (xs := c) (L := fun (o : List S34) i k => deletion_Delete.l0 k (s : Int) c (c.length : Int) i o) (by omega) (fun pre ys o => o ++ delF s pre.length ys = delC c s ∧ o.length = pre.length) ?_ ?_ [] ⟨rfl, rfl⟩
  · rintro o i ⟨hI, ho⟩ hi
    rw [delF, List.append_nil] at hI
    subst hI
    (refine Ev.shift ?_; simp only [deletion_Delete.l0, hi, Option.bind_some, ↓reduceIte, Bool.false_eq_true, reduceCtorEq, decide_eq_true_eq, Go.Proofs.YtkjlcbfjllpcnaaW.PrintWords.rd, rd_T32, rd_T34])
    exact Ev.now _
  · rintro pre y ys o i e ⟨hI, ho⟩ hi h0 hlt hw hrd
    have hol : o.length < 2199023255552 := by omega
    have hy := hc.2.2 y (by rw [e]; simp)
    rw [delF] at hI
    have hi' : inS s i = inS s (pre.length : Int) := by rw [hi]
    refine Or.inl ⟨o ++ [delM s pre.length y], ⟨by rw [List.append_assoc, List.length_append]; exact hI, by simp [ho]⟩, fun k => ?_⟩
    (refine Ev.shift ?_; simp only [deletion_Delete.l0, h0, hlt, hw, hrd, Has_eq hs, Option.bind_some, ↓reduceIte, Bool.false_eq_true, reduceCtorEq, decide_eq_true_eq, Go.Proofs.YtkjlcbfjllpcnaaW.PrintWords.rd, rd_T32, rd_T34])
    cases hin : inS s i
    · simp only [Bool.false_eq_true, if_false]
      unfold OkM at hy
      by_cases hf : y.f0 = true
      · rw [if_pos hf] at hy
        simp only [hf, if_true]
        refine Ev.bind1 (DTrust_ev hs i y.f1 (by have := hy.2.1; omega) (validT_chk hy.1)) ?_
        simp only [hol, if_true, eta32]
        have em : delM s pre.length y = ⟨true, delT s i y.f1⟩ := by
          unfold delM
          rw [← hi, hin, if_neg (by simp), if_pos hf]
        rw [em] at k
        exact k
      · rw [if_neg hf] at hy
        simp only [hf, if_false, hy, deletion_copied.f, if_true, Option.bind_some, hol]
        have em : delM s pre.length y = ⟨false, ⟨0, [], []⟩⟩ := by
          unfold delM
          rw [← hi, hin, if_neg (by simp), if_neg hf, hy]
        rw [em] at k
        simp only [Bool.false_eq_true, if_false]
        exact k
    · simp only [if_true, hol]
      have em : delM s pre.length y = ⟨false, ⟨0, [], []⟩⟩ := by
        unfold delM
        rw [← hi, hin, if_pos rfl]
      rw [em] at k
      exact k
def ltN (x y : Nat) : Prop := pcn x < pcn y ∨ (pcn x = pcn y ∧ x < y)
theorem ltN_trans {x y z : Nat} (h : ltN x y) (k : ltN y z) : ltN x z := by unfold ltN at *; omega
theorem pcn_full : ∀ n, n < 11 → pcn (2 ^ n - 1) = n := by decide +kernel
theorem pcn_bound : ∀ n, n < 11 → ∀ z, z < 2 ^ n → pcn z ≤ n := by decide +kernel
theorem pcn_least : ∀ z, z < 1024 → 2 ^ pcn z - 1 ≤ z := by decide +kernel
theorem below_eq (s : Int) {n : Nat} (hn : n ≤ 10) : nodeset_below.f s (n : Int) = some (decide (0 ≤ s) && decide (s < ((2 ^ n : Nat) : Int))) := by
  unfold nodeset_below.f
  have hsh : shl .i64 1 (n : Int) = ((2 ^ n : Nat) : Int) := shl_nat (by omega)
  by_cases h : s ≥ 0
  · rw [if_pos h, if_pos (by omega), hsh]
    have : decide (0 ≤ s) = true := decide_eq_true h
    rw [this, Bool.true_and]
  · rw [if_neg h]
    have : decide (0 ≤ s) = false := decide_eq_false h
    rw [this, Bool.false_and]
def Nxt (n s : Nat) (r : Int × Bool) : Prop := (r.2 = true ∧ ∃ t : Nat, r.1 = (t : Int) ∧ t < 2 ^ n ∧ ltN s t ∧ ∀ u, u < 2 ^ n → ltN u t → ltN u s ∨ u = s) ∨ (r.2 = false ∧ ∀ u, u < 2 ^ n → ltN u s ∨ u = s)
theorem size_nat {s : Nat} (hs : s < 1024) : size (s : Int) = (pcn s : Int) := by
  unfold size
  rw [vld_nat hs, if_pos rfl, Int.toNat_natCast]
theorem Next_ev {n s : Nat} (hn : n ≤ 10) (hs : s < 2 ^ n) : EvP (fun k => nodeset_Next.f k (s : Int) (n : Int)) (Nxt n s) := by
  have hp := pow10 hn
  have hs10 : s < 1024 := by omega
  have h1 : ¬ (n : Int) < 0 := by omega
  have h2 : ¬ (n : Int) > 10 := by omega
  have h3 : (decide (0 ≤ (s : Int)) && decide ((s : Int) < ((2 ^ n : Nat) : Int))) = true := by rw [Bool.and_eq_true, decide_eq_true_eq, decide_eq_true_eq]; omega
  have hb : ∀ s : Int, nodeset_below.f s (n : Int) = some (decide (0 ≤ s) && decide (s < ((2 ^ n : Nat) : Int))) := fun s => below_eq s hn
  have hps := pcn_bound n (by omega) s hs
  simp only [nodeset_Next.f, h1, h2, if_false, hb, h3, Option.bind_some, Bool.not_true]
  refine EvP.shift ?_
  simp only [nodeset_Next.j0, Bool.false_eq_true, if_false, Size_eq, size_nat hs10, Option.bind_some]
  rw [show wrap64 ((s : Int) + 1) = ((s + 1 : Nat) : Int) from w64 (by omega) (by omega)]
  refine EvP.loop (L := fun (t : Nat) k => nodeset_Next.l0 k (n : Int) (pcn s : Int) (t : Int)) (fun t => s < t ∧ t ≤ 2 ^ n ∧ ∀ u, s < u → u < t → pcn u ≠ pcn s) (fun t => 2 ^ n - t) ?_ (s + 1) ⟨by omega, by omega, fun u h k => absurd h (by omega)⟩
  rintro t ⟨h4, h5, h6⟩ ih
  refine EvP.shift ?_
  simp only [nodeset_Next.l0, hb, Option.bind_some]
  by_cases h7 : t < 2 ^ n
  · have h8 : (decide (0 ≤ (t : Int)) && decide ((t : Int) < ((2 ^ n : Nat) : Int))) = true := by rw [Bool.and_eq_true, decide_eq_true_eq, decide_eq_true_eq]; omega
    have ht10 : t < 1024 := by omega
    simp only [h8, if_true, Size_eq, size_nat ht10, Option.bind_some]
    by_cases h9 : pcn t = pcn s
    · have h10 : (pcn t : Int) = (pcn s : Int) := by omega
      simp only [h10, if_true]
      refine EvP.now (Or.inl ⟨rfl, t, rfl, h7, Or.inr ⟨h9.symm, h4⟩, fun u hu hlt => ?_⟩)
      unfold ltN at hlt ⊢
      rcases hlt with h | ⟨h, h'⟩
      · left; left; omega
      · rcases Nat.lt_trichotomy u s with h'' | h'' | h''
        · left; right; omega
        · right; exact h''
        · exact absurd (show pcn u = pcn s by omega) (h6 u h'' h')
    · have h10 : ¬ (pcn t : Int) = (pcn s : Int) := by omega
      simp only [h10, if_false]
      rw [show wrap64 ((t : Int) + 1) = ((t + 1 : Nat) : Int) from w64 (by omega) (by omega)]
      refine ih (t + 1) ⟨by omega, by omega, fun u hu hut => ?_⟩ (by omega)
      rcases Nat.lt_or_ge u t with h | h
      · exact h6 u hu h
      · have : u = t := by omega
        rw [this]; exact h9
  · have h8 : (decide (0 ≤ (t : Int)) && decide ((t : Int) < ((2 ^ n : Nat) : Int))) = false := by rw [decide_eq_false (show ¬ (t : Int) < ((2 ^ n : Nat) : Int) by omega), Bool.and_false]
    have ht : t = 2 ^ n := by omega
    simp only [h8, Bool.false_eq_true, if_false]
    have hno : ∀ u, u < 2 ^ n → pcn u = pcn s → u ≤ s := fun u hu he => by
      rcases Nat.lt_or_ge s u with h | h
      · exact absurd he (h6 u h (by omega))
      · exact h
    by_cases h9 : pcn s = n
    · have h10 : (pcn s : Int) = (n : Int) := by omega
      simp only [h10, if_true]
      refine EvP.now (Or.inr ⟨rfl, fun u hu => ?_⟩)
      have h11 := pcn_bound n (by omega) u hu
      unfold ltN
      rcases Nat.lt_or_ge (pcn u) (pcn s) with h | h
      · left; left; exact h
      · have := hno u hu (by omega)
        rcases Nat.lt_or_ge u s with h' | h'
        · left; right; omega
        · right; omega
    · have h10 : ¬ (pcn s : Int) = (n : Int) := by omega
      have e1 : wrap64 ((pcn s : Int) + 1) = ((pcn s + 1 : Nat) : Int) := w64 (by omega) (by omega)
      have h12 : (0 : Int) ≤ ((pcn s + 1 : Nat) : Int) := by omega
      have hm : pcn s + 1 ≤ n := by omega
      have hpm : 2 ^ (pcn s + 1) ≤ 2 ^ n := Nat.pow_le_pow_right (by decide) hm
      have hpp := Nat.two_pow_pos (pcn s + 1)
      have e2 : wrap64 (shl .i64 1 ((pcn s + 1 : Nat) : Int) - 1) = ((2 ^ (pcn s + 1) - 1 : Nat) : Int) := by
        rw [shl_nat (by omega), w64 (by omega) (by omega)]
        omega
      simp only [h10, if_false, e1, h12, if_true, e2]
      have hpt := pcn_full (pcn s + 1) (by omega)
      refine EvP.now (Or.inl ⟨rfl, _, rfl, by omega, Or.inl (by omega), fun u hu hlt => ?_⟩)
      unfold ltN at hlt ⊢
      rcases hlt with h | ⟨h, h'⟩
      · rcases Nat.lt_or_ge (pcn u) (pcn s) with h'' | h''
        · left; left; exact h''
        · have := hno u hu (by omega)
          rcases Nat.lt_or_ge u s with h3 | h3
          · left; right; omega
          · right; omega
      · have h13 := pcn_least u (by omega)
        rw [h, hpt] at h13
        omega
theorem PGreatest_ev {c : List S34} (hc : Light c) {x : Nat} (hx : x < 1024) : Ev (fun k => closure_Greatest.f k c (x : Int)) (grt c x : Int) := by
  have hdl := decl_lt c
  have key : ∀ (n : Nat) (s : Nat) (o : List Int), s < 1024 → Sub s (decl c) → pcn s < n → o.length + n ≤ 1000 → Ev (fun k => closure_eliminate.l0 k (s : Int) o c) ((grtF c n s : Int), o ++ elimF c n s) := by
    intro n
    induction n with
    | zero => intro s o _ _ h; exact absurd h (by omega)
    | succ n ih =>
      intro s o hs hd hp ho
      rw [elimF, grtF]
      (refine Ev.shift ?_; simp only [closure_eliminate.l0, Option.bind_some, ↓reduceIte, Bool.false_eq_true, reduceCtorEq, decide_eq_true_eq, Go.Proofs.YtkjlcbfjllpcnaaW.PrintWords.rd, rd_T32, rd_T34])
      refine Ev.bind1 (unhappy_ev hc hs hd) ?_
      cases hu : unh c s with
      | none =>
        simp only [optN, Bool.false_eq_true, if_false, List.append_nil]
        exact Ev.now _
      | some j =>
        obtain ⟨i, rfl, h10, hi, _⟩ := unh_some hu
        have hol : o.length < 17592186044416 := by omega
        have hi0 : (0 : Int) ≤ i := by omega
        simp only [optN, if_true, hol, hi0, Int.toNat_natCast]
        rw [shl_nat' h10, andNot_nat (a := s) (b := 2 ^ i) (by omega) (by have := two_lt10 h10; omega)]
        have := ih (dif s (2 ^ i)) (o ++ [(i : Int)]) (dif_lt (n := 10) hs) ((dif_sub' _ _).trans hd) (by have := pcn_dif h10 hi; omega) (by simp; omega)
        rw [List.append_assoc] at this
        exact this
  have hE : Ev (fun k => closure_eliminate.f k c (x : Int)) ((grt c x : Int), elimF c 11 (x &&& decl c)) := by
    simp only [closure_eliminate.f, Valid_eq, vld_nat hx, Option.bind_some, ↓reduceIte, Bool.false_eq_true, reduceCtorEq, decide_eq_true_eq, Go.Proofs.YtkjlcbfjllpcnaaW.PrintWords.rd, rd_T32, rd_T34]
    refine Ev.bind1 (Declared_ev hc.1) ?_
    rw [and_nat' hx hdl]
    have := key 11 (x &&& decl c) [] (and_lt10 hdl) (fun i hi => by rw [and_bit, Bool.and_eq_true] at hi; exact hi.2) (by have := pcn_le (x &&& decl c); omega) (by simp)
    rw [List.nil_append] at this
    exact this
  simp only [closure_Greatest.f]
  refine Ev.bind1 hE ?_
  exact Ev.now _
def hit (c : List S34) (s : Nat) : Bool := quo c s && (grt c (dif (2 ^ c.length - 1) s) != 0)
def apartB (c : List S34) : Bool := (List.range (2 ^ c.length)).any fun s => hit c s
theorem members_eq {c : List S34} (hn : c.length ≤ 10) : intersection_members.f c = some ((2 ^ c.length - 1 : Nat) : Int) := by
  have hp := pow10 hn
  have hp0 := Nat.two_pow_pos c.length
  unfold intersection_members.f
  rw [shl_nat (by omega), w64 (by omega) (by omega)]
  congr 1
  omega
def Fnd (c : List S34) (r : Int × Int) : Prop := (∃ s : Nat, r = ((s : Int), ((grt c (dif (2 ^ c.length - 1) s) : Nat) : Int)) ∧ s < 2 ^ c.length ∧ hit c s = true ∧ ∀ u, u < 2 ^ c.length → ltN u s → hit c u = false) ∨ (r = (0, 0) ∧ ∀ u, u < 2 ^ c.length → hit c u = false)
theorem find_ev {c : List S34} (hc : Light c) (hn : c.length ≤ 10) : EvP (fun k => intersection_find.f k c) (Fnd c) := by
  have hp := pow10 hn
  have hp0 := Nat.two_pow_pos c.length
  simp only [intersection_find.f]
  have fin : ∀ v : Int, (∀ u, u < 2 ^ c.length → hit c u = false) → EvP (fun k => intersection_find.l0 k (c.length : Int) v false c) (Fnd c) := by
    intro v h
    refine EvP.shift ?_
    simp only [intersection_find.l0, Bool.false_eq_true, if_false]
    exact EvP.now (Or.inr ⟨rfl, h⟩)
  refine EvP.loop (L := fun (s : Nat) k => intersection_find.l0 k (c.length : Int) (s : Int) true c) (fun s => s < 2 ^ c.length ∧ ∀ u, u < 2 ^ c.length → ltN u s → hit c u = false) (fun s => ((List.range (2 ^ c.length)).filter fun u => !decide (pcn u < pcn s ∨ (pcn u = pcn s ∧ u < s))).length) ?_ 0 ⟨hp0, fun u hu h => by
    have h0 : pcn 0 = 0 := by decide
    unfold ltN at h
    omega⟩
  rintro s ⟨hs, hno⟩ ih
  have hs10 : s < 1024 := by omega
  have next : hit c s = false → EvP (fun k => (nodeset_Next.f k (s : Int) (c.length : Int)).bind fun bt => intersection_find.l0 k (c.length : Int) bt.1 bt.2 c) (Fnd c) := by
    intro hhit
    refine EvP.bind (Next_ev hn hs) ?_
    rintro ⟨v, b⟩ h
    rcases h with ⟨h1, t, h2, h3, h4, h5⟩ | ⟨h1, h2⟩
    · simp only at h1 h2
      subst h1
      subst h2
      refine ih t ⟨h3, fun u hu hlt => ?_⟩ ?_
      · rcases h5 u hu hlt with h | h
        · exact hno u hu h
        · rw [h]; exact hhit
      ·
        have hsub : ((List.range (2 ^ c.length)).filter fun u => !decide (pcn u < pcn t ∨ (pcn u = pcn t ∧ u < t))).length < ((List.range (2 ^ c.length)).filter fun u => !decide (pcn u < pcn s ∨ (pcn u = pcn s ∧ u < s))).length := by
          rw [← List.countP_eq_length_filter, ← List.countP_eq_length_filter]
          have hc1 : (List.range (2 ^ c.length)).countP (fun u => !decide (pcn u < pcn t ∨ (pcn u = pcn t ∧ u < t))) ≤ (List.range (2 ^ c.length)).countP (fun u => !decide (pcn u < pcn s ∨ (pcn u = pcn s ∧ u < s)) && !decide (u = s)) := by
            refine List.countP_mono_left fun u _ h => ?_
            have h' : ¬ ltN u t := fun hh => by unfold ltN at hh; rw [decide_eq_true hh] at h; cases h
            have h6 : ¬ ltN u s := fun hh => h' (ltN_trans hh h4)
            have h7 : u ≠ s := fun e => h' (by rw [e]; exact h4)
            unfold ltN at h6
            simp [h7]
            omega
          have hc2 : (List.range (2 ^ c.length)).countP (fun u => !decide (pcn u < pcn s ∨ (pcn u = pcn s ∧ u < s))) = (List.range (2 ^ c.length)).countP (fun u => !decide (pcn u < pcn s ∨ (pcn u = pcn s ∧ u < s)) && !decide (u = s)) + (List.range (2 ^ c.length)).countP (fun u => decide (u = s)) := by
            generalize List.range (2 ^ c.length) = R
            induction R with
            | nil => rfl
            | cons x xs ihx =>
              rw [List.countP_cons, List.countP_cons, List.countP_cons, ihx]
              by_cases e : x = s
              · subst e
                simp
                omega
              · simp [e]
                omega
          have hc3 : 0 < (List.range (2 ^ c.length)).countP (fun u => decide (u = s)) := List.countP_pos_iff.2 ⟨s, List.mem_range.2 hs, by simp⟩
          omega
        exact hsub
    · simp only at h1
      subst h1
      refine fin v fun u hu => ?_
      rcases h2 u hu with h | h
      · exact hno u hu h
      · rw [h]; exact hhit
  refine EvP.shift ?_
  simp only [intersection_find.l0, if_true]
  refine EvP.bind (EvP.ofEv (Quorum_ev hc hs10)) ?_
  rintro b rfl
  have hdl : dif (2 ^ c.length - 1) s < 1024 := Nat.lt_of_le_of_lt (dif_sub' _ _).le (by omega)
  cases hq : quo c s
  · simp only [Bool.false_eq_true, if_false]
    exact next (by unfold hit; rw [hq]; rfl)
  · simp only [if_true, members_eq hn, Option.bind_some]
    rw [andNot_nat (by omega) (by omega)]
    refine EvP.bind (EvP.ofEv (PGreatest_ev hc hdl)) ?_
    rintro g rfl
    by_cases h0 : grt c (dif (2 ^ c.length - 1) s) = 0
    · have h1 : ((grt c (dif (2 ^ c.length - 1) s) : Nat) : Int) = 0 := by omega
      simp only [h1, if_true]
      exact next (by unfold hit; rw [h0]; simp)
    · have h1 : ¬ ((grt c (dif (2 ^ c.length - 1) s) : Nat) : Int) = 0 := by omega
      simp only [h1, if_false]
      exact EvP.now (Or.inl ⟨s, rfl, hs, by unfold hit; rw [hq]; simpa using h0, hno⟩)
theorem Holds_ev {c : List S34} (hc : Light c) (hn : c.length ≤ 10) (hv : valC c = 0) : Ev (fun k => intersection_Holds.f k c) (!apartB c, 0) := by
  have h : EvP (fun k => intersection_Holds.f k c) (fun r => r = (!apartB c, 0)) := by
    simp only [intersection_Holds.f]
    refine EvP.bind (EvP.ofEv (CValid_ev hc)) ?_
    rintro r rfl
    rw [hv]
    simp only [if_true]
    refine EvP.bind (find_ev hc hn) ?_
    rintro r (⟨s, rfl, hs, hh, _⟩ | ⟨rfl, hno⟩)
    · have h1 : apartB c = true := List.any_eq_true.2 ⟨s, List.mem_range.2 hs, hh⟩
      have h2 : s ≠ 0 := by
        have hq : quo c s = true := by unfold hit at hh; rw [Bool.and_eq_true] at hh; exact hh.1
        have hp := pow10 hn
        exact ((quo_iff (by omega)).1 hq).1
      rw [h1]
      refine EvP.now ?_
      simp
      omega
    · have h1 : apartB c = false := by
        cases hb : apartB c
        · rfl
        · obtain ⟨s, hs, hh⟩ := List.any_eq_true.1 hb
          rw [hno s (List.mem_range.1 hs)] at hh
          cases hh
      rw [h1]
      exact EvP.now rfl
  obtain ⟨r, rfl, h⟩ := h
  exact h
end Go.Proofs.Ytkjlcbfjllpcnaa.X
namespace Go.Proofs.Ytkjlcbfjllpcnaa.X
open Go.RowKit Go.Proofs.YtkjlcbfjllpcnaaW.PrintWords Go.Proofs.YtkjlcbfjllpcnaaW.PrintLast Go.Proofs.YtkjlcbfjllpcnaaW.PrintMore
attribute [local go_sem] max2_int min2_int max_two min_two max_three min_three max_four min_four
set_option linter.unusedVariables false
set_option linter.unusedSimpArgs false
end Go.Proofs.Ytkjlcbfjllpcnaa.X
namespace Go.Proofs.Ytkjlcbfjllpcnaa.X
open Go.RowKit Go.Proofs.YtkjlcbfjllpcnaaW.PrintWords Go.Proofs.YtkjlcbfjllpcnaaW.PrintLast Go.Proofs.YtkjlcbfjllpcnaaW.PrintMore
set_option linter.unusedVariables false
theorem full_wrap {n : Nat} (hn : n ≤ 10) : wrap64 (shl .i64 1 (n : Int) - 1) = ((2 ^ n - 1 : Nat) : Int) := by
  have hp := pow10 hn
  have hp0 := Nat.two_pow_pos n
  rw [shl_nat (by omega), w64 (by omega) (by omega)]
  omega
theorem sub_full {n t : Nat} : Sub t (2 ^ n - 1) ↔ t < 2 ^ n := by
  constructor
  · intro h
    exact lt_of_bits fun i hi => by
      cases hb : t.testBit i
      · rfl
      · have := h i hb
        rw [full_bit] at this
        simp at this
        omega
  · intro h i hi
    rw [full_bit]
    rcases Nat.lt_or_ge i n with h' | h'
    · simpa using h'
    · rw [bit_lt h h'] at hi; cases hi
def spl (c : List S34) (s : Nat) : Bool := apartB (delC c s)
def hal (c : List S34) (s : Nat) : Bool := grt c (dif (2 ^ c.length - 1) s) == 0
def lstB (p : Nat → Bool) (n : Nat) : List Int := leastS ((subsetsS ((2 ^ n - 1 : Nat) : Int)).filter fun s => p s.toNat)
theorem lst_mem {p : Nat → Bool} {n : Nat} (hn : n ≤ 10) {x : Int} : x ∈ lstB p n ↔ ∃ s : Nat, x = (s : Int) ∧ s < 2 ^ n ∧ p s = true ∧ ∀ u, p u = true → Sub u s → u = s := by
  have hp := pow10 hn
  have hm : ∀ y : Int, y ∈ (subsetsS ((2 ^ n - 1 : Nat) : Int)).filter (fun s => p s.toNat) ↔ ∃ t : Nat, y = (t : Int) ∧ t < 2 ^ n ∧ p t = true := by
    intro y
    rw [List.mem_filter, subsetsS_mem (by omega)]
    constructor
    · rintro ⟨⟨t, rfl, h1⟩, h2⟩
      rw [Int.toNat_natCast] at h2
      exact ⟨t, rfl, sub_full.1 h1, h2⟩
    · rintro ⟨t, rfl, h1, h2⟩
      exact ⟨⟨t, rfl, sub_full.2 h1⟩, by rw [Int.toNat_natCast]; exact h2⟩
  unfold lstB
  rw [(leastS_spec _).2]
  unfold Mini
  rw [hm]
  constructor
  · rintro ⟨⟨s, rfl, h1, h2⟩, h3, h4⟩
    refine ⟨s, rfl, h1, h2, fun u hu hs => ?_⟩
    have hun : u < 2 ^ n := Nat.lt_of_le_of_lt hs.le h1
    have := h4 (u : Int) ((hm _).2 ⟨u, rfl, hun, hu⟩) (vld_nat (by omega)) (by rw [Int.toNat_natCast, Int.toNat_natCast]; exact hs)
    omega
  · rintro ⟨s, rfl, h1, h2, h3⟩
    refine ⟨⟨s, rfl, h1, h2⟩, vld_nat (by omega), fun y hy hv hs => ?_⟩
    obtain ⟨u, rfl, hu, hpu⟩ := (hm y).1 hy
    rw [Int.toNat_natCast, Int.toNat_natCast] at hs
    rw [h3 u hpu hs]
theorem lst_filter_len (p : Nat → Bool) {n : Nat} (hn : n ≤ 10) : ((subsetsS ((2 ^ n - 1 : Nat) : Int)).filter fun s => p s.toNat).length ≤ 1024 := by
  have hp := pow10 hn
  exact Nat.le_trans (List.length_filter_le _ _) (subsetsS_len (by omega))
theorem lst_len (p : Nat → Bool) {n : Nat} (hn : n ≤ 10) : (lstB p n).length ≤ 1024 := by
  have hne : ∀ {a b : Int}, ltS a b → a ≠ b := fun {a b} h e => ltS_irrefl a (by rw [← e] at h; exact h)
  have hnd : (lstB p n).Nodup := List.Pairwise.imp hne (leastS_spec _).1
  exact Nat.le_trans (hnd.length_le_of_subset fun x hx => (((leastS_spec _).2 x).1 hx).1) (lst_filter_len p hn)
theorem splits_ev {c : List S34} (hc : OkC c) {s : Nat} (hs : s < 1024) : Ev (fun k => danger_splits.f k c (s : Int)) (spl c s) := by
  have hd := delC_ok hc s
  simp only [danger_splits.f]
  refine Ev.bind1 (Delete_ev hc hs) ?_
  refine Ev.bind1 (Holds_ev hd.light hd.2.1 hd.valC) ?_
  simp only [Bool.not_not]
  exact Ev.now _
theorem halts_ev {c : List S34} (hc : Light c) (hn : c.length ≤ 10) {s : Nat} (hs : s < 1024) : Ev (fun k => danger_halts.f k c (s : Int)) (hal c s) := by
  have hp := pow10 hn
  have hdl : dif (2 ^ c.length - 1) s < 1024 := Nat.lt_of_le_of_lt (dif_sub' _ _).le (by omega)
  simp only [danger_halts.f, danger_members.f, full_wrap hn, Option.bind_some]
  rw [andNot_nat (by omega) (by omega)]
  refine Ev.bind1 (PGreatest_ev hc hdl) ?_
  have : (((grt c (dif (2 ^ c.length - 1) s) : Nat) : Int) == 0) = hal c s := by
    unfold hal
    by_cases h : grt c (dif (2 ^ c.length - 1) s) = 0
    · rw [h]; rfl
    · have h2 : ¬ ((grt c (dif (2 ^ c.length - 1) s) : Nat) : Int) = 0 := by omega
      rw [beq_eq_false_iff_ne.2 h, beq_eq_false_iff_ne.2 h2]
  rw [this]
  exact Ev.now _
theorem least_fin {out : List Int} {p : Nat → Bool} {n : Nat} (hn : n ≤ 10) (h : out = (subsetsS ((2 ^ n - 1 : Nat) : Int)).filter fun s => p s.toNat) : nodeset_Least.f out = some (lstB p n) := by
  have := lst_filter_len p hn
  unfold nodeset_Least.f lstB
  rw [h, if_pos (by omega)]
theorem least_splits_ev {c : List S34} (hc : OkC c) : Ev (fun k => danger_least_splits.f k c) (lstB (spl c) c.length) := by
  have hn := hc.2.1
  have hp := pow10 hn
  have hp0 := Nat.two_pow_pos c.length
  simp only [danger_least_splits.f, danger_members.f, full_wrap hn, nodeset_Subsets.f, Option.bind_some]
  have hfull : 2 ^ c.length - 1 < 1024 := by omega
  have hfin : ∀ out, out = (subsetsS ((2 ^ c.length - 1 : Nat) : Int)).filter (fun s => spl c s.toNat) → nodeset_Least.f out = some (lstB (spl c) c.length) := fun out h => least_fin hn h
  have hsl := subsetsS_len hfull
  have hmem : ∀ y ∈ subsetsS ((2 ^ c.length - 1 : Nat) : Int), ∃ t : Nat, y = (t : Int) ∧ t < 1024 := fun y hy => by
    obtain ⟨t, rfl, h⟩ := (subsetsS_mem hfull).1 hy
    exact ⟨t, rfl, h.lt hfull⟩
  generalize subsetsS ((2 ^ c.length - 1 : Nat) : Int) = U at hfin hsl hmem
  refine Ev.fold (xs := U) (L := fun (o : List Int) i k => danger_least_splits.l0 k o U (U.length : Int) i c) (by omega) (fun pre ys o => o ++ ys.filter (fun s => spl c s.toNat) = U.filter (fun s => spl c s.toNat) ∧ o.length ≤ pre.length) ?_ ?_ [] ⟨rfl, Nat.le_refl _⟩
  · rintro o i ⟨hI, ho⟩ hi
    rw [List.filter_nil, List.append_nil] at hI
    (refine Ev.shift ?_; simp only [danger_least_splits.l0, hi, hfin o hI, Option.bind_some, ↓reduceIte, Bool.false_eq_true, reduceCtorEq, decide_eq_true_eq, Go.Proofs.YtkjlcbfjllpcnaaW.PrintWords.rd, rd_T32, rd_T34])
    exact Ev.now _
  · rintro pre y ys o i e ⟨hI, ho⟩ hi h0 hlt hw hrd
    obtain ⟨t, rfl, ht⟩ := hmem y (by rw [e]; simp)
    rw [List.filter_cons, Int.toNat_natCast] at hI
    have hol : o.length < 17592186044416 := by
      have : pre.length < U.length := by omega
      omega
    have hs := splits_ev hc ht
    cases hb : spl c t
    · rw [hb] at hI hs
      simp only [Bool.false_eq_true, if_false] at hI
      refine Or.inl ⟨o, ⟨hI, by simp; omega⟩, fun k => ?_⟩
      (refine Ev.shift ?_; simp only [danger_least_splits.l0, h0, hlt, hw, hrd, Option.bind_some, ↓reduceIte, Bool.false_eq_true, reduceCtorEq, decide_eq_true_eq, Go.Proofs.YtkjlcbfjllpcnaaW.PrintWords.rd, rd_T32, rd_T34])
      refine Ev.bind1 hs ?_
      simp only [Bool.false_eq_true, if_false]
      exact k
    · rw [hb] at hI hs
      simp only [if_true] at hI
      refine Or.inl ⟨o ++ [(t : Int)], ⟨by rw [List.append_assoc]; exact hI, by simp; omega⟩, fun k => ?_⟩
      (refine Ev.shift ?_; simp only [danger_least_splits.l0, h0, hlt, hw, hrd, Option.bind_some, ↓reduceIte, Bool.false_eq_true, reduceCtorEq, decide_eq_true_eq, Go.Proofs.YtkjlcbfjllpcnaaW.PrintWords.rd, rd_T32, rd_T34])
      refine Ev.bind1 hs ?_
      simp only [if_true, hol]
      exact k
theorem least_halts_ev {c : List S34} (hc : Light c) (hn : c.length ≤ 10) : Ev (fun k => danger_least_halts.f k c) (lstB (hal c) c.length) := by
  have hp := pow10 hn
  have hp0 := Nat.two_pow_pos c.length
  simp only [danger_least_halts.f, danger_members.f, full_wrap hn, nodeset_Subsets.f, Option.bind_some]
  have hfull : 2 ^ c.length - 1 < 1024 := by omega
  have hfin : ∀ out, out = (subsetsS ((2 ^ c.length - 1 : Nat) : Int)).filter (fun s => hal c s.toNat) → nodeset_Least.f out = some (lstB (hal c) c.length) := fun out h => least_fin hn h
  have hsl := subsetsS_len hfull
  have hmem : ∀ y ∈ subsetsS ((2 ^ c.length - 1 : Nat) : Int), ∃ t : Nat, y = (t : Int) ∧ t < 1024 := fun y hy => by
    obtain ⟨t, rfl, h⟩ := (subsetsS_mem hfull).1 hy
    exact ⟨t, rfl, h.lt hfull⟩
  generalize subsetsS ((2 ^ c.length - 1 : Nat) : Int) = U at hfin hsl hmem
  refine Ev.fold (xs := U) (L := fun (o : List Int) i k => danger_least_halts.l0 k o U (U.length : Int) i c) (by omega) (fun pre ys o => o ++ ys.filter (fun s => hal c s.toNat) = U.filter (fun s => hal c s.toNat) ∧ o.length ≤ pre.length) ?_ ?_ [] ⟨rfl, Nat.le_refl _⟩
  · rintro o i ⟨hI, ho⟩ hi
    rw [List.filter_nil, List.append_nil] at hI
    (refine Ev.shift ?_; simp only [danger_least_halts.l0, hi, hfin o hI, Option.bind_some, ↓reduceIte, Bool.false_eq_true, reduceCtorEq, decide_eq_true_eq, Go.Proofs.YtkjlcbfjllpcnaaW.PrintWords.rd, rd_T32, rd_T34])
    exact Ev.now _
  · rintro pre y ys o i e ⟨hI, ho⟩ hi h0 hlt hw hrd
    obtain ⟨t, rfl, ht⟩ := hmem y (by rw [e]; simp)
    rw [List.filter_cons, Int.toNat_natCast] at hI
    have hol : o.length < 17592186044416 := by
      have : pre.length < U.length := by omega
      omega
    have hs := halts_ev hc hn ht
    cases hb : hal c t
    · rw [hb] at hI hs
      simp only [Bool.false_eq_true, if_false] at hI
      refine Or.inl ⟨o, ⟨hI, by simp; omega⟩, fun k => ?_⟩
      (refine Ev.shift ?_; simp only [danger_least_halts.l0, h0, hlt, hw, hrd, Option.bind_some, ↓reduceIte, Bool.false_eq_true, reduceCtorEq, decide_eq_true_eq, Go.Proofs.YtkjlcbfjllpcnaaW.PrintWords.rd, rd_T32, rd_T34])
      refine Ev.bind1 hs ?_
      simp only [Bool.false_eq_true, if_false]
      exact k
    · rw [hb] at hI hs
      simp only [if_true] at hI
      refine Or.inl ⟨o ++ [(t : Int)], ⟨by rw [List.append_assoc]; exact hI, by simp; omega⟩, fun k => ?_⟩
      (refine Ev.shift ?_; simp only [danger_least_halts.l0, h0, hlt, hw, hrd, Option.bind_some, ↓reduceIte, Bool.false_eq_true, reduceCtorEq, decide_eq_true_eq, Go.Proofs.YtkjlcbfjllpcnaaW.PrintWords.rd, rd_T32, rd_T34])
      refine Ev.bind1 hs ?_
      simp only [if_true, hol]
      exact k
theorem small_ev {c : List S34} (hc : OkC c) (h7 : c.length ≤ 7) : Ev (fun k => danger_small.f k c) 0 := by
  have h : ¬ (c.length : Int) > 7 := by omega
  simp only [danger_small.f]
  refine Ev.bind1 (CValid_ev hc.light) ?_
  rw [hc.valC]
  simp only [if_true, h, if_false]
  exact Ev.now _
theorem Splitting_ev {c : List S34} (hc : OkC c) (h7 : c.length ≤ 7) : Ev (fun k => danger_Splitting.f k c) (lstB (spl c) c.length, 0) := by
  simp only [danger_Splitting.f]
  refine Ev.bind1 (small_ev hc h7) ?_
  simp only [if_true]
  refine Ev.bind1 (least_splits_ev hc) ?_
  exact Ev.now _
theorem Halting_ev {c : List S34} (hc : Light c) (hn : c.length ≤ 10) (hv : valC c = 0) : Ev (fun k => danger_Halting.f k c) (lstB (hal c) c.length, 0) := by
  simp only [danger_Halting.f]
  refine Ev.bind1 (CValid_ev hc) ?_
  rw [hv]
  simp only [if_true]
  refine Ev.bind1 (least_halts_ev hc hn) ?_
  exact Ev.now _
def tol (n : Nat) (l : List Int) : Int := if l = [] then (n : Int) else size (l.getD 0 0) - 1
theorem size_bound (x : Int) : 0 ≤ size x ∧ size x ≤ 10 := by
  unfold size
  split
  · have := pcn_le x.toNat; omega
  · omega
theorem tolerated_eq (c : List S34) (l : List Int) : danger_tolerated.f c l = some (tol c.length l) := by
  unfold danger_tolerated.f tol
  cases l with
  | nil => simp
  | cons x xs =>
    have h1 : ¬ (((x :: xs).length : Nat) : Int) = 0 := by simp; omega
    have h2 : (0 : Int) < (((x :: xs).length : Nat) : Int) := by simp
    have h3 := size_bound x
    rw [if_neg h1, if_pos h2, if_neg (by simp)]
    simp only [Go.Proofs.YtkjlcbfjllpcnaaW.PrintWords.rd, Int.toNat_zero, List.getD_cons_zero, Size_eq, Option.bind_some]
    rw [w64 (by omega) (by omega)]
theorem Tolerates_ev {c : List S34} (hc : OkC c) (h7 : c.length ≤ 7) : Ev (fun k => danger_Tolerates.f k c) (tol c.length (lstB (spl c) c.length), tol c.length (lstB (hal c) c.length), 0) := by
  simp only [danger_Tolerates.f]
  refine Ev.bind1 (small_ev hc h7) ?_
  simp only [if_true]
  refine Ev.bind1 (least_splits_ev hc) ?_
  simp only [tolerated_eq, Option.bind_some]
  refine Ev.bind1 (least_halts_ev hc.light hc.2.1) ?_
  exact Ev.now _
theorem sameB_ev {n : Nat} (hn : n ≤ 1000) (t : Int) : Ev (fun k => trustquorumlaw16_same.f k (n : Int) t) (sameC n t) := by
  have hlt : ¬ (n : Int) < (n : Int) := by omega
  simp only [trustquorumlaw16_same.f]
  refine Ev.count (L := fun (l : List Int) i k => trustquorumlaw16_same.l0 k (n : Int) i t l) n (by omega) (fun i l => l = (List.range i).map Int.ofNat) ?_ ?_ [] rfl
  · intro l hl
    (refine Ev.shift ?_; simp only [trustquorumlaw16_same.l0, hlt, Option.bind_some, ↓reduceIte, Bool.false_eq_true, reduceCtorEq, decide_eq_true_eq, Go.Proofs.YtkjlcbfjllpcnaaW.PrintWords.rd, rd_T32, rd_T34])
    subst hl
    refine Ev.count (L := fun (c : List S34) i k => trustquorumlaw16_same.l1 k (n : Int) i t ((List.range n).map Int.ofNat) c) n (by omega) (fun i c => c = List.replicate i (memS n t)) ?_ ?_ [] rfl
    · intro c h
      (refine Ev.shift ?_; simp only [trustquorumlaw16_same.l1, hlt, Option.bind_some, ↓reduceIte, Bool.false_eq_true, reduceCtorEq, decide_eq_true_eq, Go.Proofs.YtkjlcbfjllpcnaaW.PrintWords.rd, rd_T32, rd_T34])
      rw [h]
      exact Ev.now _
    · intro i c hi h hw
      have h1 : (i : Int) < (n : Int) := by omega
      have h2 : c.length < 2199023255552 := by rw [h, List.length_replicate]; omega
      refine Or.inl ⟨c ++ [memS n t], by rw [h, List.replicate_succ'], fun k => ?_⟩
      (refine Ev.shift ?_; simp only [trustquorumlaw16_same.l1, h1, h2, hw, Option.bind_some, ↓reduceIte, Bool.false_eq_true, reduceCtorEq, decide_eq_true_eq, Go.Proofs.YtkjlcbfjllpcnaaW.PrintWords.rd, rd_T32, rd_T34])
      exact k
  · intro i l hi h hw
    have h1 : (i : Int) < (n : Int) := by omega
    have h2 : l.length < 17592186044416 := by rw [h, List.length_map, List.length_range]; omega
    refine Or.inl ⟨l ++ [(i : Int)], by rw [h, List.range_succ, List.map_append]; rfl, fun k => ?_⟩
    (refine Ev.shift ?_; simp only [trustquorumlaw16_same.l0, h1, h2, hw, Option.bind_some, ↓reduceIte, Bool.false_eq_true, reduceCtorEq, decide_eq_true_eq, Go.Proofs.YtkjlcbfjllpcnaaW.PrintWords.rd, rd_T32, rd_T34])
    exact k
theorem same_okC {n t : Nat} (hn1 : 1 ≤ n) (hn : n ≤ 10) (hv : validT (memS n (t : Int)).f1 = 0) (hu : uses (memS n (t : Int)).f1 < 2 ^ n) : OkC (sameC n (t : Int)) := by
  have hl : (sameC n (t : Int)).length = n := by simp [sameC]
  refine ⟨by omega, by omega, fun m hm => ?_⟩
  rw [hl]
  rw [List.eq_of_mem_replicate hm]
  unfold OkM
  rw [if_pos (show (memS n (t : Int)).f0 = true from rfl)]
  refine ⟨hv, ?_, hu⟩
  show wt ⟨(t : Int), (List.range n).map Int.ofNat, []⟩ ≤ 100
  rw [wt, wtL]
  simp
  omega
theorem s4_ok : OkC (sameC 4 3) := same_okC (n := 4) (t := 3) (by decide) (by decide) (by decide) (by decide)
theorem s4_subs : subsetsS ((2 ^ (sameC 4 3).length - 1 : Nat) : Int) = [0, 1, 2, 4, 8, 3, 5, 6, 9, 10, 12, 7, 11, 13, 14, 15] := by
  show subsetsS ((15 : Nat) : Int) = _
  rw [subsetsS, vld_nat (by decide), if_pos rfl]
  exact sortS_eq (List.isPerm_iff.1 (by decide)) (by decide)
theorem s4_splits : lstB (spl (sameC 4 3)) (sameC 4 3).length = [3, 5, 6, 9, 10, 12] := by
  have e : ([0, 1, 2, 4, 8, 3, 5, 6, 9, 10, 12, 7, 11, 13, 14, 15] : List Int).filter (fun s => spl (sameC 4 3) s.toNat) = [3, 5, 6, 9, 10, 12] := by decide +kernel
  have e2 : ([3, 5, 6, 9, 10, 12] : List Int).filter vld = [3, 5, 6, 9, 10, 12] := by decide
  have e3 : sortS [3, 5, 6, 9, 10, 12] = [3, 5, 6, 9, 10, 12] := sortS_eq (List.Perm.refl _) (by decide)
  rw [lstB, s4_subs, e, leastS, e2, e3]
  decide
theorem s4_halts : lstB (hal (sameC 4 3)) (sameC 4 3).length = [3, 5, 6, 9, 10, 12] := by
  have e : ([0, 1, 2, 4, 8, 3, 5, 6, 9, 10, 12, 7, 11, 13, 14, 15] : List Int).filter (fun s => hal (sameC 4 3) s.toNat) = [3, 5, 6, 9, 10, 12, 7, 11, 13, 14, 15] := by decide +kernel
  have e2 : ([3, 5, 6, 9, 10, 12, 7, 11, 13, 14, 15] : List Int).filter vld = [3, 5, 6, 9, 10, 12, 7, 11, 13, 14, 15] := by decide
  have e3 : sortS [3, 5, 6, 9, 10, 12, 7, 11, 13, 14, 15] = [3, 5, 6, 9, 10, 12, 7, 11, 13, 14, 15] := sortS_eq (List.Perm.refl _) (by decide)
  rw [lstB, s4_subs, e, leastS, e2, e3]
  decide
theorem awake16_ev : Ev (fun k => trustquorumlaw16_awake.f k) true := by
  have hs : Ev (fun k => trustquorumlaw16_same.f k 4 3) (sameC 4 3) := sameB_ev (n := 4) (by decide) 3
  have h1 := Splitting_ev s4_ok (by decide)
  have h2 := Halting_ev s4_ok.light (by decide) s4_ok.valC
  have h3 := Tolerates_ev s4_ok (by decide)
  rw [s4_splits] at h1
  rw [s4_halts] at h2
  rw [s4_splits, s4_halts] at h3
  have e : tol (sameC 4 3).length [3, 5, 6, 9, 10, 12] = 1 := by decide
  rw [e] at h3
  simp only [trustquorumlaw16_awake.f]
  refine Ev.bind1 hs ?_
  refine Ev.bind1 h1 ?_
  refine Ev.bind1 hs ?_
  refine Ev.bind1 h2 ?_
  refine Ev.bind1 hs ?_
  refine Ev.bind1 h3 ?_
  simp only [if_true]
  refine Ev.bind1 (Ints_ev (by decide)) ?_
  simp only [decide_true, if_true]
  refine Ev.bind1 (Ints_ev (by decide)) ?_
  simp only [decide_true, if_true, beq_self_eq_true]
  exact Ev.now _
theorem count_same : ∀ n, n < 9 → ∀ z, z < 2 ^ n → ((List.range n).map Int.ofNat).countP (fun x => inS z x) = pcn z := by decide +kernel
theorem sat_memS {n z : Nat} (hn : n < 9) (hz : z < 2 ^ n) (t : Int) : sat z (memS n t).f1 = decide (t ≤ (pcn z : Int)) := by
  show sat z ⟨t, (List.range n).map Int.ofNat, []⟩ = _
  rw [sat, satC, count_same n hn z hz]
  rfl
theorem pcn_step : ∀ z, z < 1024 → ∀ i, i < 10 → z.testBit i = true → pcn z = pcn (dif z (2 ^ i)) + 1 := by decide +kernel
theorem count_split (a b : Nat → Bool) (R : List Nat) : R.countP (fun k => a k && !b k) + R.countP (fun k => a k && b k) = R.countP a := by
  induction R with
  | nil => rfl
  | cons x xs ih =>
    rw [List.countP_cons, List.countP_cons, List.countP_cons, ← ih]
    cases a x <;> cases b x <;> simp <;> omega
theorem pcn_split (w q : Nat) : pcn (dif w q) + pcn (w &&& q) = pcn w := by
  have h := count_split (fun k => w.testBit k) (fun k => q.testBit k) (List.range 10)
  have e1 : (fun k => (dif w q).testBit k) = fun k => w.testBit k && !q.testBit k := funext fun k => dif_bit w q k
  have e2 : (fun k => (w &&& q).testBit k) = fun k => w.testBit k && q.testBit k := funext fun k => and_bit w q k
  unfold pcn
  rw [e1, e2]
  exact h
theorem pcn_or {q s : Nat} (h : q &&& s = 0) : pcn (q ||| s) = pcn q + pcn s := by
  have h1 := pcn_split (q ||| s) q
  have e1 : dif (q ||| s) q = s := eq_bits fun i => by
    have := congrArg (fun n => n.testBit i) h
    simp only [and_bit, Nat.zero_testBit] at this
    rw [dif_bit, or_bit]
    cases hq : q.testBit i <;> cases hs : s.testBit i <;> simp_all
  have e2 : (q ||| s) &&& q = q := eq_bits fun i => by
    rw [and_bit, or_bit]
    cases q.testBit i <;> simp
  rw [e1, e2] at h1
  omega
theorem some_bit {q : Nat} (h : q ≠ 0) : ∃ i, q.testBit i = true := by
  apply Classical.byContradiction
  intro hno
  refine h (eq_bits fun i => ?_)
  rw [Nat.zero_testBit]
  cases hb : q.testBit i
  · rfl
  · exact absurd ⟨i, hb⟩ hno
theorem pcn_zero : pcn 0 = 0 := by decide
theorem sub_size : ∀ (m w j : Nat), w < 1024 → j + m = pcn w → ∃ q, Sub q w ∧ pcn q = j
  | 0, w, j, _, h => ⟨w, Sub.refl _, by omega⟩
  | m + 1, w, j, hw, h => by
    have h0 : w ≠ 0 := fun e => by rw [e, pcn_zero] at h; omega
    obtain ⟨i, hi⟩ := some_bit h0
    have h1 := pcn_step w hw i (bit10 hw hi) hi
    obtain ⟨q, h2, h3⟩ := sub_size m (dif w (2 ^ i)) j (dif_lt (n := 10) hw) (by omega)
    exact ⟨q, h2.trans (dif_sub' _ _), h3⟩
theorem pcn_mono {a b : Nat} (hb : b < 1024) (h : Sub a b) : pcn a ≤ pcn b := by
  by_cases e : a = b
  · rw [e]; exact Nat.le_refl _
  · exact Nat.le_of_lt (pcn_sub hb h e)
section
variable {n t : Nat} (hn1 : 1 ≤ n) (hn : n < 9) (ht1 : 1 ≤ t) (htn : t ≤ n) (hck : chk (memS n (t : Int)).f1 = 0)
include hn hck in
theorem quo_same {z : Nat} (hz : z < 2 ^ n) : quo (sameC n (t : Int)) z = true ↔ t ≤ pcn z := by
  show quo (repC n (memS n (t : Int)).f1) z = true ↔ _
  rw [quo_rep (by omega) hck hz, sat_memS hn hz, decide_eq_true_eq]
  omega
include hn in
theorem comp_size {s : Nat} (hs : s < 2 ^ n) : dif (2 ^ n - 1) s < 2 ^ n ∧ pcn (dif (2 ^ n - 1) s) + pcn s = n := by
  have hp0 := Nat.two_pow_pos n
  have h1 := (dif_sub' (2 ^ n - 1) s).le
  have h2 := pcn_split (2 ^ n - 1) s
  have h3 : (2 ^ n - 1) &&& s = s := by rw [Nat.and_comm]; exact sub_and.2 (sub_full.2 hs)
  rw [h3, pcn_full n (by omega)] at h2
  exact ⟨by omega, h2⟩
include hn hck in
theorem hal_same {s : Nat} (hs : s < 2 ^ n) : hal (sameC n (t : Int)) s = decide (n + 1 ≤ pcn s + t) := by
  have hl : (sameC n (t : Int)).length = n := by simp [sameC]
  have hp := pow10 (show n ≤ 10 by omega)
  obtain ⟨h1, h2⟩ := comp_size hn hs
  unfold hal
  rw [hl]
  by_cases h : n + 1 ≤ pcn s + t
  · rw [decide_eq_true h, beq_iff_eq]
    apply Classical.byContradiction
    intro h0
    have hq := grt_quo h0
    have hsub := grt_sub (sameC n (t : Int)) (dif (2 ^ n - 1) s)
    have hlt := Nat.lt_of_le_of_lt hsub.le h1
    have h3 := (quo_same hn hck hlt).1 hq
    have h4 := pcn_mono (by omega) hsub
    omega
  · rw [decide_eq_false h, beq_eq_false_iff_ne]
    exact grt_ne (q := dif (2 ^ n - 1) s) (by omega) ((quo_same hn hck h1).2 (by omega)) (Sub.refl _)
include hn ht1 htn in
theorem spl_same {s : Nat} (hs : s < 2 ^ n) : spl (sameC n (t : Int)) s = decide (2 * t ≤ n + pcn s ∧ pcn s + 2 ≤ n) := by
  have hl : (sameC n (t : Int)).length = n := by simp [sameC]
  have hp := pow10 (show n ≤ 10 by omega)
  have hp0 := Nat.two_pow_pos n
  obtain ⟨h1, h2⟩ := comp_size hn hs
  have hd : decl (sameC n (t : Int)) = 2 ^ n - 1 := repC_decl (x := (memS n (t : Int)).f1) (by omega)
  have hs10 : s < 1024 := by omega
  have hget : ∀ i, i < n → ((sameC n (t : Int)).getD i z34).f1 = (memS n (t : Int)).f1 := fun i hi => by
    show ((repC n (memS n (t : Int)).f1).getD i z34).f1 = _
    rw [repC_get hi]
  have hquo : ∀ q, q < 2 ^ n → (quo (delC (sameC n (t : Int)) s) q = true ↔ q ≠ 0 ∧ Sub q (dif (2 ^ n - 1) s) ∧ t ≤ pcn q + pcn s) := by
    intro q hq
    rw [quo_del hs10 (by omega), hd]
    constructor
    · rintro ⟨h3, h4, h5⟩
      refine ⟨h3, h4, ?_⟩
      obtain ⟨i, hi⟩ := some_bit h3
      have hin : i < n := by
        rcases Nat.lt_or_ge i n with h | h
        · exact h
        · rw [bit_lt hq h] at hi; cases hi
      have h6 := h5 i hi
      have hor : q ||| s < 2 ^ n := or_lt hq hs
      rw [hget i hin, sat_memS hn hor, decide_eq_true_eq, pcn_or] at h6
      · omega
      · refine eq_bits fun j => ?_
        rw [and_bit, Nat.zero_testBit]
        cases hj : q.testBit j
        · rfl
        · have := h4 j hj
          rw [dif_bit, Bool.and_eq_true] at this
          simpa using this.2
    · rintro ⟨h3, h4, h5⟩
      refine ⟨h3, h4, fun i hi => ?_⟩
      have hin : i < n := by
        rcases Nat.lt_or_ge i n with h | h
        · exact h
        · rw [bit_lt hq h] at hi; cases hi
      have hor : q ||| s < 2 ^ n := or_lt hq hs
      rw [hget i hin, sat_memS hn hor, decide_eq_true_eq, pcn_or]
      · omega
      · refine eq_bits fun j => ?_
        rw [and_bit, Nat.zero_testBit]
        cases hj : q.testBit j
        · rfl
        · have := h4 j hj
          rw [dif_bit, Bool.and_eq_true] at this
          simpa using this.2
  have hiff : spl (sameC n (t : Int)) s = true ↔ 2 * t ≤ n + pcn s ∧ pcn s + 2 ≤ n := by
    unfold spl apartB
    rw [List.any_eq_true, delC_len, hl]
    constructor
    · rintro ⟨q, hq, hh⟩
      rw [List.mem_range] at hq
      unfold hit at hh
      rw [Bool.and_eq_true, delC_len, hl] at hh
      obtain ⟨h3, h4, h5⟩ := (hquo q hq).1 hh.1
      have h6 : grt (delC (sameC n (t : Int)) s) (dif (2 ^ n - 1) q) ≠ 0 := by simpa using hh.2
      have h7 := grt_quo h6
      have h8 := grt_sub (delC (sameC n (t : Int)) s) (dif (2 ^ n - 1) q)
      generalize grt (delC (sameC n (t : Int)) s) (dif (2 ^ n - 1) q) = g at h6 h7 h8
      have hg : g < 2 ^ n := Nat.lt_of_le_of_lt h8.le (comp_size hn hq).1
      obtain ⟨h9, h10, h11⟩ := (hquo g hg).1 h7
      have h12 : Sub (q ||| g) (dif (2 ^ n - 1) s) := Sub.or h4 h10
      have h13 : q &&& g = 0 := by
        refine eq_bits fun j => ?_
        rw [and_bit, Nat.zero_testBit]
        cases hj : g.testBit j
        · simp
        · have := h8 j hj
          rw [dif_bit, Bool.and_eq_true] at this
          simpa using this.2
      have h14 := pcn_mono (by omega) h12
      rw [pcn_or h13] at h14
      have h15 : 0 < pcn q := by
        obtain ⟨i, hi⟩ := some_bit h3
        have := pcn_step q (by omega) i (bit10 (by omega) hi) hi
        omega
      have h16 : 0 < pcn g := by
        obtain ⟨i, hi⟩ := some_bit h6
        have := pcn_step g (by omega) i (bit10 (by omega) hi) hi
        omega
      omega
    · rintro ⟨h3, h4⟩
      obtain ⟨q, h5, h6⟩ := sub_size (pcn (dif (2 ^ n - 1) s) - max 1 (t - pcn s)) (dif (2 ^ n - 1) s) (max 1 (t - pcn s)) (by omega) (by omega)
      have hq : q < 2 ^ n := Nat.lt_of_le_of_lt h5.le h1
      have hq0 : q ≠ 0 := fun e => by rw [e, pcn_zero] at h6; omega
      refine ⟨q, List.mem_range.2 hq, ?_⟩
      unfold hit
      rw [Bool.and_eq_true, delC_len, hl]
      refine ⟨(hquo q hq).2 ⟨hq0, h5, by omega⟩, ?_⟩
      have h7 := pcn_split (dif (2 ^ n - 1) s) q
      have h8 : dif (2 ^ n - 1) s &&& q = q := by rw [Nat.and_comm]; exact sub_and.2 h5
      rw [h8] at h7
      have hg : dif (dif (2 ^ n - 1) s) q < 2 ^ n := Nat.lt_of_le_of_lt (dif_sub' _ _).le h1
      have hg0 : dif (dif (2 ^ n - 1) s) q ≠ 0 := fun e => by rw [e, pcn_zero] at h7; omega
      have h9 := grt_ne (c := delC (sameC n (t : Int)) s) (x := dif (2 ^ n - 1) q) (q := dif (dif (2 ^ n - 1) s) q) (by omega) ((hquo _ hg).2 ⟨hg0, dif_sub' _ _, by omega⟩) (fun i hi => by
        rw [dif_bit, dif_bit, Bool.and_eq_true, Bool.and_eq_true] at hi
        rw [dif_bit, hi.1.1, hi.2]; rfl)
      simpa using h9
  cases hb : spl (sameC n (t : Int)) s
  · symm
    rw [decide_eq_false_iff_not]
    intro h
    rw [hiff.2 h] at hb
    cases hb
  · symm
    rw [decide_eq_true_eq]
    exact hiff.1 hb
end
theorem lst_size {p : Nat → Bool} {n a b : Nat} (hn : n ≤ 10) (hab : a ≤ b) (hp : ∀ s, s < 2 ^ n → p s = decide (a ≤ pcn s ∧ pcn s ≤ b)) {x : Int} : x ∈ lstB p n ↔ ∃ s : Nat, x = (s : Int) ∧ s < 2 ^ n ∧ pcn s = a := by
  have hp10 := pow10 hn
  rw [lst_mem hn]
  constructor
  · rintro ⟨s, rfl, h1, h2, h3⟩
    refine ⟨s, rfl, h1, ?_⟩
    rw [hp s h1, decide_eq_true_eq] at h2
    apply Classical.byContradiction
    intro hne
    have hs10 : s < 1024 := by omega
    have h0 : s ≠ 0 := fun e => by rw [e, pcn_zero] at h2 hne; omega
    obtain ⟨i, hi⟩ := some_bit h0
    have h4 := pcn_step s hs10 i (bit10 hs10 hi) hi
    have hs := dif_sub' s (2 ^ i)
    have := h3 _ (by rw [hp _ (Nat.lt_of_le_of_lt hs.le h1), decide_eq_true_eq]; omega) hs
    rw [this] at h4
    omega
  · rintro ⟨s, rfl, h1, h2⟩
    refine ⟨s, rfl, h1, by rw [hp s h1, decide_eq_true_eq]; omega, fun u hu hs => ?_⟩
    rw [hp u (Nat.lt_of_le_of_lt hs.le h1), decide_eq_true_eq] at hu
    apply Classical.byContradiction
    intro hne
    have := pcn_sub (by omega) hs hne
    omega
theorem lst_count {p : Nat → Bool} {n a b : Nat} (hn : n ≤ 10) (hab : a ≤ b) (hp : ∀ s, s < 2 ^ n → p s = decide (a ≤ pcn s ∧ pcn s ≤ b)) : (lstB p n).length = (List.range (2 ^ n)).countP fun z => decide (pcn z = a) := by
  have hne : ∀ {a b : Int}, ltS a b → a ≠ b := fun {a b} h e => ltS_irrefl a (by rw [← e] at h; exact h)
  have hnd : (lstB p n).Nodup := List.Pairwise.imp hne (leastS_spec _).1
  have hnd2 : (((List.range (2 ^ n)).filter fun z => decide (pcn z = a)).map Int.ofNat).Nodup := by
    refine List.Pairwise.map Int.ofNat (fun a b h e => h (Int.ofNat.inj e)) (List.Pairwise.filter _ List.nodup_range)
  have hperm := (List.perm_ext_iff_of_nodup hnd hnd2).2 fun x => by
    rw [lst_size hn hab hp, List.mem_map]
    constructor
    · rintro ⟨q, rfl, h3, h4⟩
      exact ⟨q, by rw [List.mem_filter, List.mem_range]; exact ⟨h3, by simpa using h4⟩, rfl⟩
    · rintro ⟨q, h3, rfl⟩
      rw [List.mem_filter, List.mem_range] at h3
      exact ⟨q, rfl, h3.1, by simpa using h3.2⟩
  rw [hperm.length_eq, List.length_map, ← List.countP_eq_length_filter]
theorem lst_tol {p : Nat → Bool} {n a b : Nat} (hn : n ≤ 10) (hab : a ≤ b) (han : a ≤ n) (hp : ∀ s, s < 2 ^ n → p s = decide (a ≤ pcn s ∧ pcn s ≤ b)) : tol n (lstB p n) = (a : Int) - 1 := by
  have hp10 := pow10 hn
  have hpa : 2 ^ a ≤ 2 ^ n := Nat.pow_le_pow_right (by decide) han
  have hpp := Nat.two_pow_pos a
  have hm : ((2 ^ a - 1 : Nat) : Int) ∈ lstB p n := (lst_size hn hab hp).2 ⟨_, rfl, by omega, pcn_full a (by omega)⟩
  have hne : lstB p n ≠ [] := fun e => by rw [e] at hm; cases hm
  unfold tol
  rw [if_neg hne]
  have h0 : (lstB p n).getD 0 0 ∈ lstB p n := getD_mem' 0 (List.length_pos_iff.2 hne)
  obtain ⟨s, e, h1, h2⟩ := (lst_size hn hab hp).1 h0
  rw [e, size_nat (by omega), h2]
theorem lst_none {p : Nat → Bool} {n : Nat} (hn : n ≤ 10) (hp : ∀ s, s < 2 ^ n → p s = false) : lstB p n = [] := by
  apply List.eq_nil_iff_forall_not_mem.2
  intro x hx
  obtain ⟨s, rfl, h1, h2, _⟩ := (lst_mem hn).1 hx
  rw [hp s h1] at h2
  cases h2
end Go.Proofs.Ytkjlcbfjllpcnaa.X
namespace Go.Proofs.Ytkjlcbfjllpcnaa.Pure
open Go.RowKit Go.Proofs.Ytkjlcbfjllpcnaa.X Go.Proofs.YtkjlcbfjllpcnaaW.PrintWords Go.Proofs.YtkjlcbfjllpcnaaW.PrintLast
set_option linter.unusedVariables false
theorem u_all : ∀ n, n < 9 → ∀ t, t < 9 → (n = 0 ∨ t = 0 ∨ n < t ∨ (validT (memS n (t : Int)).f1 = 0 ∧ chk (memS n (t : Int)).f1 = 0 ∧ uses (memS n (t : Int)).f1 < 2 ^ n)) := by decide +kernel
theorem u_ok (n : Nat) (h : n < 9) (t : Nat) (h2 : t < 9) (h3 : 1 ≤ n) (h4 : 1 ≤ t) (h5 : t ≤ n) : validT (memS n (t : Int)).f1 = 0 ∧ chk (memS n (t : Int)).f1 = 0 ∧ uses (memS n (t : Int)).f1 < 2 ^ n := by
  rcases u_all n h t h2 with h | h | h | h
  · omega
  · omega
  · omega
  · exact h
theorem fold_ev {c : Nat × Nat} {x5 x6 : Int} {M H : List Int} {x12 x17 : Int} {z : Nat} (hz : z < 1024) {r : Bool} {w : Int} (hw : wrap64 (wrap64 (x5 - x6) + 1) = w) {lb : Bool} (hlb : decide (x6 < x5) = lb) (h0 : (0 : Int) ≤ x5) (hlt : (z : Int) < shl .i64 1 x5)
    (hw1 : wrap64 ((c.1 : Int) + 1) = ((c.1 + 1 : Nat) : Int)) (hw2 : wrap64 ((c.2 : Int) + 1) = ((c.2 + 1 : Nat) : Int)) (hwz : wrap64 ((z : Int) + 1) = ((z + 1 : Nat) : Int))
    (k : Ev (fun k => trustquorumlaw16_DangerUniform.l0 k x5 x6 M H x12 ((c.1 + (if (decide ((pcn z : Int) = x17) && lb) = true then 1 else 0) : Nat) : Int) ((c.2 + (if decide ((pcn z : Int) = w) = true then 1 else 0) : Nat) : Int) x17 ((z + 1 : Nat) : Int)) r) :
    Ev (fun k => trustquorumlaw16_DangerUniform.l0 k x5 x6 M H x12 (c.1 : Int) (c.2 : Int) x17 (z : Int)) r := by
  have hsz := ref_SizeEv hz
  have j2 : ∀ b : Bool, (decide ((pcn z : Int) = x17) && lb) = b → Ev (fun k => trustquorumlaw16_DangerUniform.j2 k x5 x6 M H x12 (c.1 : Int) (c.2 : Int) x17 (z : Int) b) r := by
    intro b hb
    rw [hb] at k
    refine Ev.shift ?_
    cases b
    · simp only [trustquorumlaw16_DangerUniform.j2, Bool.false_eq_true, if_false]
      refine Ev.bind1 hsz ?_
      simp only [Bool.false_eq_true, if_false, Nat.add_zero] at k
      by_cases h : (pcn z : Int) = w
      · simp only [hw, h, if_true, hw2, hwz]
        simp only [h, decide_true, if_true] at k
        exact k
      · simp only [hw, h, if_false, hwz]
        simp only [h, decide_false, Bool.false_eq_true, if_false, Nat.add_zero] at k
        exact k
    · simp only [trustquorumlaw16_DangerUniform.j2, if_true]
      refine Ev.bind1 hsz ?_
      simp only [if_true] at k
      by_cases h : (pcn z : Int) = w
      · simp only [hw, h, if_true, hw1, hw2, hwz]
        simp only [h, decide_true, if_true] at k
        exact k
      · simp only [hw, h, if_false, hw1, hwz]
        simp only [h, decide_false, Bool.false_eq_true, if_false, Nat.add_zero] at k
        exact k
  refine Ev.shift ?_
  simp only [trustquorumlaw16_DangerUniform.l0, h0, hlt, if_true]
  refine Ev.bind1 hsz ?_
  by_cases h : (pcn z : Int) = x17
  · simp only [h, if_true, hlb]
    exact j2 lb (by rw [decide_eq_true h, Bool.true_and])
  · simp only [h, if_false]
    exact j2 false (by rw [decide_eq_false h, Bool.false_and])
theorem DangerUniform : trustquorumlaw16_DangerUniform.Pure := by
  intro a0 a1 h1 h2
  have e1 : IntKind.u8.min = 0 := by decide
  have e2 : IntKind.u8.max = 255 := by decide
  have h1' : 0 ≤ a0 ∧ a0 < 256 := by have h := h1; simp [Lit.wf] at h; omega
  have h2' : 0 ≤ a1 ∧ a1 < 256 := by have h := h2; simp [Lit.wf] at h; omega
  clear e1 e2
  suffices h : Ev (fun k => trustquorumlaw16_DangerUniform.f k a0 a1) true from h.rounds
  clear h1 h2
  obtain ⟨n, hn, hn1, hn8⟩ : ∃ n : Nat, wrap64 (1 + Int.tmod (wrap64 a0) 7) = (n : Int) ∧ 1 ≤ n ∧ n < 8 := by
    have e1 : wrap64 a0 = a0 := w64 (by omega) (by omega)
    have e2 : Int.tmod a0 7 = a0 % 7 := Int.tmod_eq_emod_of_nonneg (by omega)
    rw [e1, e2, w64 (by omega) (by omega)]
    exact ⟨(1 + a0 % 7).toNat, by omega, by omega, by omega⟩
  obtain ⟨t, ht, ht1, htn⟩ : ∃ t : Nat, wrap64 (1 + Int.tmod (wrap64 a1) (n : Int)) = (t : Int) ∧ 1 ≤ t ∧ t ≤ n := by
    have e1 : wrap64 a1 = a1 := w64 (by omega) (by omega)
    have e2 : Int.tmod a1 (n : Int) = a1 % (n : Int) := Int.tmod_eq_emod_of_nonneg (by omega)
    have e3 := Int.emod_nonneg a1 (show (n : Int) ≠ 0 by omega)
    have e4 := Int.emod_lt_of_pos a1 (show 0 < (n : Int) by omega)
    rw [e1, e2, w64 (by omega) (by omega)]
    exact ⟨(1 + a1 % (n : Int)).toNat, by omega, by omega, by omega⟩
  have hn0 : ¬ (n : Int) = 0 := by omega
  obtain ⟨hv, hck, hu⟩ := u_ok n (by omega) t (by omega) hn1 ht1 htn
  have hok := same_okC (n := n) (t := t) hn1 (by omega) hv hu
  have hlen : (sameC n (t : Int)).length = n := by simp [sameC]
  have hs := sameB_ev (n := n) (by omega) (t : Int)
  have hSp := Splitting_ev hok (by omega)
  have hHa := Halting_ev hok.light (by omega) hok.valC
  have hTo := Tolerates_ev hok (by omega)
  rw [hlen] at hSp hHa hTo
  have hhal : ∀ s, s < 2 ^ n → hal (sameC n (t : Int)) s = decide (n + 1 - t ≤ pcn s ∧ pcn s ≤ n) := fun s hs => by
    rw [hal_same (by omega) hck hs]
    have := pcn_bound n (by omega) s hs
    rw [decide_eq_decide]
    omega
  have hHt := lst_tol (p := hal (sameC n (t : Int))) (show n ≤ 10 by omega) (show n + 1 - t ≤ n by omega) (by omega) hhal
  have hHc := lst_count (p := hal (sameC n (t : Int))) (show n ≤ 10 by omega) (show n + 1 - t ≤ n by omega) hhal
  have hHm : ∀ x ∈ lstB (hal (sameC n (t : Int))) n, ∃ q : Nat, x = (q : Int) ∧ q < 1024 ∧ pcn q = n + 1 - t := fun x hx => by
    have hp := pow10 (show n ≤ 10 by omega)
    obtain ⟨q, h3, h4, h5⟩ := (lst_size (p := hal (sameC n (t : Int))) (show n ≤ 10 by omega) (show n + 1 - t ≤ n by omega) hhal).1 hx
    exact ⟨q, h3, by omega, h5⟩
  have hspl : ∀ s, s < 2 ^ n → spl (sameC n (t : Int)) s = decide (2 * t ≤ n + pcn s ∧ pcn s + 2 ≤ n) := fun s hs => spl_same (by omega) ht1 htn hs
  have hS : (∀ x ∈ lstB (spl (sameC n (t : Int))) n, ∃ q : Nat, x = (q : Int) ∧ q < 1024 ∧ pcn q = 2 * t - n) ∧
      (t = n → (lstB (spl (sameC n (t : Int))) n).length = 0 ∧ tol n (lstB (spl (sameC n (t : Int))) n) = (n : Int)) ∧
      (t < n → (lstB (spl (sameC n (t : Int))) n).length = ((List.range (2 ^ n)).countP fun z => decide (pcn z = 2 * t - n)) ∧ tol n (lstB (spl (sameC n (t : Int))) n) = ((2 * t - n : Nat) : Int) - 1) := by
    have hp := pow10 (show n ≤ 10 by omega)
    rcases Nat.lt_or_ge t n with h | h
    · have hs2 : ∀ s, s < 2 ^ n → spl (sameC n (t : Int)) s = decide (2 * t - n ≤ pcn s ∧ pcn s ≤ n - 2) := fun s hs => by
        rw [hspl s hs, decide_eq_decide]
        omega
      refine ⟨fun x hx => ?_, fun e => absurd e (by omega), fun _ => ⟨lst_count (show n ≤ 10 by omega) (show 2 * t - n ≤ n - 2 by omega) hs2, lst_tol (show n ≤ 10 by omega) (show 2 * t - n ≤ n - 2 by omega) (by omega) hs2⟩⟩
      obtain ⟨q, h3, h4, h5⟩ := (lst_size (show n ≤ 10 by omega) (show 2 * t - n ≤ n - 2 by omega) hs2).1 hx
      exact ⟨q, h3, by omega, h5⟩
    · have hnone := lst_none (p := spl (sameC n (t : Int))) (show n ≤ 10 by omega) fun s hs => by
        rw [hspl s hs]
        have := pcn_bound n (by omega) s hs
        simp
        omega
      rw [hnone]
      exact ⟨fun x hx => (by cases hx), fun _ => ⟨rfl, by rw [tol, if_pos rfl]⟩, fun h' => absurd h' (by omega)⟩
  have hm : mx 0 (wrap64 (wrap64 (2 * (t : Int)) - (n : Int))) = ((2 * t - n : Nat) : Int) := by
    rw [mx_max, w64 (n := 2 * (t : Int)) (by omega) (by omega), w64 (by omega) (by omega)]
    omega
  have hw : wrap64 (wrap64 ((n : Int) - (t : Int)) + 1) = ((n + 1 - t : Nat) : Int) := by
    rw [w64 (n := (n : Int) - (t : Int)) (by omega) (by omega), w64 (by omega) (by omega)]
    omega
  have hwd : wrap64 ((n : Int) - (t : Int)) = ((n + 1 - t : Nat) : Int) - 1 := by
    rw [w64 (by omega) (by omega)]
    omega
  have hHl := lst_len (hal (sameC n (t : Int))) (show n ≤ 10 by omega)
  have hSl := lst_len (spl (sameC n (t : Int))) (show n ≤ 10 by omega)
  simp only [trustquorumlaw16_DangerUniform.f, hn, ht, hn0, if_false]
  refine Ev.bind1 hs ?_
  refine Ev.bind1 hSp ?_
  refine Ev.bind1 hHa ?_
  refine Ev.bind1 hTo ?_
  simp only [if_true, hHt, hwd, bne_self_eq_false]
  refine Ev.shift ?_
  simp only [trustquorumlaw16_DangerUniform.j0, Bool.false_eq_true, if_false, hm]
  obtain ⟨hSm, hS1, hS2⟩ := hS
  clear hs hSp hHa hTo hHt hhal hspl hwd hm hlen hok hv hck hu hn ht h1' h2'
  generalize lstB (spl (sameC n (t : Int))) n = M at hSm hS1 hS2 hSl
  generalize lstB (hal (sameC n (t : Int))) n = H at hHm hHc hHl
  have hnn : (0 : Int) ≤ n := by omega
  have hp := pow10 (show n ≤ 10 by omega)
  have hsh : shl .i64 1 (n : Int) = ((2 ^ n : Nat) : Int) := shl_nat (by omega)
  generalize 2 ^ n = N at hp hsh hHc hS2
  have hN : N < 4611686018427387904 := Nat.lt_of_le_of_lt hp (by decide)
  obtain ⟨lb, hlb⟩ : ∃ lb, decide ((t : Int) < (n : Int)) = lb := ⟨_, rfl⟩
  refine Ev.count (L := fun (c : Nat × Nat) i k => trustquorumlaw16_DangerUniform.l0 k (n : Int) (t : Int) M H (tol n M) (c.1 : Int) (c.2 : Int) ((2 * t - n : Nat) : Int) i) N hN (fun i c => c.1 = ((List.range i).countP fun z => decide ((pcn z : Int) = ((2 * t - n : Nat) : Int)) && lb) ∧ c.2 = (List.range i).countP fun z => decide ((pcn z : Int) = ((n + 1 - t : Nat) : Int))) ?_ ?_ (0, 0) ⟨rfl, rfl⟩
  · rintro ⟨a, b⟩ ⟨ha, hb⟩
    simp only at ha hb
    have hlt : ¬ (N : Int) < (N : Int) := Int.lt_irrefl _
    have hb' : (H.length : Int) = (b : Int) := by
      rw [hHc, hb]
      congr 2
      funext z
      rw [decide_eq_decide]
      exact Int.ofNat_inj.symm
    refine Ev.shift ?_
    simp only [trustquorumlaw16_DangerUniform.l0, hnn, hsh, hlt, if_true, if_false]
    have hMl : M.length < 4611686018427387904 := Nat.lt_of_le_of_lt hSl (by decide)
    have hHl' : H.length < 4611686018427387904 := Nat.lt_of_le_of_lt hHl (by decide)
    refine Ev.fold (xs := M) (L := fun (u : Unit) i k => trustquorumlaw16_DangerUniform.l1 k (n : Int) (t : Int) M H (tol n M) (a : Int) (b : Int) ((2 * t - n : Nat) : Int) M (M.length : Int) i) hMl (fun _ _ _ => True) ?_ ?_ () trivial
    · intro u i _ hi
      refine Ev.shift ?_
      simp only [trustquorumlaw16_DangerUniform.l1, hi, if_false]
      refine Ev.fold (xs := H) (L := fun (u : Unit) i k => trustquorumlaw16_DangerUniform.l2 k (n : Int) (t : Int) M H (tol n M) (a : Int) (b : Int) ((2 * t - n : Nat) : Int) H (H.length : Int) i) hHl' (fun _ _ _ => True) ?_ ?_ () trivial
      · intro u i _ hi
        refine Ev.shift ?_
        simp only [trustquorumlaw16_DangerUniform.l2, hi, if_false]
        rcases Nat.lt_or_ge t n with h | h
        · have hne : ¬ (t : Int) = (n : Int) := by clear hsh hw; omega
          obtain ⟨h3, h4⟩ := hS2 h
          have hl : lb = true := by rw [← hlb, decide_eq_true_eq]; clear hsh hw; omega
          have ha' : (M.length : Int) = (a : Int) := by
            rw [h3, ha, hl]
            congr 2
            funext z
            rw [Bool.and_true, decide_eq_decide]
            exact Int.ofNat_inj.symm
          have hwm : wrap64 (((2 * t - n : Nat) : Int) - 1) = ((2 * t - n : Nat) : Int) - 1 := by clear hsh hw; exact w64 (by omega) (by omega)
          simp only [hne, if_false, ha', hb', if_true, h4, hwm]
          refine Ev.bind1 awake16_ev ?_
          exact Ev.now _
        · have he : (t : Int) = (n : Int) := by clear hsh hw; omega
          obtain ⟨h3, h4⟩ := hS1 (by clear hsh hw; omega)
          have h3' : (M.length : Int) = 0 := by rw [h3]; rfl
          simp only [he, if_true, h3', h4, hb']
          refine Ev.bind1 awake16_ev ?_
          exact Ev.now _
      · intro pre y ys u i e _ hi h0 hlti hwi hrd
        refine Or.inl ⟨(), trivial, fun k => ?_⟩
        obtain ⟨q, rfl, hq10, hqt⟩ := hHm y (by rw [e]; simp)
        refine Ev.shift ?_
        simp only [trustquorumlaw16_DangerUniform.l2, h0, hlti, hwi, if_true, Go.Proofs.YtkjlcbfjllpcnaaW.PrintWords.rd, hrd]
        refine Ev.bind1 (ref_SizeEv hq10) ?_
        rw [hqt]
        simp only [hw, if_true]
        exact k
    · intro pre y ys u i e _ hi h0 hlti hwi hrd
      refine Or.inl ⟨(), trivial, fun k => ?_⟩
      obtain ⟨q, rfl, hq10, hqt⟩ := hSm y (by rw [e]; simp)
      refine Ev.shift ?_
      simp only [trustquorumlaw16_DangerUniform.l1, h0, hlti, hwi, if_true, Go.Proofs.YtkjlcbfjllpcnaaW.PrintWords.rd, hrd]
      refine Ev.bind1 (ref_SizeEv hq10) ?_
      rw [hqt]
      simp only [if_true]
      exact k
  · rintro i ⟨a, b⟩ hi ⟨ha, hb⟩ hwi
    simp only at ha hb
    have hi10 : i < 1024 := Nat.lt_of_lt_of_le hi hp
    have hlt : (i : Int) < shl .i64 1 (n : Int) := by rw [hsh]; exact Int.ofNat_lt.2 hi
    have hle : a ≤ i := by rw [ha]; have := List.countP_le_length (p := fun z => decide ((pcn z : Int) = ((2 * t - n : Nat) : Int)) && lb) (l := List.range i); rwa [List.length_range] at this
    have hle2 : b ≤ i := by rw [hb]; have := List.countP_le_length (p := fun z => decide ((pcn z : Int) = ((n + 1 - t : Nat) : Int))) (l := List.range i); rwa [List.length_range] at this
    have hw1 : wrap64 ((a : Int) + 1) = ((a + 1 : Nat) : Int) := by clear hsh hwi hw hlt; exact w64 (by omega) (by omega)
    have hw2 : wrap64 ((b : Int) + 1) = ((b + 1 : Nat) : Int) := by clear hsh hwi hw hlt hw1; exact w64 (by omega) (by omega)
    refine Or.inl ⟨(a + (if (decide ((pcn i : Int) = ((2 * t - n : Nat) : Int)) && lb) = true then 1 else 0), b + (if decide ((pcn i : Int) = ((n + 1 - t : Nat) : Int)) = true then 1 else 0)), ⟨?_, ?_⟩, fun k => ?_⟩
    · rw [ha, List.range_succ, List.countP_append, List.countP_singleton]
    · rw [hb, List.range_succ, List.countP_append, List.countP_singleton]
    · exact fold_ev (c := (a, b)) hi10 hw hlb hnn hlt hw1 hw2 hwi k
end Go.Proofs.Ytkjlcbfjllpcnaa.Pure
