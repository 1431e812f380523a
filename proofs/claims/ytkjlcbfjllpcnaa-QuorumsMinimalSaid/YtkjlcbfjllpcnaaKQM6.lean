/- Proof of the statement QuorumsMinimal: part 6 of 7, what it computes and why that answers true. -/
import Derived.Test.YtkjlcbfjllpcnaaKQM5
set_option linter.unusedVariables false
set_option linter.unusedSimpArgs false
namespace Go.Proofs.Ytkjlcbfjllpcnaa.X
open Go.RowKit Go.Lib Go.Sort Go.Proofs.YtkjlcbfjllpcnaaW.PrintWords Go.Proofs.YtkjlcbfjllpcnaaW.PrintLast Go.Proofs.YtkjlcbfjllpcnaaW.PrintMore
set_option linter.unusedVariables false
theorem ltS_irrefl (x : Int) : ¬ ltS x x := by unfold ltS; omega
theorem ltS_tri {x y : Int} (h : ¬ ltS x y) (k : x ≠ y) : ltS y x := by unfold ltS at *; omega
def Mini (l : List Int) (x : Int) : Prop := x ∈ l ∧ vld x = true ∧ ∀ y ∈ l, vld y = true → Sub y.toNat x.toNat → y = x
theorem vld_cast {x : Int} (h : vld x = true) : ∃ n : Nat, x = (n : Int) ∧ n < 1024 := by
  rw [vld_iff] at h
  exact ⟨x.toNat, by omega, by omega⟩
theorem sub_v {x y : Int} (hx : vld x = true) (hy : vld y = true) : sub x y = true ↔ Sub x.toNat y.toNat := by
  obtain ⟨a, rfl, ha⟩ := vld_cast hx
  obtain ⟨b, rfl, hb⟩ := vld_cast hy
  rw [sub_nat ha hb, Int.toNat_natCast, Int.toNat_natCast]
theorem pcn_sub {a b : Nat} (hb : b < 1024) (h : Sub a b) (hne : a ≠ b) : pcn a < pcn b := by
  have hex : ∃ i, i < 10 ∧ b.testBit i = true ∧ a.testBit i = false := by
    apply Classical.byContradiction
    intro hn
    refine hne (Sub.eq h fun i hi => ?_)
    cases ha : a.testBit i
    · refine absurd ⟨i, ?_, hi, ha⟩ hn
      rcases Nat.lt_or_ge i 10 with h | h
      · exact h
      · rw [bit_lt (n := 10) hb h] at hi; cases hi
    · rfl
  obtain ⟨i, h10, hbi, hai⟩ := hex
  refine Nat.lt_of_lt_of_le (pcn_lt h10 hai) ?_
  unfold pcn
  refine List.countP_mono_left fun k _ hk => ?_
  exact (Sub.or h (Sub.two hbi)) k hk
theorem ltS_of_sub {x y : Int} (hx : vld x = true) (hy : vld y = true) (h : Sub x.toNat y.toNat) (hne : x ≠ y) : ltS x y := by
  obtain ⟨a, rfl, ha⟩ := vld_cast hx
  obtain ⟨b, rfl, hb⟩ := vld_cast hy
  rw [Int.toNat_natCast, Int.toNat_natCast] at h
  have := pcn_sub hb h (by omega)
  left
  unfold rank size
  rw [vld_nat ha, vld_nat hb]
  simp only [if_true, Int.toNat_natCast]
  omega
theorem leastFold_spec (l : List Int) (hv : ∀ x ∈ l, vld x = true) (hs : l.Pairwise leS) : (leastFold l).Pairwise ltS ∧ ∀ x, x ∈ leastFold l ↔ Mini l x := by
  have key : ∀ (rest pre out : List Int), l = pre ++ rest → out.Pairwise ltS → (∀ x ∈ out, x ∈ pre ∧ Mini l x) → (∀ x ∈ pre, ∃ t ∈ out, Sub t.toNat x.toNat) →
      (rest.foldl leastStep out).Pairwise ltS ∧ ∀ x, x ∈ rest.foldl leastStep out ↔ Mini l x := by
    intro rest
    induction rest with
    | nil =>
      intro pre out e h1 h2 h3
      rw [List.append_nil] at e
      subst e
      refine ⟨h1, fun x => ⟨fun h => (h2 x h).2, fun h => ?_⟩⟩
      obtain ⟨t, ht, hts⟩ := h3 x h.1
      have := h.2.2 t (h2 t ht).1 (h2 t ht).2.2.1 hts
      rw [← this]; exact ht
    | cons y ys ih =>
      intro pre out e h1 h2 h3
      rw [List.foldl_cons]
      have hy : y ∈ l := by rw [e]; simp
      have hvy := hv y hy
      by_cases ha : (out.any fun t => sub t y) = true
      · rw [leastStep, if_pos ha]
        obtain ⟨t, ht, hts⟩ := List.any_eq_true.1 ha
        refine ih (pre ++ [y]) out (by rw [e]; simp) h1 (fun x hx => ⟨by simp [(h2 x hx).1], (h2 x hx).2⟩) fun x hx => ?_
        rcases List.mem_append.1 hx with h | h
        · exact h3 x h
        · rw [List.mem_singleton.1 h]
          exact ⟨t, ht, (sub_v (h2 t ht).2.2.1 hvy).1 hts⟩
      · rw [leastStep, if_neg ha]
        have hno : ∀ t ∈ out, ¬ Sub t.toNat y.toNat := fun t ht hh => ha (List.any_eq_true.2 ⟨t, ht, (sub_v (h2 t ht).2.2.1 hvy).2 hh⟩)
        have hpy : ∀ x ∈ pre, leS x y := by
          intro x hx
          rw [e, List.pairwise_append] at hs
          exact hs.2.2 x hx y (by simp)
        have hmin : Mini l y := by
          refine ⟨hy, hvy, fun z hz hvz hzy => ?_⟩
          apply Classical.byContradiction
          intro hne
          have hlt := ltS_of_sub hvz hvy hzy hne
          have hzp : z ∈ pre := by
            rw [e] at hz
            rcases List.mem_append.1 hz with h | h
            · exact h
            · rcases List.mem_cons.1 h with h | h
              · exact absurd h hne
              · rw [e, List.pairwise_append, List.pairwise_cons] at hs
                exact absurd hlt (hs.2.1.1 z h)
          obtain ⟨t, ht, hts⟩ := h3 z hzp
          exact hno t ht (hts.trans hzy)
        refine ih (pre ++ [y]) (out ++ [y]) (by rw [e]; simp) ?_ ?_ ?_
        · rw [List.pairwise_append]
          refine ⟨h1, by simp, fun a ha b hb => ?_⟩
          rw [List.mem_singleton.1 hb]
          refine ltS_tri (hpy a (h2 a ha).1) fun hh => ?_
          exact hno a ha (by rw [hh]; exact Sub.refl _)
        · intro x hx
          rcases List.mem_append.1 hx with h | h
          · exact ⟨by simp [(h2 x h).1], (h2 x h).2⟩
          · rw [List.mem_singleton.1 h]; exact ⟨by simp, hmin⟩
        · intro x hx
          rcases List.mem_append.1 hx with h | h
          · obtain ⟨t, ht, hts⟩ := h3 x h
            exact ⟨t, by simp [ht], hts⟩
          · rw [List.mem_singleton.1 h]; exact ⟨y, by simp, Sub.refl _⟩
  exact key l [] [] rfl List.Pairwise.nil (by simp) (by simp)
theorem leastS_spec (l : List Int) : (leastS l).Pairwise ltS ∧ ∀ x, x ∈ leastS l ↔ Mini l x := by
  have hm : ∀ x, x ∈ sortS (l.filter vld) ↔ x ∈ l ∧ vld x = true := fun x => by rw [(sortS_perm _).mem_iff, List.mem_filter]
  have := leastFold_spec (sortS (l.filter vld)) (fun x hx => ((hm x).1 hx).2) (sortS_sorted _)
  refine ⟨this.1, fun x => (this.2 x).trans ?_⟩
  unfold Mini
  rw [hm]
  constructor
  · rintro ⟨⟨h1, h2⟩, h3, h4⟩
    exact ⟨h1, h2, fun y hy hv => h4 y ((hm y).2 ⟨hy, hv⟩) hv⟩
  · rintro ⟨h1, h2, h3⟩
    exact ⟨⟨h1, h2⟩, h2, fun y hy hv => h3 y ((hm y).1 hy).1 hv⟩
end Go.Proofs.Ytkjlcbfjllpcnaa.X
namespace Go.Proofs.Ytkjlcbfjllpcnaa.X
open Go.RowKit Go.Proofs.YtkjlcbfjllpcnaaW.PrintWords Go.Proofs.YtkjlcbfjllpcnaaW.PrintLast Go.Proofs.YtkjlcbfjllpcnaaW.PrintMore
set_option linter.unusedVariables false
def unh (c : List S34) (x : Nat) : Option Int := (nodesL x).find? fun j => !(sat x (c.getD j.toNat z34).f1)
theorem bit10 {x i : Nat} (hx : x < 1024) (hi : x.testBit i = true) : i < 10 := by
  rcases Nat.lt_or_ge i 10 with h | h
  · exact h
  · rw [bit_lt (n := 10) hx h] at hi; cases hi
theorem unh_none {c : List S34} {x : Nat} (hx : x < 1024) : unh c x = none ↔ ∀ i, x.testBit i = true → sat x (c.getD i z34).f1 = true := by
  unfold unh
  rw [List.find?_eq_none]
  constructor
  · intro h i hi
    have := h (i : Int) (nodesL_mem.2 (inS_iff.2 ⟨i, rfl, bit10 hx hi, hi⟩))
    rw [Int.toNat_natCast] at this
    simpa using this
  · intro h j hj
    obtain ⟨i, rfl, h10, hi⟩ := inS_iff.1 (nodesL_mem.1 hj)
    rw [Int.toNat_natCast, h i hi]
    simp
theorem unh_some {c : List S34} {x : Nat} {j : Int} (h : unh c x = some j) : ∃ i : Nat, j = (i : Int) ∧ i < 10 ∧ x.testBit i = true ∧ sat x (c.getD i z34).f1 = false := by
  have h1 := List.find?_some h
  have h2 := List.mem_of_find?_eq_some h
  obtain ⟨i, rfl, h10, hi⟩ := inS_iff.1 (nodesL_mem.1 h2)
  rw [Int.toNat_natCast] at h1
  exact ⟨i, rfl, h10, hi, by simpa using h1⟩
def grtF (c : List S34) : Nat → Nat → Nat
  | 0, x => x
  | n + 1, x => match unh c x with
    | none => x
    | some j => grtF c n (dif x (2 ^ j.toNat))
def elimF (c : List S34) : Nat → Nat → List Int
  | 0, x => []
  | n + 1, x => match unh c x with
    | none => []
    | some j => j :: elimF c n (dif x (2 ^ j.toNat))
def grt (c : List S34) (x : Nat) : Nat := grtF c 11 (x &&& decl c)
theorem pcn_dif {x i : Nat} (h10 : i < 10) (h : x.testBit i = true) : pcn (dif x (2 ^ i)) < pcn x := by
  have h1 : (dif x (2 ^ i)).testBit i = false := by rw [dif_bit, two_bit]; simp
  have h2 := pcn_lt h10 h1
  have h3 : dif x (2 ^ i) ||| 2 ^ i = x := eq_bits fun j => by
    rw [or_bit, dif_bit, two_bit]
    by_cases e : i = j
    · subst e; simp [h]
    · simp [e]
  rwa [h3] at h2
theorem dif_sub' (a b : Nat) : Sub (dif a b) a := fun i hi => by rw [dif_bit, Bool.and_eq_true] at hi; exact hi.1
theorem Sub.lt {a b : Nat} (h : Sub a b) (hb : b < 1024) : a < 1024 := lt_of_bits (n := 10) fun i hi => by
  cases ha : a.testBit i
  · rfl
  · rw [← h i ha]; exact bit_lt hb hi
theorem Sub.le {a b : Nat} (h : Sub a b) : a ≤ b := by
  rw [← sub_and.2 h]; exact Nat.and_le_right
theorem quo_sat {c : List S34} {q i : Nat} (hq : q < 1024) (h : quo c q = true) (hi : q.testBit i = true) : sat q (c.getD i z34).f1 = true := ((quo_iff hq).1 h).2.2 i hi
theorem grtF_spec {c : List S34} : ∀ n x, x < 1024 → pcn x < n →
    unh c (grtF c n x) = none ∧ Sub (grtF c n x) x ∧ (∀ q, q < 1024 → quo c q = true → Sub q x → Sub q (grtF c n x))
  | 0, x, _, h => absurd h (by omega)
  | n + 1, x, hx, h => by
    rw [grtF]
    cases hu : unh c x with
    | none => exact ⟨hu, Sub.refl _, fun q _ _ h => h⟩
    | some j =>
      obtain ⟨i, rfl, h10, hi, hs⟩ := unh_some hu
      simp only [Int.toNat_natCast]
      have h1 := pcn_dif h10 hi
      have h2 := grtF_spec (c := c) n (dif x (2 ^ i)) (dif_lt (n := 10) hx) (by omega)
      refine ⟨h2.1, h2.2.1.trans (dif_sub' _ _), fun q hq hqq hsub => h2.2.2 q hq hqq fun k hk => ?_⟩
      rw [dif_bit, hsub k hk, two_bit]
      by_cases e : i = k
      · subst e
        rw [sat_mono hsub _ (quo_sat hq hqq hk)] at hs
        cases hs
      · simp [e]
theorem and_lt10 {a b : Nat} (hb : b < 1024) : a &&& b < 1024 := Nat.lt_of_le_of_lt Nat.and_le_right hb
theorem grt_un {c : List S34} (x : Nat) : unh c (grt c x) = none ∧ Sub (grt c x) (x &&& decl c) ∧ ∀ q, q < 1024 → quo c q = true → Sub q (x &&& decl c) → Sub q (grt c x) :=
  grtF_spec 11 _ (and_lt10 (decl_lt c)) (by have := pcn_le (x &&& decl c); omega)
theorem grt_sub (c : List S34) (x : Nat) : Sub (grt c x) x := fun i hi => by
  have := (grt_un (c := c) x).2.1 i hi
  rw [and_bit, Bool.and_eq_true] at this
  exact this.1
theorem grt_decl (c : List S34) (x : Nat) : Sub (grt c x) (decl c) := fun i hi => by
  have := (grt_un (c := c) x).2.1 i hi
  rw [and_bit, Bool.and_eq_true] at this
  exact this.2
theorem grt_lt (c : List S34) (x : Nat) : grt c x < 1024 := (grt_decl c x).lt (decl_lt c)
theorem grt_quo {c : List S34} {x : Nat} (h : grt c x ≠ 0) : quo c (grt c x) = true :=
  (quo_iff (grt_lt c x)).2 ⟨h, grt_decl c x, (unh_none (grt_lt c x)).1 (grt_un x).1⟩
theorem grt_max {c : List S34} {x q : Nat} (hq : q < 1024) (h : quo c q = true) (hs : Sub q x) : Sub q (grt c x) :=
  (grt_un x).2.2 q hq h fun i hi => by rw [and_bit, hs i hi, ((quo_iff hq).1 h).2.1 i hi]; rfl
theorem Sub.zero {a : Nat} (h : Sub a 0) : a = 0 := h.eq fun i hi => by rw [Nat.zero_testBit] at hi; cases hi
theorem grt_ne {c : List S34} {x q : Nat} (hq : q < 1024) (h : quo c q = true) (hs : Sub q x) : grt c x ≠ 0 := fun e => by
  have h1 := grt_max hq h hs
  rw [e] at h1
  exact ((quo_iff hq).1 h).1 h1.zero
def allQ (c : List S34) : List Int := ((List.range (2 ^ c.length)).filter fun x => quo c x).map Int.ofNat
theorem quo_range {c : List S34} (hn : c.length ≤ 10) {q : Nat} (hq : q < 1024) (h : quo c q = true) : q < 2 ^ c.length := lt_of_bits fun i hi => by
  cases hb : q.testBit i
  · rfl
  · have := decl_len (((quo_iff hq).1 h).2.1 i hb); omega
theorem pow10 {n : Nat} (hn : n ≤ 10) : 2 ^ n ≤ 1024 := Nat.pow_le_pow_right (n := 2) (by decide) hn
theorem allQ_mem {c : List S34} (hn : c.length ≤ 10) {x : Int} : x ∈ allQ c ↔ ∃ q : Nat, x = (q : Int) ∧ q < 1024 ∧ quo c q = true := by
  have hp := pow10 hn
  unfold allQ
  rw [List.mem_map]
  constructor
  · rintro ⟨q, hq, rfl⟩
    rw [List.mem_filter, List.mem_range] at hq
    exact ⟨q, rfl, by omega, hq.2⟩
  · rintro ⟨q, rfl, h1, h2⟩
    exact ⟨q, by rw [List.mem_filter, List.mem_range]; exact ⟨quo_range hn h1 h2, h2⟩, rfl⟩
theorem allQ_len (c : List S34) (hn : c.length ≤ 10) : (allQ c).length ≤ 1024 := by
  have hp := pow10 hn
  unfold allQ
  rw [List.length_map]
  exact Nat.le_trans (List.length_filter_le _ _) (by simpa using hp)
def minQ (c : List S34) : List Int := leastS (allQ c)
def MinQ (c : List S34) (q : Nat) : Prop := q < 1024 ∧ quo c q = true ∧ ∀ p, p < 1024 → quo c p = true → Sub p q → p = q
theorem minQ_mem {c : List S34} (hn : c.length ≤ 10) {x : Int} : x ∈ minQ c ↔ ∃ q : Nat, x = (q : Int) ∧ MinQ c q := by
  unfold minQ MinQ
  rw [(leastS_spec _).2]
  unfold Mini
  rw [allQ_mem hn]
  constructor
  · rintro ⟨⟨q, rfl, h1, h2⟩, h3, h4⟩
    refine ⟨q, rfl, h1, h2, fun p hp hq hs => ?_⟩
    have := h4 (p : Int) ((allQ_mem hn).2 ⟨p, rfl, hp, hq⟩) (vld_nat hp) (by rw [Int.toNat_natCast, Int.toNat_natCast]; exact hs)
    omega
  · rintro ⟨q, rfl, h1, h2, h3⟩
    refine ⟨⟨q, rfl, h1, h2⟩, vld_nat h1, fun y hy hv hs => ?_⟩
    obtain ⟨p, rfl, hp, hq⟩ := (allQ_mem hn).1 hy
    rw [Int.toNat_natCast, Int.toNat_natCast] at hs
    rw [h3 p hp hq hs]
theorem minQ_ex {c : List S34} : ∀ (q : Nat), q < 1024 → quo c q = true → ∃ p, MinQ c p ∧ Sub p q := by
  intro q
  induction q using Nat.strongRecOn with
  | _ q ih =>
    intro hq h
    by_cases hm : ∃ p, p < 1024 ∧ quo c p = true ∧ Sub p q ∧ p ≠ q
    · obtain ⟨p, h1, h2, h3, h4⟩ := hm
      obtain ⟨r, h5, h6⟩ := ih p (by have := h3.le; omega) h1 h2
      exact ⟨r, h5, h6.trans h3⟩
    · refine ⟨q, ⟨hq, h, fun p h1 h2 h3 => ?_⟩, Sub.refl _⟩
      apply Classical.byContradiction
      intro h4
      exact hm ⟨p, h1, h2, h3, h4⟩
theorem minQ_len (c : List S34) (hn : c.length ≤ 10) : (minQ c).length ≤ 1024 := by
  have hne : ∀ {a b : Int}, ltS a b → a ≠ b := fun {a b} h e => ltS_irrefl a (by rw [← e] at h; exact h)
  have hnd : (minQ c).Nodup := List.Pairwise.imp hne (leastS_spec _).1
  exact Nat.le_trans (hnd.length_le_of_subset fun x hx => (((leastS_spec _).2 x).1 hx).1) (allQ_len c hn)
theorem content_ev {c : List S34} (hc : Light c) {x j : Nat} (hx : x < 1024) (hj : j < c.length) : Ev (fun k => closure_content.f k c (j : Int) (x : Int)) (sat x (c.getD j z34).f1) := by
  have hj0 : (0 : Int) ≤ j := by omega
  have hj1 : (j : Int) < (c.length : Int) := by omega
  have hsat := Sat_ev hx 1000000 _ (hc.at j) (by decide)
  simp only [closure_content.f, hj0, hj1, Int.toNat_natCast, Option.bind_some, ↓reduceIte, Bool.false_eq_true, reduceCtorEq, decide_eq_true_eq, Go.Proofs.YtkjlcbfjllpcnaaW.PrintWords.rd, rd_T32, rd_T34]
  refine Ev.bind1 hsat ?_
  exact Ev.now _
def optN : Option Int → Int × Bool
  | some j => (j, true)
  | none => (0, false)
theorem unhappy_ev {c : List S34} (hc : Light c) {x : Nat} (hx : x < 1024) (hd : Sub x (decl c)) : Ev (fun k => closure_unhappy.f k c (x : Int)) (optN (unh c x)) := by
  simp only [closure_unhappy.f]
  refine Ev.bind1 (Nodes_ev hx) ?_
  have hl := nodesL_len x
  refine Ev.fold (xs := nodesL x) (L := fun (a : Unit) i k => closure_unhappy.l0 k (x : Int) (nodesL x) ((nodesL x).length : Int) i c) (by omega) (fun pre ys a => (ys.find? fun j => !(sat x (c.getD j.toNat z34).f1)) = unh c x) ?_ ?_ () rfl
  · intro a i hI hi
    rw [List.find?_nil] at hI
    (refine Ev.shift ?_; simp only [closure_unhappy.l0, hi, Option.bind_some, ↓reduceIte, Bool.false_eq_true, reduceCtorEq, decide_eq_true_eq, Go.Proofs.YtkjlcbfjllpcnaaW.PrintWords.rd, rd_T32, rd_T34])
    rw [← hI]
    exact Ev.now _
  · intro pre y ys a i e hI hi h0 hlt hw hrd
    obtain ⟨j, rfl, h10, hj⟩ := inS_iff.1 (nodesL_mem.1 (show y ∈ nodesL x by rw [e]; simp))
    have hcon := content_ev hc hx (decl_len (hd j hj))
    rw [List.find?_cons, Int.toNat_natCast] at hI
    cases hs : sat x (c.getD j z34).f1
    · refine Or.inr ?_
      rw [hs] at hI
      simp only [Bool.not_false] at hI
      rw [← hI]
      (refine Ev.shift ?_; simp only [closure_unhappy.l0, h0, hlt, hw, hrd, Option.bind_some, ↓reduceIte, Bool.false_eq_true, reduceCtorEq, decide_eq_true_eq, Go.Proofs.YtkjlcbfjllpcnaaW.PrintWords.rd, rd_T32, rd_T34])
      refine Ev.bind1 hcon ?_
      rw [hs]
      exact Ev.now _
    · rw [hs] at hI
      simp only [Bool.not_true] at hI
      refine Or.inl ⟨(), hI, fun k => ?_⟩
      (refine Ev.shift ?_; simp only [closure_unhappy.l0, h0, hlt, hw, hrd, Option.bind_some, ↓reduceIte, Bool.false_eq_true, reduceCtorEq, decide_eq_true_eq, Go.Proofs.YtkjlcbfjllpcnaaW.PrintWords.rd, rd_T32, rd_T34])
      refine Ev.bind1 hcon ?_
      rw [hs]
      exact k
theorem quo_unh {c : List S34} {x : Nat} (hx : x < 1024) (h0 : x ≠ 0) (hd : Sub x (decl c)) : quo c x = !(optN (unh c x)).2 := by
  cases hu : unh c x with
  | none => exact (quo_iff hx).2 ⟨h0, hd, (unh_none hx).1 hu⟩
  | some j =>
    obtain ⟨i, rfl, h10, hi, hs⟩ := unh_some hu
    cases hq : quo c x
    · rfl
    · rw [quo_sat hx hq hi] at hs; cases hs
theorem Quorum_ev {c : List S34} (hc : Light c) {x : Nat} (hx : x < 1024) : Ev (fun k => closure_Quorum.f k c (x : Int)) (quo c x) := by
  simp only [closure_Quorum.f, Valid_eq, vld_nat hx, Option.bind_some, ↓reduceIte, Bool.false_eq_true, reduceCtorEq, decide_eq_true_eq, Go.Proofs.YtkjlcbfjllpcnaaW.PrintWords.rd, rd_T32, rd_T34]
  by_cases h0 : x = 0
  · have h1 : (x : Int) = 0 := by omega
    simp only [h1, Option.bind_some, ↓reduceIte, Bool.false_eq_true, reduceCtorEq, decide_eq_true_eq, Go.Proofs.YtkjlcbfjllpcnaaW.PrintWords.rd, rd_T32, rd_T34]
    have : quo c x = false := by unfold quo; simp [h0]
    rw [this]
    exact Ev.now _
  have h1 : ¬ (x : Int) = 0 := by omega
  simp only [h1, closure_inside.f, Option.bind_some, ↓reduceIte, Bool.false_eq_true, reduceCtorEq, decide_eq_true_eq, Go.Proofs.YtkjlcbfjllpcnaaW.PrintWords.rd, rd_T32, rd_T34]
  have hD := Declared_ev hc.1
  have hin : Ev (fun k => (configuration_Declared.f k c).bind fun t => some (Go.bits .andNot .i64 (x : Int) t == 0)) (dif x (decl c) == 0) := by
    refine Ev.bind1 hD ?_
    have hdl := decl_lt c
    rw [andNot_nat (by omega) (by omega)]
    have : (((dif x (decl c) : Nat) : Int) == 0) = (dif x (decl c) == 0) := by
      by_cases h : dif x (decl c) = 0
      · rw [h]; rfl
      · have h2 : ¬ ((dif x (decl c) : Nat) : Int) = 0 := by omega
        rw [beq_eq_false_iff_ne.2 h, beq_eq_false_iff_ne.2 h2]
    rw [this]
    exact Ev.now _
  refine Ev.bind1 hin ?_
  by_cases h : Sub x (decl c)
  · rw [sub_dif.2 h]
    simp only [beq_self_eq_true, if_true]
    refine Ev.bind1 (unhappy_ev hc hx h) ?_
    rw [quo_unh hx h0 h]
    exact Ev.now _
  · have h2 : (dif x (decl c) == 0) = false := beq_eq_false_iff_ne.2 fun e => h (sub_dif.1 e)
    rw [h2]
    simp only [Bool.false_eq_true, if_false]
    have : quo c x = false := by
      cases hq : quo c x
      · rfl
      · exact absurd ((quo_iff hx).1 hq).2.1 h
    rw [this]
    exact Ev.now _
theorem all_ev {c : List S34} (hc : Light c) (hn : c.length ≤ 10) : Ev (fun k => quorums_all.f k c) (allQ c) := by
  have hp := pow10 hn
  simp only [quorums_all.f, shl_nat (show c.length ≤ 61 by omega)]
  unfold allQ
  generalize 2 ^ c.length = m at hp
  refine Ev.count (L := fun (x3 : List Int) i k => quorums_all.l0 k x3 (m : Int) i c) m (by omega) (fun i x3 => x3 = ((List.range i).filter fun x => quo c x).map Int.ofNat) ?_ ?_ [] rfl
  · intro x3 h
    have hlt : ¬ (m : Int) < (m : Int) := by omega
    (refine Ev.shift ?_; simp only [quorums_all.l0, hlt, Option.bind_some, ↓reduceIte, Bool.false_eq_true, reduceCtorEq, decide_eq_true_eq, Go.Proofs.YtkjlcbfjllpcnaaW.PrintWords.rd, rd_T32, rd_T34])
    rw [h]
    exact Ev.now _
  · intro i x3 hi h hw
    have hlt : (i : Int) < (m : Int) := by omega
    have hx : i < 1024 := by omega
    have hlen : x3.length < 17592186044416 := by
      rw [h, List.length_map]
      have := List.length_filter_le (fun x => quo c x) (List.range i)
      rw [List.length_range] at this
      omega
    refine Or.inl ⟨x3 ++ if quo c i = true then [(i : Int)] else [], ?_, fun k => ?_⟩
    · rw [h, List.range_succ, List.filter_append, List.map_append]
      cases hq : quo c i <;> simp [hq]
    · (refine Ev.shift ?_; simp only [quorums_all.l0, hlt, hw, Option.bind_some, ↓reduceIte, Bool.false_eq_true, reduceCtorEq, decide_eq_true_eq, Go.Proofs.YtkjlcbfjllpcnaaW.PrintWords.rd, rd_T32, rd_T34])
      refine Ev.bind1 (Quorum_ev hc hx) ?_
      cases hq : quo c i
      · simp only [hq, Bool.false_eq_true, if_false, List.append_nil] at k ⊢
        exact k
      · simp only [hq, if_true, hlen] at k ⊢
        exact k
theorem Minimal_ev {c : List S34} (hc : Light c) (hn : c.length ≤ 10) (hv : valC c = 0) : Ev (fun k => quorums_Minimal.f k c) (minQ c, 0) := by
  simp only [quorums_Minimal.f]
  refine Ev.bind1 (CValid_ev hc) ?_
  rw [hv]
  simp only [if_true]
  refine Ev.bind1 (all_ev hc hn) ?_
  have hl := allQ_len c hn
  have h1 : (allQ c).length ≤ 1048576 := by omega
  simp only [nodeset_Least.f, if_pos h1, Option.bind_some]
  exact Ev.now _
theorem Count_ev {c : List S34} (hc : Light c) (hn : c.length ≤ 10) (hv : valC c = 0) : Ev (fun k => quorums_Count.f k c) (((allQ c).length : Int), 0) := by
  simp only [quorums_Count.f]
  refine Ev.bind1 (CValid_ev hc) ?_
  rw [hv]
  simp only [if_true]
  refine Ev.bind1 (all_ev hc hn) ?_
  exact Ev.now _
theorem sub_two_all : ∀ x, x < 1024 → ∀ i, i < 10 → x.testBit i = true → x - 2 ^ i = dif x (2 ^ i) ∧ 2 ^ i ≤ x := by decide +kernel
theorem sub_two {x i : Nat} (hx : x < 1024) (h : x.testBit i = true) : wrap64 ((x : Int) - ((2 ^ i : Nat) : Int)) = ((dif x (2 ^ i) : Nat) : Int) := by
  obtain ⟨h1, h2⟩ := sub_two_all x hx i (bit10 hx h) h
  rw [← h1]
  generalize 2 ^ i = w at h2
  rw [w64 (by omega) (by omega)]
  omega
theorem Elim_ev {c : List S34} (hc : Light c) {x : Nat} (hx : x < 1024) : Ev (fun k => trustquorumref09_Elimination.f k c (x : Int)) (elimF c 11 (x &&& decl c)) := by
  simp only [trustquorumref09_Elimination.f, ref01_Valid_eq, vld_nat hx, Option.bind_some, ↓reduceIte, Bool.false_eq_true, reduceCtorEq, decide_eq_true_eq, Go.Proofs.YtkjlcbfjllpcnaaW.PrintWords.rd, rd_T32, rd_T34]
  refine Ev.bind1 (ref_Declared_ev hc.1) ?_
  have hdl := decl_lt c
  rw [and_nat' hx hdl]
  have key : ∀ (n : Nat) (s : Nat) (o : List Int), s < 1024 → Sub s (decl c) → pcn s < n → o.length + n ≤ 1000 → Ev (fun k => trustquorumref09_Elimination.l0 k (s : Int) o true c) (o ++ elimF c n s) := by
    intro n
    induction n with
    | zero => intro s o _ _ h; exact absurd h (by omega)
    | succ n ih =>
      intro s o hs hd hp ho
      rw [elimF]
      (refine Ev.shift ?_; simp only [trustquorumref09_Elimination.l0, Option.bind_some, ↓reduceIte, Bool.false_eq_true, reduceCtorEq, decide_eq_true_eq, Go.Proofs.YtkjlcbfjllpcnaaW.PrintWords.rd, rd_T32, rd_T34])
      refine Ev.bind1 (ref_Nodes_ev hs) ?_
      have hl := nodesL_len s
      refine Ev.fold (xs := nodesL s) (L := fun (a : Unit) i k => trustquorumref09_Elimination.l1 k (s : Int) o false (nodesL s) ((nodesL s).length : Int) i c) (by omega) (fun pre ys a => (ys.find? fun j => !(sat s (c.getD j.toNat z34).f1)) = unh c s) ?_ ?_ () rfl
      · intro a i hI hi
        rw [List.find?_nil] at hI
        rw [← hI]
        (refine Ev.shift ?_; simp only [trustquorumref09_Elimination.l1, hi, Option.bind_some, ↓reduceIte, Bool.false_eq_true, reduceCtorEq, decide_eq_true_eq, Go.Proofs.YtkjlcbfjllpcnaaW.PrintWords.rd, rd_T32, rd_T34])
        (refine Ev.shift ?_; simp only [trustquorumref09_Elimination.l0, Option.bind_some, ↓reduceIte, Bool.false_eq_true, reduceCtorEq, decide_eq_true_eq, Go.Proofs.YtkjlcbfjllpcnaaW.PrintWords.rd, rd_T32, rd_T34])
        simp only [List.append_nil]
        exact Ev.now _
      · intro pre y ys a i e hI hi h0 hlt hw hrd
        obtain ⟨j, rfl, h10, hj⟩ := inS_iff.1 (nodesL_mem.1 (show y ∈ nodesL s by rw [e]; simp))
        have hjl := decl_len (hd j hj)
        have hj0 : (0 : Int) ≤ j := by omega
        have hj1 : (j : Int) < (c.length : Int) := by omega
        have hsat := ref02_Sat_ev hs 1000000 _ (hc.at j) (by decide)
        rw [List.find?_cons, Int.toNat_natCast] at hI
        cases hsj : sat s (c.getD j z34).f1
        · refine Or.inr ?_
          rw [hsj] at hI
          simp only [Bool.not_false] at hI
          rw [← hI]
          have holen : o.length < 17592186044416 := by omega
          have e2 := sub_two hs hj
          (refine Ev.shift ?_; simp only [trustquorumref09_Elimination.l1, h0, hlt, hw, hrd, hj0, hj1, Int.toNat_natCast, Option.bind_some, ↓reduceIte, Bool.false_eq_true, reduceCtorEq, decide_eq_true_eq, Go.Proofs.YtkjlcbfjllpcnaaW.PrintWords.rd, rd_T32, rd_T34])
          refine Ev.bind1 hsat ?_
          rw [hsj]
          simp only [Bool.false_eq_true, if_false, holen, if_true, shl_nat' h10, e2]
          have := ih (dif s (2 ^ j)) (o ++ [(j : Int)]) (dif_lt (n := 10) hs) ((dif_sub' _ _).trans hd) (by have := pcn_dif h10 hj; omega) (by simp; omega)
          rw [List.append_assoc] at this
          exact this
        · rw [hsj] at hI
          simp only [Bool.not_true] at hI
          refine Or.inl ⟨(), hI, fun k => ?_⟩
          (refine Ev.shift ?_; simp only [trustquorumref09_Elimination.l1, h0, hlt, hw, hrd, hj0, hj1, Int.toNat_natCast, Option.bind_some, ↓reduceIte, Bool.false_eq_true, reduceCtorEq, decide_eq_true_eq, Go.Proofs.YtkjlcbfjllpcnaaW.PrintWords.rd, rd_T32, rd_T34])
          refine Ev.bind1 hsat ?_
          rw [hsj]
          exact k
  have := key 11 (x &&& decl c) [] (and_lt10 hdl) (fun i hi => by rw [and_bit, Bool.and_eq_true] at hi; exact hi.2) (by have := pcn_le (x &&& decl c); omega) (by simp)
  rw [List.nil_append] at this
  exact this
theorem Greatest_ev {c : List S34} (hc : Light c) {x : Nat} (hx : x < 1024) : Ev (fun k => trustquorumref09_Greatest.f k c (x : Int)) (grt c x : Int) := by
  simp only [trustquorumref09_Greatest.f, ref01_Valid_eq, vld_nat hx, Option.bind_some, ↓reduceIte, Bool.false_eq_true, reduceCtorEq, decide_eq_true_eq, Go.Proofs.YtkjlcbfjllpcnaaW.PrintWords.rd, rd_T32, rd_T34]
  refine Ev.bind1 (ref_Declared_ev hc.1) ?_
  have hdl := decl_lt c
  rw [and_nat' hx hdl]
  refine Ev.bind1 (Elim_ev hc hx) ?_
  have hlen : ∀ n s, (elimF c n s).length ≤ n := by
    intro n
    induction n with
    | zero => intro s; simp [elimF]
    | succ n ih =>
      intro s
      rw [elimF]
      cases unh c s with
      | none => simp
      | some j => simp; exact ih _
  have hL := hlen 11 (x &&& decl c)
  unfold grt
  refine Ev.fold (xs := elimF c 11 (x &&& decl c)) (L := fun (s : Nat) i k => trustquorumref09_Greatest.l0 k (s : Int) (elimF c 11 (x &&& decl c)) ((elimF c 11 (x &&& decl c)).length : Int) i) (by omega) (fun pre ys s => ∃ n, s < 1024 ∧ ys = elimF c n s ∧ grtF c n s = grtF c 11 (x &&& decl c)) ?_ ?_ _ ⟨11, and_lt10 hdl, rfl, rfl⟩
  · rintro s i ⟨n, hs, hI, hg⟩ hi
    (refine Ev.shift ?_; simp only [trustquorumref09_Greatest.l0, hi, Option.bind_some, ↓reduceIte, Bool.false_eq_true, reduceCtorEq, decide_eq_true_eq, Go.Proofs.YtkjlcbfjllpcnaaW.PrintWords.rd, rd_T32, rd_T34])
    rw [← hg]
    have : grtF c n s = s := by
      cases n with
      | zero => rfl
      | succ n =>
        rw [elimF] at hI
        rw [grtF]
        cases hu : unh c s with
        | none => rfl
        | some j => rw [hu] at hI; cases hI
    rw [this]
    exact Ev.now _
  · rintro pre y ys s i e ⟨n, hs, hI, hg⟩ hi h0 hlt hw hrd
    cases n with
    | zero => rw [elimF] at hI; cases hI
    | succ n =>
      rw [elimF] at hI
      rw [grtF] at hg
      cases hu : unh c s with
      | none => rw [hu] at hI; cases hI
      | some j =>
        rw [hu] at hI hg
        obtain ⟨j, rfl, h10, hj, _⟩ := unh_some hu
        simp only [Int.toNat_natCast] at hI hg
        injection hI with hy hys
        subst hy
        have hj0 : (0 : Int) ≤ j := by omega
        have e2 := sub_two hs hj
        refine Or.inl ⟨dif s (2 ^ j), ⟨n, dif_lt (n := 10) hs, hys, hg⟩, fun k => ?_⟩
        (refine Ev.shift ?_; simp only [trustquorumref09_Greatest.l0, h0, hlt, hw, hrd, hj0, shl_nat' h10, e2, Option.bind_some, ↓reduceIte, Bool.false_eq_true, reduceCtorEq, decide_eq_true_eq, Go.Proofs.YtkjlcbfjllpcnaaW.PrintWords.rd, rd_T32, rd_T34])
        exact k
def fwd (c : List S34) (j : Int) : Nat := uses (c.getD j.toNat z34).f1 &&& decl c
def stp (c : List S34) (s : Nat) : Nat := (nodesL s).foldl (fun a j => a ||| fwd c j) s
def Clo (c : List S34) (s : Nat) : Prop := ∀ i : Nat, s.testBit i = true → Sub (fwd c (i : Int)) s
theorem fwd_lt (c : List S34) (j : Int) : fwd c j < 1024 := and_lt10 (decl_lt c)
theorem fold_or_bit {f : Int → Nat} (i : Nat) : ∀ (l : List Int) (a : Nat), (l.foldl (fun a j => a ||| f j) a).testBit i = true ↔ a.testBit i = true ∨ ∃ j ∈ l, (f j).testBit i = true
  | [], a => by simp
  | x :: xs, a => by
    rw [List.foldl_cons, fold_or_bit i xs, or_bit, Bool.or_eq_true]
    constructor
    · rintro ((h | h) | ⟨j, h, k⟩)
      · exact Or.inl h
      · exact Or.inr ⟨x, by simp, h⟩
      · exact Or.inr ⟨j, by simp [h], k⟩
    · rintro (h | ⟨j, h, k⟩)
      · exact Or.inl (Or.inl h)
      · rcases List.mem_cons.1 h with rfl | h
        · exact Or.inl (Or.inr k)
        · exact Or.inr ⟨j, h, k⟩
theorem stp_bit {c : List S34} {s i : Nat} : (stp c s).testBit i = true ↔ s.testBit i = true ∨ ∃ j ∈ nodesL s, (fwd c j).testBit i = true := fold_or_bit i _ _
theorem stp_sub (c : List S34) (s : Nat) : Sub s (stp c s) := fun i hi => stp_bit.2 (Or.inl hi)
theorem stp_lt {c : List S34} {s : Nat} (h : s < 1024) : stp c s < 1024 := lt_of_bits (n := 10) fun i hi => by
  cases hb : (stp c s).testBit i
  · rfl
  · rcases stp_bit.1 hb with h1 | ⟨j, _, h1⟩
    · rw [← h1]; exact bit_lt h hi
    · rw [← h1]; exact bit_lt (fwd_lt c j) hi
theorem stp_in {c : List S34} {s T : Nat} (hT : Clo c T) (h : Sub s T) : Sub (stp c s) T := fun i hi => by
  rcases stp_bit.1 hi with h1 | ⟨j, hj, h1⟩
  · exact h i h1
  · obtain ⟨k, rfl, h10, hk⟩ := inS_iff.1 (nodesL_mem.1 hj)
    exact hT k (h k hk) i h1
theorem stp_fix {c : List S34} {s : Nat} (hs : s < 1024) (h : stp c s = s) : Clo c s := fun i hi k hk => by
  rw [← h]
  exact stp_bit.2 (Or.inr ⟨(i : Int), nodesL_mem.2 (inS_iff.2 ⟨i, rfl, bit10 hs hi, hi⟩), hk⟩)
def rchF (c : List S34) : Nat → Nat → Nat
  | 0, s => s
  | n + 1, s => if stp c s = s then s else rchF c n (stp c s)
def rch (c : List S34) (k : Nat) : Nat := rchF c 11 (2 ^ k)
theorem rchF_spec {c : List S34} : ∀ n s, s < 1024 → 10 < n + pcn s → Clo c (rchF c n s) ∧ Sub s (rchF c n s) ∧ rchF c n s < 1024 ∧ ∀ T, Clo c T → Sub s T → Sub (rchF c n s) T
  | 0, s, _, h => absurd (pcn_le s) (by omega)
  | n + 1, s, hs, h => by
    rw [rchF]
    by_cases e : stp c s = s
    · rw [if_pos e]
      exact ⟨stp_fix hs e, Sub.refl _, hs, fun T _ h => h⟩
    · rw [if_neg e]
      have h1 := pcn_sub (stp_lt (c := c) hs) (stp_sub c s) (fun h => e h.symm)
      obtain ⟨h2, h3, h4, h5⟩ := rchF_spec (c := c) n (stp c s) (stp_lt hs) (by omega)
      exact ⟨h2, (stp_sub c s).trans h3, h4, fun T hT hsT => h5 T hT (stp_in hT hsT)⟩
theorem pcn_two {k : Nat} (hk : k < 10) : 1 ≤ pcn (2 ^ k) := by
  have := pcn_lt (s := 0) hk (Nat.zero_testBit k)
  rw [Nat.zero_or] at this
  omega
theorem rch_spec {c : List S34} {k : Nat} (hk : k < 10) : Clo c (rch c k) ∧ Sub (2 ^ k) (rch c k) ∧ rch c k < 1024 ∧ ∀ T, Clo c T → Sub (2 ^ k) T → Sub (rch c k) T :=
  rchF_spec 11 _ (two_lt10 hk) (by have := pcn_two hk; omega)
theorem rch_self {c : List S34} {k : Nat} (hk : k < 10) : (rch c k).testBit k = true := (rch_spec hk).2.1 k (by rw [two_bit]; simp)
theorem rch_trans {c : List S34} {k j : Nat} (hk : k < 10) (hj : (rch c k).testBit j = true) : Sub (rch c j) (rch c k) :=
  (rch_spec (bit10 (rch_spec hk).2.2.1 hj)).2.2.2 _ (rch_spec hk).1 (Sub.two hj)
theorem rch_decl {c : List S34} {k : Nat} (hk : (decl c).testBit k = true) : Sub (rch c k) (decl c) :=
  (rch_spec (bit10 (decl_lt c) hk)).2.2.2 _ (fun i _ j hj => by unfold fwd at hj; rw [and_bit, Bool.and_eq_true] at hj; exact hj.2) (Sub.two hk)
def prt (c : List S34) (k : Nat) : Nat := (nodesL (rch c k)).foldl (fun a n => a ||| if (rch c n.toNat).testBit k = true then 2 ^ n.toNat else 0) 0
theorem prt_bit {c : List S34} {k n : Nat} (hk : k < 10) : (prt c k).testBit n = true ↔ (rch c k).testBit n = true ∧ (rch c n).testBit k = true := by
  unfold prt
  rw [fold_or_bit n]
  constructor
  · rintro (h | ⟨j, hj, h⟩)
    · rw [Nat.zero_testBit] at h; cases h
    · obtain ⟨i, rfl, h10, hi⟩ := inS_iff.1 (nodesL_mem.1 hj)
      rw [Int.toNat_natCast] at h
      split at h
      · rename_i h1
        rw [two_bit, decide_eq_true_eq] at h
        subst h
        exact ⟨hi, h1⟩
      · rw [Nat.zero_testBit] at h; cases h
  · rintro ⟨h1, h2⟩
    refine Or.inr ⟨(n : Int), nodesL_mem.2 (inS_iff.2 ⟨n, rfl, bit10 (rch_spec hk).2.2.1 h1, h1⟩), ?_⟩
    rw [Int.toNat_natCast, if_pos h2, two_bit]
    simp
theorem prt_self {c : List S34} {k : Nat} (hk : k < 10) : (prt c k).testBit k = true := (prt_bit hk).2 ⟨rch_self hk, rch_self hk⟩
theorem prt_lt {c : List S34} {k : Nat} (hk : k < 10) : prt c k < 1024 := Sub.lt (b := rch c k) (fun i hi => ((prt_bit hk).1 hi).1) (rch_spec hk).2.2.1
theorem prt_eq {c : List S34} {k n : Nat} (hk : k < 10) (h : (prt c k).testBit n = true) : prt c n = prt c k := by
  obtain ⟨h1, h2⟩ := (prt_bit hk).1 h
  have hn := bit10 (rch_spec hk).2.2.1 h1
  refine Sub.eq (fun i hi => ?_) fun i hi => ?_
  · obtain ⟨h3, h4⟩ := (prt_bit hn).1 hi
    exact (prt_bit hk).2 ⟨rch_trans hk h1 i h3, rch_trans (bit10 (rch_spec hn).2.2.1 h3) h4 k h2⟩
  · obtain ⟨h3, h4⟩ := (prt_bit hk).1 hi
    exact (prt_bit hn).2 ⟨rch_trans hn h2 i h3, rch_trans (bit10 (rch_spec hk).2.2.1 h3) h4 n h1⟩
def partsStep (c : List S34) (o : List Int × Nat) (k : Nat) : List Int × Nat := if o.2.testBit k = true ∨ (decl c).testBit k = false then o else (o.1 ++ [(prt c k : Int)], o.2 ||| prt c k)
def partsF (c : List S34) (n : Nat) : List Int × Nat := (List.range n).foldl (partsStep c) ([], 0)
def partsS (c : List S34) : List Int := (partsF c c.length).1
theorem partsF_succ (c : List S34) (n : Nat) : partsF c (n + 1) = partsStep c (partsF c n) n := by unfold partsF; rw [List.range_succ, List.foldl_append]; rfl
structure PInv (c : List S34) (n : Nat) (o : List Int × Nat) : Prop where
  form : ∀ x ∈ o.1, ∃ k, (decl c).testBit k = true ∧ x = (prt c k : Int)
  done : ∀ i, o.2.testBit i = true ↔ ∃ x ∈ o.1, x.toNat.testBit i = true
  apart : o.1.Pairwise fun x y => x.toNat &&& y.toNat = 0
  all : ∀ j, j < n → (decl c).testBit j = true → o.2.testBit j = true
  lt : o.2 < 1024
  len : o.1.length ≤ n
theorem partsF_inv (c : List S34) : ∀ n, PInv c n (partsF c n)
  | 0 => ⟨by simp [partsF], by simp [partsF], by simp [partsF], fun j h => absurd h (by omega), by simp [partsF], by simp [partsF]⟩
  | n + 1 => by
    have ih := partsF_inv c n
    rw [partsF_succ]
    unfold partsStep
    split
    · rename_i h
      refine ⟨ih.form, ih.done, ih.apart, fun j hj hd => ?_, ih.lt, Nat.le_succ_of_le ih.len⟩
      rcases Nat.lt_or_ge j n with h1 | h1
      · exact ih.all j h1 hd
      · have : j = n := by omega
        subst this
        rcases h with h | h
        · exact h
        · rw [h] at hd; cases hd
    · rename_i h
      have hd : (decl c).testBit n = true := by
        cases hb : (decl c).testBit n
        · exact absurd (Or.inr hb) h
        · rfl
      have hn := bit10 (decl_lt c) hd
      have hno : ∀ i, (prt c n).testBit i = true → (partsF c n).2.testBit i = false := by
        intro i hi
        cases hb : (partsF c n).2.testBit i
        · rfl
        · obtain ⟨x, hx, hxi⟩ := (ih.done i).1 hb
          obtain ⟨k, hk, rfl⟩ := ih.form x hx
          have hk10 := bit10 (decl_lt c) hk
          rw [Int.toNat_natCast] at hxi
          have e1 := prt_eq hk10 hxi
          rw [prt_eq hn hi] at e1
          refine absurd (Or.inl ((ih.done n).2 ⟨_, hx, ?_⟩)) h
          rw [Int.toNat_natCast, ← e1]
          exact prt_self hn
      refine ⟨fun x hx => ?_, fun i => ?_, ?_, fun j hj hdj => ?_, or_lt10 ih.lt (prt_lt hn), by simp; exact ih.len⟩
      · rcases List.mem_append.1 hx with hx | hx
        · exact ih.form x hx
        · rw [List.mem_singleton] at hx; exact ⟨n, hd, hx⟩
      · simp only [or_bit, Bool.or_eq_true, List.mem_append, List.mem_singleton]
        rw [ih.done]
        constructor
        · rintro (⟨x, h1, h2⟩ | h1)
          · exact ⟨x, Or.inl h1, h2⟩
          · exact ⟨_, Or.inr rfl, by rw [Int.toNat_natCast]; exact h1⟩
        · rintro ⟨x, h1 | h1, h2⟩
          · exact Or.inl ⟨x, h1, h2⟩
          · subst h1; rw [Int.toNat_natCast] at h2; exact Or.inr h2
      · simp only [List.pairwise_append, List.mem_singleton]
        refine ⟨ih.apart, by simp, fun x hx y hy => ?_⟩
        subst hy
        rw [Int.toNat_natCast]
        refine eq_bits fun i => ?_
        rw [and_bit, Nat.zero_testBit]
        cases h1 : (prt c n).testBit i
        · simp
        · have h2 := hno i h1
          cases h3 : x.toNat.testBit i
          · rfl
          · rw [(ih.done i).2 ⟨x, hx, h3⟩] at h2; cases h2
      · rw [or_bit, Bool.or_eq_true]
        rcases Nat.lt_or_ge j n with h1 | h1
        · exact Or.inl (ih.all j h1 hdj)
        · have : j = n := by omega
          subst this
          exact Or.inr (prt_self hn)
theorem reached_ev {c : List S34} (hc : Light c) {j : Nat} (hj : (decl c).testBit j = true) : Ev (fun k => quorums_reached.f k c (j : Int)) (rch c j : Int) := by
  have hdl := decl_lt c
  have h10 := bit10 hdl hj
  have hj0 : (0 : Int) ≤ j := by omega
  simp only [quorums_reached.f]
  refine Ev.bind1 (Declared_ev hc.1) ?_
  simp only [hj0, if_true, shl_nat' h10]
  have hstep : ∀ (r : Int) (s : Nat), s < 1024 → Sub s (decl c) →
      Ev (fun k => if ((stp c s : Nat) : Int) = (s : Int) then some (s : Int) else quorums_reached.l0 k (decl c : Int) (stp c s : Int) c) r →
      Ev (fun k => quorums_reached.l0 k (decl c : Int) (s : Int) c) r := by
    intro r s hs hd hk
    (refine Ev.shift ?_; simp only [quorums_reached.l0, Option.bind_some, ↓reduceIte, Bool.false_eq_true, reduceCtorEq, decide_eq_true_eq, Go.Proofs.YtkjlcbfjllpcnaaW.PrintWords.rd, rd_T32, rd_T34])
    refine Ev.bind1 (Nodes_ev hs) ?_
    have hl := nodesL_len s
    refine Ev.fold (xs := nodesL s) (L := fun (a : Nat) i k => quorums_reached.l1 k (decl c : Int) (s : Int) (a : Int) (nodesL s) ((nodesL s).length : Int) i c) (by omega) (fun pre ys a => a < 1024 ∧ ys.foldl (fun a j => a ||| fwd c j) a = stp c s) ?_ ?_ s ⟨hs, rfl⟩
    · rintro a i ⟨ha, hI⟩ hi
      rw [List.foldl_nil] at hI
      subst hI
      (refine Ev.shift ?_; simp only [quorums_reached.l1, hi, Option.bind_some, ↓reduceIte, Bool.false_eq_true, reduceCtorEq, decide_eq_true_eq, Go.Proofs.YtkjlcbfjllpcnaaW.PrintWords.rd, rd_T32, rd_T34])
      exact hk
    · rintro pre y ys a i e ⟨ha, hI⟩ hi h0 hlt hw hrd
      obtain ⟨m, rfl, hm10, hm⟩ := inS_iff.1 (nodesL_mem.1 (show y ∈ nodesL s by rw [e]; simp))
      have hml := decl_len (hd m hm)
      have hm0 : (0 : Int) ≤ m := by omega
      have hm1 : (m : Int) < (c.length : Int) := by omega
      have hu := Uses_ev 1000000 _ (hc.at m) (by decide)
      have hul := uses_lt (c.getD m z34).f1
      have hf := fwd_lt c (m : Int)
      rw [List.foldl_cons] at hI
      refine Or.inl ⟨a ||| fwd c (m : Int), ⟨or_lt10 ha hf, hI⟩, fun k => ?_⟩
      (refine Ev.shift ?_; simp only [quorums_reached.l1, h0, hlt, hw, hrd, hm0, hm1, Int.toNat_natCast, Option.bind_some, ↓reduceIte, Bool.false_eq_true, reduceCtorEq, decide_eq_true_eq, Go.Proofs.YtkjlcbfjllpcnaaW.PrintWords.rd, rd_T32, rd_T34])
      refine Ev.bind1 hu ?_
      have e1 : Go.bits .or .i64 (a : Int) (Go.bits .and .i64 (uses (c.getD m z34).f1 : Int) (decl c : Int)) = ((a ||| fwd c (m : Int) : Nat) : Int) := by
        rw [and_nat' hul hdl, or_nat' ha (and_lt10 hdl)]
        rfl
      rw [e1]
      exact k
  have key : ∀ (n s : Nat), s < 1024 → Sub s (decl c) → 10 < n + pcn s → Ev (fun k => quorums_reached.l0 k (decl c : Int) (s : Int) c) (rchF c n s : Int) := by
    intro n
    induction n with
    | zero => intro s _ _ h; exact absurd (pcn_le s) (by omega)
    | succ n ih =>
      intro s hs hd hp
      have hst := stp_lt (c := c) hs
      refine hstep _ s hs hd ?_
      rw [rchF]
      by_cases he : stp c s = s
      · have he' : ((stp c s : Nat) : Int) = (s : Int) := by omega
        simp only [he', he, if_true]
        exact Ev.now _
      · have he' : ¬ ((stp c s : Nat) : Int) = (s : Int) := by omega
        simp only [he', he, if_false]
        refine ih _ hst (stp_in (fun i _ k hk => by unfold fwd at hk; rw [and_bit, Bool.and_eq_true] at hk; exact hk.2) hd) ?_
        have := pcn_sub hst (stp_sub c s) (fun h => he h.symm)
        omega
  exact key 11 _ (two_lt10 h10) (Sub.two hj) (by have := pcn_two h10; omega)
def rchL (c : List S34) : List Int := (List.range c.length).map fun k => if (decl c).testBit k = true then (rch c k : Int) else 0
theorem rchL_len (c : List S34) : (rchL c).length = c.length := by unfold rchL; simp
theorem rchL_get {c : List S34} {k : Nat} (hk : k < c.length) : (rchL c).getD k 0 = if (decl c).testBit k = true then (rch c k : Int) else 0 := by
  unfold rchL
  rw [List.getD_eq_getElem?_getD, List.getElem?_map, List.getElem?_range hk]
  rfl
def setR (c : List S34) (l : List Int) (y : Int) : List Int := l.set y.toNat (rch c y.toNat : Int)
theorem setR_fold (c : List S34) : ∀ (ys l : List Int), (ys.foldl (setR c) l).length = l.length
  | [], l => rfl
  | y :: ys, l => by rw [List.foldl_cons, setR_fold c ys, setR, List.length_set]
theorem setR_get (c : List S34) (k : Nat) : ∀ (ys l : List Int), k < l.length → (∀ y ∈ ys, 0 ≤ y) → (ys.foldl (setR c) l).getD k 0 = if (k : Int) ∈ ys then (rch c k : Int) else l.getD k 0
  | [], l, h, _ => by simp
  | y :: ys, l, h, hy => by
    rw [List.foldl_cons, setR_get c k ys _ (by rw [setR, List.length_set]; exact h) (fun z hz => hy z (by simp [hz]))]
    have h0 := hy y (by simp)
    by_cases hm : (k : Int) ∈ ys
    · rw [if_pos hm, if_pos (by simp [hm])]
    · rw [if_neg hm]
      unfold setR
      by_cases e : (k : Int) = y
      · subst e
        rw [if_pos (by simp), Int.toNat_natCast, List.getD_eq_getElem?_getD, List.getElem?_set_self h]
        rfl
      · have hne : y.toNat ≠ k := by omega
        rw [if_neg (by simp [e, hm]), List.getD_eq_getElem?_getD, List.getElem?_set_ne hne, List.getD_eq_getElem?_getD]
theorem setR_all (c : List S34) (hn : c.length ≤ 10) : (nodesL (decl c)).foldl (setR c) (List.replicate c.length 0) = rchL c := by
  refine List.ext_getElem (by rw [setR_fold, rchL_len, List.length_replicate]) fun k h1 h2 => ?_
  rw [setR_fold, List.length_replicate] at h1
  have hg := setR_get c k (nodesL (decl c)) (List.replicate c.length 0) (by simpa using h1) (fun y hy => by
    obtain ⟨i, rfl, _⟩ := inS_iff.1 (nodesL_mem.1 hy); omega)
  have hr := rchL_get (c := c) h1
  have hz : (List.replicate c.length (0 : Int)).getD k 0 = 0 := by simp [List.getD_eq_getElem?_getD, List.getElem?_replicate]; split <;> rfl
  have hmem : (k : Int) ∈ nodesL (decl c) ↔ (decl c).testBit k = true := by
    rw [nodesL_mem, inS_nat _ _ (by omega)]
  have e : ((nodesL (decl c)).foldl (setR c) (List.replicate c.length 0)).getD k 0 = (rchL c).getD k 0 := by
    rw [hg, hr, hz]
    by_cases hb : (decl c).testBit k = true
    · rw [if_pos hb, if_pos (hmem.2 hb)]
    · rw [if_neg hb, if_neg (fun h => hb (hmem.1 h))]
  rw [List.getD_eq_getElem?_getD, List.getD_eq_getElem?_getD, List.getElem?_eq_getElem (by rw [setR_fold, List.length_replicate]; exact h1), List.getElem?_eq_getElem h2] at e
  simpa using e
theorem Parts_ev {c : List S34} (hc : Light c) (hn : c.length ≤ 10) (hv : valC c = 0) : Ev (fun k => quorums_Parts.f k c) (partsS c, 0) := by
  have hdl := decl_lt c
  have hc0 : (0 : Int) ≤ (c.length : Int) := by omega
  have hcl : c.length ≤ 35184372088832 := by omega
  simp only [quorums_Parts.f]
  refine Ev.bind1 (CValid_ev hc) ?_
  rw [hv]
  simp only [if_true, hc0, Int.toNat_natCast, hcl]
  refine Ev.bind1 (Declared_ev hc.1) ?_
  refine Ev.bind1 (Nodes_ev hdl) ?_
  have hl := nodesL_len (decl c)
  refine Ev.fold (xs := nodesL (decl c)) (L := fun (l : List Int) i k => quorums_Parts.l0 k l (nodesL (decl c)) ((nodesL (decl c)).length : Int) i c) (by omega) (fun pre ys l => ys.foldl (setR c) l = rchL c ∧ l.length = c.length) ?_ ?_ _ ⟨setR_all c hn, by simp⟩
  · rintro l i ⟨hI, hll⟩ hi
    rw [List.foldl_nil] at hI
    subst hI
    (refine Ev.shift ?_; simp only [quorums_Parts.l0, hi, Option.bind_some, ↓reduceIte, Bool.false_eq_true, reduceCtorEq, decide_eq_true_eq, Go.Proofs.YtkjlcbfjllpcnaaW.PrintWords.rd, rd_T32, rd_T34])
    have hlen := rchL_len c
    rw [hlen]
    refine Ev.count (L := fun (o : List Int × Nat) i k => quorums_Parts.l1 k (rchL c) o.1 (o.2 : Int) (rchL c) (c.length : Int) i) c.length (by omega) (fun i o => o = partsF c i) ?_ ?_ ([], 0) rfl
    · intro o h
      have hlt : ¬ (c.length : Int) < (c.length : Int) := by omega
      (refine Ev.shift ?_; simp only [quorums_Parts.l1, hlt, Option.bind_some, ↓reduceIte, Bool.false_eq_true, reduceCtorEq, decide_eq_true_eq, Go.Proofs.YtkjlcbfjllpcnaaW.PrintWords.rd, rd_T32, rd_T34])
      rw [h]
      exact Ev.now _
    · intro i o hi h hw
      have ih := partsF_inv c i
      rw [← h] at ih
      have hi0 : (0 : Int) ≤ i := by omega
      have hi1 : (i : Int) < (c.length : Int) := by omega
      have hi2 : (i : Int) < ((rchL c).length : Int) := by omega
      have h10 : i < 10 := by omega
      have hget := rchL_get (c := c) hi
      have hand : (Go.bits .and .i64 (o.2 : Int) (shl .i64 1 (i : Int)) = 0) ↔ o.2.testBit i = false := by
        rw [shl_nat' h10, and_nat' ih.lt (two_lt10 h10), ← and_two]
        omega
      have skip : o.2.testBit i = true ∨ (decl c).testBit i = false → o = partsF c (i + 1) := by
        intro hh
        rw [partsF_succ, ← h, partsStep, if_pos hh]
      cases hdone : o.2.testBit i
      · cases hdec : (decl c).testBit i
        · refine Or.inl ⟨o, skip (Or.inr hdec), fun k => ?_⟩
          rw [hdec] at hget
          simp only [Bool.false_eq_true, if_false] at hget
          (refine Ev.shift ?_; simp only [quorums_Parts.l1, hi0, hi1, hi2, hand, hdone, Int.toNat_natCast, hget, Option.bind_some, ↓reduceIte, Bool.false_eq_true, reduceCtorEq, decide_eq_true_eq, Go.Proofs.YtkjlcbfjllpcnaaW.PrintWords.rd, rd_T32, rd_T34])
          simp only [beq_self_eq_true]
          (refine Ev.shift ?_; simp only [quorums_Parts.j2, hw, Option.bind_some, ↓reduceIte, Bool.false_eq_true, reduceCtorEq, decide_eq_true_eq, Go.Proofs.YtkjlcbfjllpcnaaW.PrintWords.rd, rd_T32, rd_T34])
          exact k
        · have hr := rch_spec (c := c) h10
          have hrd := rch_decl hdec
          rw [hdec] at hget
          simp only [if_true] at hget
          have hne : ((rch c i : Int) == 0) = false := by
            have : rch c i ≠ 0 := fun e => by have := rch_self (c := c) h10; rw [e, Nat.zero_testBit] at this; cases this
            simp; omega
          refine Or.inl ⟨(o.1 ++ [(prt c i : Int)], o.2 ||| prt c i), ?_, fun k => ?_⟩
          · rw [partsF_succ, ← h, partsStep, if_neg (by rw [hdone, hdec]; simp)]
          · (refine Ev.shift ?_; simp only [quorums_Parts.l1, hi0, hi1, hi2, hand, hdone, Int.toNat_natCast, hget, hne, Option.bind_some, ↓reduceIte, Bool.false_eq_true, reduceCtorEq, decide_eq_true_eq, Go.Proofs.YtkjlcbfjllpcnaaW.PrintWords.rd, rd_T32, rd_T34])
            (refine Ev.shift ?_; simp only [quorums_Parts.j2, Option.bind_some, ↓reduceIte, Bool.false_eq_true, reduceCtorEq, decide_eq_true_eq, Go.Proofs.YtkjlcbfjllpcnaaW.PrintWords.rd, rd_T32, rd_T34])
            refine Ev.bind1 (Nodes_ev hr.2.2.1) ?_
            have hl2 := nodesL_len (rch c i)
            have hpl := prt_lt (c := c) h10
            refine Ev.fold (xs := nodesL (rch c i)) (L := fun (a : Nat) q k => quorums_Parts.l2 k (rchL c) o.1 (o.2 : Int) (i : Int) (a : Int) (rchL c) (c.length : Int) (i : Int) (nodesL (rch c i)) ((nodesL (rch c i)).length : Int) q) (by omega) (fun pre ys a => a < 1024 ∧ ys.foldl (fun a n => a ||| if (rch c n.toNat).testBit i = true then 2 ^ n.toNat else 0) a = prt c i) ?_ ?_ 0 ⟨by decide, rfl⟩
            · rintro a q ⟨ha, hI⟩ hq
              rw [List.foldl_nil] at hI
              subst hI
              have holen : o.1.length < 17592186044416 := by have := ih.len; omega
              (refine Ev.shift ?_; simp only [quorums_Parts.l2, hq, holen, or_nat' ih.lt hpl, hw, Option.bind_some, ↓reduceIte, Bool.false_eq_true, reduceCtorEq, decide_eq_true_eq, Go.Proofs.YtkjlcbfjllpcnaaW.PrintWords.rd, rd_T32, rd_T34])
              exact k
            · rintro pre y ys a q e ⟨ha, hI⟩ hq h0 hlt hwq hrdq
              obtain ⟨m, rfl, hm10, hm⟩ := inS_iff.1 (nodesL_mem.1 (show y ∈ nodesL (rch c i) by rw [e]; simp))
              have hmd := hrd m hm
              have hml := decl_len hmd
              have hm0 : (0 : Int) ≤ m := by omega
              have hm1 : (m : Int) < (c.length : Int) := by omega
              have hm2 : (m : Int) < ((rchL c).length : Int) := by omega
              have hgm := rchL_get (c := c) hml
              rw [hmd] at hgm
              simp only [if_true] at hgm
              have hrm := (rch_spec (c := c) hm10).2.2.1
              have hhas := Has_eq hrm (i : Int)
              rw [inS_nat _ _ h10] at hhas
              rw [List.foldl_cons, Int.toNat_natCast] at hI
              refine Or.inl ⟨_, ⟨?_, hI⟩, fun k => ?_⟩
              · split
                · exact or_lt10 ha (two_lt10 hm10)
                · rw [Nat.or_zero]; exact ha
              · (refine Ev.shift ?_; simp only [quorums_Parts.l2, h0, hlt, hwq, hrdq, hm0, hm1, hm2, Int.toNat_natCast, hgm, hhas, Option.bind_some, ↓reduceIte, Bool.false_eq_true, reduceCtorEq, decide_eq_true_eq, Go.Proofs.YtkjlcbfjllpcnaaW.PrintWords.rd, rd_T32, rd_T34])
                cases hb : (rch c m).testBit i
                · simp only [hb, Bool.false_eq_true, if_false, Nat.or_zero] at k ⊢
                  exact k
                · simp only [hb, if_true] at k ⊢
                  rw [shl_nat' hm10, or_nat' ha (two_lt10 hm10)]
                  exact k
      · refine Or.inl ⟨o, skip (Or.inl hdone), fun k => ?_⟩
        (refine Ev.shift ?_; simp only [quorums_Parts.l1, hi0, hi1, hi2, hand, hdone, Int.toNat_natCast, Option.bind_some, ↓reduceIte, Bool.false_eq_true, reduceCtorEq, decide_eq_true_eq, Go.Proofs.YtkjlcbfjllpcnaaW.PrintWords.rd, rd_T32, rd_T34])
        (refine Ev.shift ?_; simp only [quorums_Parts.j2, hw, Option.bind_some, ↓reduceIte, Bool.false_eq_true, reduceCtorEq, decide_eq_true_eq, Go.Proofs.YtkjlcbfjllpcnaaW.PrintWords.rd, rd_T32, rd_T34])
        exact k
  · rintro pre y ys l i e ⟨hI, hll⟩ hi h0 hlt hw hrd
    obtain ⟨m, rfl, hm10, hm⟩ := inS_iff.1 (nodesL_mem.1 (show y ∈ nodesL (decl c) by rw [e]; simp))
    have hml := decl_len hm
    have hm0 : (0 : Int) ≤ m := by omega
    have hm1 : (m : Int) < (l.length : Int) := by omega
    rw [List.foldl_cons] at hI
    refine Or.inl ⟨setR c l (m : Int), ⟨hI, by rw [setR, List.length_set]; exact hll⟩, fun k => ?_⟩
    (refine Ev.shift ?_; simp only [quorums_Parts.l0, h0, hlt, hw, hrd, Option.bind_some, ↓reduceIte, Bool.false_eq_true, reduceCtorEq, decide_eq_true_eq, Go.Proofs.YtkjlcbfjllpcnaaW.PrintWords.rd, rd_T32, rd_T34])
    refine Ev.bind1 (reached_ev hc hm) ?_
    simp only [hm0, hm1, if_true]
    exact k
def memS (n : Nat) (t : Int) : S34 := ⟨true, ⟨t, (List.range n).map Int.ofNat, []⟩⟩
def sameC (n : Nat) (t : Int) : List S34 := List.replicate n (memS n t)
theorem sameA_ev {n : Nat} (hn : n ≤ 1000) (t : Int) : Ev (fun k => trustquorumlaw10_same.f k (n : Int) t) (sameC n t) := by
  have hlt : ¬ (n : Int) < (n : Int) := by omega
  simp only [trustquorumlaw10_same.f]
  refine Ev.count (L := fun (l : List Int) i k => trustquorumlaw10_same.l0 k (n : Int) i t l) n (by omega) (fun i l => l = (List.range i).map Int.ofNat) ?_ ?_ [] rfl
  · intro l hl
    (refine Ev.shift ?_; simp only [trustquorumlaw10_same.l0, hlt, Option.bind_some, ↓reduceIte, Bool.false_eq_true, reduceCtorEq, decide_eq_true_eq, Go.Proofs.YtkjlcbfjllpcnaaW.PrintWords.rd, rd_T32, rd_T34])
    subst hl
    refine Ev.count (L := fun (c : List S34) i k => trustquorumlaw10_same.l1 k (n : Int) i t ((List.range n).map Int.ofNat) c) n (by omega) (fun i c => c = List.replicate i (memS n t)) ?_ ?_ [] rfl
    · intro c h
      (refine Ev.shift ?_; simp only [trustquorumlaw10_same.l1, hlt, Option.bind_some, ↓reduceIte, Bool.false_eq_true, reduceCtorEq, decide_eq_true_eq, Go.Proofs.YtkjlcbfjllpcnaaW.PrintWords.rd, rd_T32, rd_T34])
      rw [h]
      exact Ev.now _
    · intro i c hi h hw
      have h1 : (i : Int) < (n : Int) := by omega
      have h2 : c.length < 2199023255552 := by rw [h, List.length_replicate]; omega
      refine Or.inl ⟨c ++ [memS n t], by rw [h, List.replicate_succ'], fun k => ?_⟩
      (refine Ev.shift ?_; simp only [trustquorumlaw10_same.l1, h1, h2, hw, Option.bind_some, ↓reduceIte, Bool.false_eq_true, reduceCtorEq, decide_eq_true_eq, Go.Proofs.YtkjlcbfjllpcnaaW.PrintWords.rd, rd_T32, rd_T34])
      exact k
  · intro i l hi h hw
    have h1 : (i : Int) < (n : Int) := by omega
    have h2 : l.length < 17592186044416 := by rw [h, List.length_map, List.length_range]; omega
    refine Or.inl ⟨l ++ [(i : Int)], by rw [h, List.range_succ, List.map_append]; rfl, fun k => ?_⟩
    (refine Ev.shift ?_; simp only [trustquorumlaw10_same.l0, h1, h2, hw, Option.bind_some, ↓reduceIte, Bool.false_eq_true, reduceCtorEq, decide_eq_true_eq, Go.Proofs.YtkjlcbfjllpcnaaW.PrintWords.rd, rd_T32, rd_T34])
    exact k
theorem s3_light : Light (sameC 3 2) := ⟨by decide, by decide⟩
theorem s3_min : minQ (sameC 3 2) = [3, 5, 6] := by
  have e : allQ (sameC 3 2) = [3, 5, 6, 7] := by decide +kernel
  have e2 : sortS [3, 5, 6, 7] = [3, 5, 6, 7] := sortS_eq (List.Perm.refl _) (by decide)
  have e3 : ([3, 5, 6, 7] : List Int).filter vld = [3, 5, 6, 7] := by decide
  rw [minQ, e, leastS, e3, e2]
  decide
theorem awake10_ev : Ev (fun k => trustquorumlaw10_awake.f k) true := by
  have hs : Ev (fun k => trustquorumlaw10_same.f k 3 2) (sameC 3 2) := sameA_ev (n := 3) (by decide) 2
  have h10 : (sameC 3 2).length ≤ 10 := by decide
  have hv : valC (sameC 3 2) = 0 := by decide
  have hm := Minimal_ev s3_light h10 hv
  rw [s3_min] at hm
  have hn := Count_ev s3_light h10 hv
  have e4 : ((allQ (sameC 3 2)).length : Int) = 4 := by decide +kernel
  rw [e4] at hn
  have hp := Parts_ev s3_light h10 hv
  have e5 : partsS (sameC 3 2) = [7] := by decide +kernel
  rw [e5] at hp
  simp only [trustquorumlaw10_awake.f]
  refine Ev.bind1 hs ?_
  refine Ev.bind1 hm ?_
  refine Ev.bind1 hs ?_
  refine Ev.bind1 hn ?_
  refine Ev.bind1 hs ?_
  refine Ev.bind1 hp ?_
  simp only [if_true]
  refine Ev.bind1 (Ints_ev (by decide)) ?_
  simp only [decide_true, if_true]
  refine Ev.bind1 (Ints_ev (by decide)) ?_
  simp only [decide_true, if_true]
  exact Ev.now _
end Go.Proofs.Ytkjlcbfjllpcnaa.X
namespace Go.Proofs.Ytkjlcbfjllpcnaa.Pure
open Go.RowKit Go.Proofs.Ytkjlcbfjllpcnaa.X Go.Proofs.YtkjlcbfjllpcnaaW.PrintWords Go.Proofs.YtkjlcbfjllpcnaaW.PrintLast
set_option linter.unusedVariables false
theorem minQ_nodup (c : List S34) : (minQ c).Nodup := by
  have hne : ∀ {a b : Int}, ltS a b → a ≠ b := fun {a b} h e => ltS_irrefl a (by rw [← e] at h; exact h)
  exact List.Pairwise.imp hne (leastS_spec _).1
theorem getD_in {l : List Int} {i : Nat} (h : i < l.length) : l.getD i 0 ∈ l := getD_mem' 0 h
theorem minQ_two {c : List S34} (hn : c.length ≤ 10) {i q : Nat} (hi : i < (minQ c).length) (hq : q < (minQ c).length) (hne : i ≠ q) : ¬ Go.bits .and .i64 ((minQ c).getD i 0) ((minQ c).getD q 0) = (minQ c).getD i 0 := by
  obtain ⟨x, hx, mx⟩ := (minQ_mem hn).1 (getD_in hi)
  obtain ⟨y, hy, my⟩ := (minQ_mem hn).1 (getD_in hq)
  rw [hx, hy, and_nat' mx.1 my.1]
  intro h
  have hs : Sub x y := sub_and.1 (by omega)
  have he := my.2.2 x mx.1 mx.2.1 hs
  subst he
  have h1 : (minQ c)[i] = (minQ c)[q] := by
    rw [List.getD_eq_getElem?_getD, List.getElem?_eq_getElem hi] at hx
    rw [List.getD_eq_getElem?_getD, List.getElem?_eq_getElem hq] at hy
    simp at hx hy
    rw [hx, hy]
  have hpw := List.pairwise_iff_getElem.1 (minQ_nodup c)
  rcases Nat.lt_or_gt_of_ne hne with h | h
  · exact hpw i q hi hq h h1
  · exact hpw q i hq hi h h1.symm
theorem minQ_some {c : List S34} (hn : c.length ≤ 10) {x : Nat} (hx : x < 1024) : ((minQ c).any fun y => Go.bits .and .i64 y (x : Int) == y) = ((grt c x : Int) != 0) := by
  have h : ((minQ c).any fun y => Go.bits .and .i64 y (x : Int) == y) = true ↔ grt c x ≠ 0 := by
    rw [List.any_eq_true]
    constructor
    · rintro ⟨y, hy, h⟩
      obtain ⟨q, rfl, mq⟩ := (minQ_mem hn).1 hy
      rw [and_nat' mq.1 hx, beq_iff_eq] at h
      exact grt_ne mq.1 mq.2.1 (sub_and.1 (by omega))
    · intro h
      obtain ⟨p, mp, hs⟩ := minQ_ex _ (grt_lt c x) (grt_quo h)
      refine ⟨(p : Int), (minQ_mem hn).2 ⟨p, rfl, mp⟩, ?_⟩
      rw [and_nat' mp.1 hx, beq_iff_eq, sub_and.2 (hs.trans (grt_sub c x))]
  cases hb : (minQ c).any fun y => Go.bits .and .i64 y (x : Int) == y
  · have : grt c x = 0 := by
      apply Classical.byContradiction
      intro hne
      rw [h.2 hne] at hb
      cases hb
    rw [this]; rfl
  · have := h.1 hb
    symm
    rw [bne_iff_ne]
    omega
theorem QuorumsMinimal : trustquorumlaw10_QuorumsMinimal.Pure := by
  intro l0 h1 h2 h3
  obtain ⟨s, hs, e⟩ := New_ev l0 (by omega)
  suffices h : EvP (fun k => trustquorumlaw10_QuorumsMinimal.f k l0) (fun r => r = true) by
    obtain ⟨r, rfl, h⟩ := h
    exact h.rounds
  simp only [trustquorumlaw10_QuorumsMinimal.f, e, Option.bind_some]
  refine EvP.bind (Config_ev hs (by decide) (by decide) (by decide)) ?_
  rintro ⟨c, s1⟩ ⟨⟨hc, _⟩, h4⟩
  simp only at hc h4 ⊢
  have hn10 := hc.2.1
  have hp := pow10 hn10
  have hp0 := Nat.two_pow_pos c.length
  refine EvP.bind (EvP.ofEv (Minimal_ev hc.light hn10 hc.valC)) ?_
  rintro r rfl
  simp only [if_true]
  have hml := minQ_len c hn10
  have htwo : ∀ i q, i < (minQ c).length → q < (minQ c).length → i ≠ q → ¬ Go.bits .and .i64 ((minQ c).getD i 0) ((minQ c).getD q 0) = (minQ c).getD i 0 := fun i q h h' h'' => minQ_two hn10 h h' h''
  have hmem : ∀ x ∈ minQ c, ∃ q : Nat, x = (q : Int) ∧ q < 1024 ∧ quo c q = true := fun x hx => by
    obtain ⟨q, h1, h2⟩ := (minQ_mem hn10).1 hx
    exact ⟨q, h1, h2.1, h2.2.1⟩
  have hsome : ∀ x : Nat, x < 1024 → ((minQ c).any fun y => Go.bits .and .i64 y (x : Int) == y) = ((grt c x : Int) != 0) := fun x hx => minQ_some hn10 hx
  have hcl := hc.light
  generalize minQ c = M at hml htwo hmem hsome
  have rounds : ∀ s2 : Int, 0 ≤ s2 → EvP (fun k => trustquorumlaw10_QuorumsMinimal.l2 k M 0 s s2 c) (fun r => r = true) := by
    intro s2 h7
    refine EvP.loop (L := fun (x : Nat × Int) k => trustquorumlaw10_QuorumsMinimal.l2 k M (x.1 : Int) s x.2 c) (fun x => x.1 ≤ 30 ∧ 0 ≤ x.2) (fun x => 30 - x.1) ?_ (0, s2) ⟨by simp, h7⟩
    rintro ⟨i, s2⟩ ⟨h8, h9⟩ ih
    simp only at h8 h9 ih ⊢
    by_cases h30 : i < 30
    case neg =>
      have h : ¬ (i : Int) < 30 := by omega
      refine EvP.shift ?_
      simp only [trustquorumlaw10_QuorumsMinimal.l2, h, if_false]
      refine EvP.bind (EvP.ofEv awake10_ev) ?_
      rintro r rfl
      exact EvP.now rfl
    have hi30 : (i : Int) < 30 := by omega
    have hsh : shl .i64 1 (c.length : Int) = ((2 ^ c.length : Nat) : Int) := shl_nat (by omega)
    refine EvP.shift ?_
    simp only [trustquorumlaw10_QuorumsMinimal.l2, hi30, if_true, hsh]
    refine EvP.bind (tN hs h9 (by omega) (by omega)) ?_
    rintro ⟨v, s3⟩ ⟨⟨h10, h11⟩, h12⟩
    simp only at h10 h11 h12 ⊢
    obtain ⟨v, rfl⟩ := Int.eq_ofNat_of_zero_le h10
    have hv : v < 1024 := by omega
    obtain ⟨r, hr, nxt⟩ := ih (i + 1, s3) ⟨by show i + 1 ≤ 30; omega, h12⟩ (by show 30 - (i + 1) < 30 - i; omega)
    have e1 : wrap64 ((i : Int) + 1) = ((i + 1 : Nat) : Int) := w64 (by omega) (by omega)
    refine ⟨r, hr, ?_⟩
    have hsv := hsome v hv
    refine Ev.fold (xs := M) (L := fun (b : Bool) q k => trustquorumlaw10_QuorumsMinimal.l3 k M (i : Int) (v : Int) b M (M.length : Int) q s s3 c) (by omega) (fun pre ys b => (b || ys.any fun y => Go.bits .and .i64 y (v : Int) == y) = ((grt c v : Int) != 0)) ?_ ?_ false (by simpa using hsv)
    · intro b q hI hq
      rw [List.any_nil, Bool.or_false] at hI
      subst hI
      refine Ev.shift ?_
      simp only [trustquorumlaw10_QuorumsMinimal.l3, hq, if_false]
      refine Ev.bind1 (Greatest_ev hcl hv) ?_
      simp only [bne_self_eq_false, Bool.false_eq_true, if_false, e1]
      exact nxt
    · intro pre y ys b q e hI hq h0 hlt hwq hrd
      rw [List.any_cons, ← Bool.or_assoc] at hI
      refine Or.inl ⟨b || (Go.bits .and .i64 y (v : Int) == y), hI, fun k => ?_⟩
      refine Ev.shift ?_
      cases b
      · rw [Bool.false_or] at k
        simp only [trustquorumlaw10_QuorumsMinimal.l3, h0, hlt, hwq, if_true, Bool.false_eq_true, if_false, Go.Proofs.YtkjlcbfjllpcnaaW.PrintWords.rd, hrd]
        exact k
      · rw [Bool.true_or] at k
        simp only [trustquorumlaw10_QuorumsMinimal.l3, h0, hlt, hwq, if_true]
        exact k
  obtain ⟨r, hr, rounds⟩ := rounds s1 h4
  refine ⟨r, hr, ?_⟩
  refine Ev.fold (xs := M) (L := fun (u : Unit) i k => trustquorumlaw10_QuorumsMinimal.l0 k M M (M.length : Int) i s s1 c) (by omega) (fun _ _ _ => True) ?_ ?_ () trivial
  · intro u i _ hi
    refine Ev.shift ?_
    simp only [trustquorumlaw10_QuorumsMinimal.l0, hi, if_false]
    exact rounds
  · intro pre x xs u i e _ hi h0 hlt hwi hrd
    refine Or.inl ⟨(), trivial, fun k => ?_⟩
    have hx : x = M.getD i.toNat 0 := (hrd 0).symm
    obtain ⟨xn, hxn, hx10, hxq⟩ := hmem x (by rw [e]; simp)
    have hiM : i.toNat < M.length := by omega
    have hin : i = (i.toNat : Int) := by omega
    refine Ev.shift ?_
    simp only [trustquorumlaw10_QuorumsMinimal.l0, h0, hlt, if_true, Go.Proofs.YtkjlcbfjllpcnaaW.PrintWords.rd, hrd]
    refine Ev.fold (xs := M) (L := fun (u : Unit) q k => trustquorumlaw10_QuorumsMinimal.l1 k M i x M (M.length : Int) i M (M.length : Int) q s s1 c) (by omega) (fun _ _ _ => True) ?_ ?_ () trivial
    · intro u q _ hq
      refine Ev.shift ?_
      simp only [trustquorumlaw10_QuorumsMinimal.l1, hq, if_false]
      rw [hxn]
      refine Ev.bind1 (ref_Quorum_ev hcl hx10) ?_
      simp only [hxq, if_true, hwi]
      exact k
    · intro pre' y ys u q e' _ hq h0q hltq hwq hrdq
      refine Or.inl ⟨(), trivial, fun k' => ?_⟩
      refine Ev.shift ?_
      by_cases hne : i = q
      · simp only [trustquorumlaw10_QuorumsMinimal.l1, hltq, h0q, hne, if_true, hwq]
        rw [hne] at k'
        exact k'
      · have hy : y = M.getD q.toNat 0 := (hrdq 0).symm
        have hno : ¬ Go.bits .and .i64 x y = x := by
          rw [hx, hy]
          exact htwo _ _ hiM (by omega) (by omega)
        simp only [trustquorumlaw10_QuorumsMinimal.l1, hltq, h0q, hne, if_true, if_false, hwq, Go.Proofs.YtkjlcbfjllpcnaaW.PrintWords.rd, hrdq, hno]
        exact k'
end Go.Proofs.Ytkjlcbfjllpcnaa.Pure
