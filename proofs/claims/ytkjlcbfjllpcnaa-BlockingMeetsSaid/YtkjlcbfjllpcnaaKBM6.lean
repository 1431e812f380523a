/- Proof of the statement BlockingMeets: part 6 of 7, what it computes and why that answers true. -/
import Derived.Test.YtkjlcbfjllpcnaaKBM5
set_option linter.unusedVariables false
set_option linter.unusedSimpArgs false
namespace Go.Proofs.Ytkjlcbfjllpcnaa.X
open Go.RowKit Go.Proofs.YtkjlcbfjllpcnaaW.PrintWords Go.Proofs.YtkjlcbfjllpcnaaW.PrintLast Go.Proofs.YtkjlcbfjllpcnaaW.PrintMore
set_option linter.unusedVariables false
mutual
def depL : List S32 → Nat
  | [] => 0
  | t :: ts => max (dep t) (depL ts)
def dep : S32 → Nat
  | ⟨_, _, ts⟩ => depL ts + 1
end
mutual
def sizL : List S32 → Nat
  | [] => 0
  | t :: ts => siz t + sizL ts
def siz : S32 → Nat
  | ⟨_, l, ts⟩ => l.length + ts.length + sizL ts
end
mutual
def useL : List S32 → Nat
  | [] => 0
  | t :: ts => uses t ||| useL ts
def uses : S32 → Nat
  | ⟨_, l, ts⟩ => l.foldl (fun a x => if noNode x = true then a else a ||| 2 ^ x.toNat) 0 ||| useL ts
end
def ofS (a : Nat) : List Int → Nat × Int
  | [] => (a, 0)
  | x :: xs => if noNode x = true then (0, 5) else if inS a x = true then (0, 6) else ofS (a ||| 2 ^ x.toNat) xs
mutual
def chkL : List S32 → Int
  | [] => 0
  | t :: ts => if chk t = 0 then chkL ts else chk t
def chk : S32 → Int
  | ⟨n, l, ts⟩ => if n < 1 ∨ n > ((l.length + ts.length : Nat) : Int) then 4 else if (l.any noNode) = true then 5 else if (ofS 0 l).2 = 0 then chkL ts else (ofS 0 l).2
end
def validT (t : S32) : Int := if dep t > 4 then 3 else if siz t > 200 then 3 else chk t
theorem dep_eq (t : S32) : dep t = depL t.f2 + 1 := by cases t; rw [dep]
theorem siz_eq (t : S32) : siz t = t.f1.length + t.f2.length + sizL t.f2 := by cases t; rw [siz]
theorem chk_eq (t : S32) : chk t = if t.f0 < 1 ∨ t.f0 > ((t.f1.length + t.f2.length : Nat) : Int) then 4 else if (t.f1.any noNode) = true then 5 else if (ofS 0 t.f1).2 = 0 then chkL t.f2 else (ofS 0 t.f1).2 := by cases t; rw [chk]
theorem uses_eq (t : S32) : uses t = t.f1.foldl (fun a x => if noNode x = true then a else a ||| 2 ^ x.toNat) 0 ||| useL t.f2 := by cases t; rw [uses]
mutual
theorem dep_le : ∀ t : S32, dep t ≤ wt t
  | ⟨_, l, ts⟩ => by rw [dep, wt]; have := depL_le ts; omega
theorem depL_le : ∀ l : List S32, depL l ≤ wtL l
  | [] => Nat.le_refl _
  | t :: ts => by rw [depL, wtL]; have := dep_le t; have := depL_le ts; omega
end
mutual
theorem siz_le : ∀ t : S32, siz t ≤ 2 * wt t
  | ⟨_, l, ts⟩ => by rw [siz, wt]; have := sizL_le ts; omega
theorem sizL_le : ∀ l : List S32, l.length + sizL l ≤ 2 * wtL l
  | [] => Nat.le_refl _
  | t :: ts => by rw [sizL, wtL, List.length_cons]; have := siz_le t; have := sizL_le ts; have := wt_pos t; have : 1 + siz t ≤ 2 * wt t := by
                    cases t with | mk n l xs => rw [siz, wt]; have := sizL_le xs; omega
                  omega
end
theorem or_lt {a b n : Nat} (ha : a < 2 ^ n) (hb : b < 2 ^ n) : a ||| b < 2 ^ n := Nat.or_lt_two_pow ha hb
theorem or_lt10 {a b : Nat} (ha : a < 1024) (hb : b < 1024) : a ||| b < 1024 := or_lt (n := 10) ha hb
theorem two_lt10 {k : Nat} (h : k < 10) : 2 ^ k < 1024 := Nat.pow_lt_pow_right (a := 2) (by decide) h
theorem noNode_not {x : Int} (h : noNode x = false) : 0 ≤ x ∧ x < 10 := by simp [noNode] at h; omega
theorem foldUse_lt (l : List Int) : ∀ a, a < 1024 → l.foldl (fun a x => if noNode x = true then a else a ||| 2 ^ x.toNat) a < 1024 := by
  induction l with
  | nil => intro a h; exact h
  | cons x xs ih =>
    intro a h
    rw [List.foldl_cons]
    refine ih _ ?_
    cases hx : noNode x
    · have := noNode_not hx
      exact or_lt10 h (two_lt10 (by omega))
    · exact h
mutual
theorem uses_lt : ∀ t : S32, uses t < 1024
  | ⟨_, l, ts⟩ => by rw [uses]; exact or_lt10 (foldUse_lt l 0 (by decide)) (useL_lt ts)
theorem useL_lt : ∀ l : List S32, useL l < 1024
  | [] => by rw [useL]; decide
  | t :: ts => by rw [useL]; exact or_lt10 (uses_lt t) (useL_lt ts)
end
theorem mx_nat (a b : Nat) : mx (a : Int) (b : Int) = ((max a b : Nat) : Int) := by unfold mx; split <;> omega
theorem Depth_ev : ∀ (n : Nat) (t : S32), wt t < n → n < 1152921504606846976 → Ev (fun k => threshold_Depth.f k t.f0 t.f1 t.f2) (dep t : Int)
  | 0, t, h, _ => absurd h (by omega)
  | n + 1, t, h, hn => by
    rw [wt_eq] at h
    have hl := len_wtL t.f2
    have hd := depL_le t.f2
    rw [dep_eq]
    (refine Ev.shift ?_; simp only [threshold_Depth.f, Option.bind_some, ↓reduceIte, Bool.false_eq_true, reduceCtorEq, decide_eq_true_eq, Go.Proofs.YtkjlcbfjllpcnaaW.PrintWords.rd, rd_T32, rd_T34])
    refine Ev.fold (xs := t.f2) (L := fun (c : Nat) i k => threshold_Depth.l0 k (c : Int) t.f2 (t.f2.length : Int) i) (by omega) (fun pre ys c => max c (depL ys) = depL t.f2) ?_ ?_ 0 (by omega)
    · intro c i hI hi
      rw [depL] at hI
      (refine Ev.shift ?_; simp only [threshold_Depth.l0, hi, Option.bind_some, ↓reduceIte, Bool.false_eq_true, reduceCtorEq, decide_eq_true_eq, Go.Proofs.YtkjlcbfjllpcnaaW.PrintWords.rd, rd_T32, rd_T34])
      rw [show wrap64 ((c : Int) + 1) = ((depL t.f2 + 1 : Nat) : Int) by rw [w64 (by omega) (by omega)]; omega]
      exact Ev.now _
    · intro pre y ys c i e hI hi h0 hlt hw hrd
      rw [depL] at hI
      refine Or.inl ⟨max c (dep y), by omega, fun k => ?_⟩
      (refine Ev.shift ?_; simp only [threshold_Depth.l0, h0, hlt, hw, hrd, Option.bind_some, ↓reduceIte, Bool.false_eq_true, reduceCtorEq, decide_eq_true_eq, Go.Proofs.YtkjlcbfjllpcnaaW.PrintWords.rd, rd_T32, rd_T34])
      refine Ev.bind1 (Depth_ev n y (by have := wt_mem (show y ∈ t.f2 by rw [e]; simp); omega) (by omega)) ?_
      rw [mx_nat]
      exact k
theorem Size_ev : ∀ (n : Nat) (t : S32), wt t < n → n < 1152921504606846976 → Ev (fun k => threshold_Size.f k t.f0 t.f1 t.f2) (siz t : Int)
  | 0, t, h, _ => absurd h (by omega)
  | n + 1, t, h, hn => by
    have hs := siz_le t
    have hw := h
    rw [wt_eq] at h
    have hl := len_wtL t.f2
    rw [siz_eq] at hs ⊢
    (refine Ev.shift ?_; simp only [threshold_Size.f, Option.bind_some, ↓reduceIte, Bool.false_eq_true, reduceCtorEq, decide_eq_true_eq, Go.Proofs.YtkjlcbfjllpcnaaW.PrintWords.rd, rd_T32, rd_T34])
    rw [show wrap64 ((t.f1.length : Int) + (t.f2.length : Int)) = ((t.f1.length + t.f2.length : Nat) : Int) by rw [w64 (by omega) (by omega)]; omega]
    refine Ev.fold (L := fun (c : Nat) i k => threshold_Size.l0 k (c : Int) t.f2 (t.f2.length : Int) i) (by omega) (fun pre ys c => c + sizL ys = t.f1.length + t.f2.length + sizL t.f2) ?_ ?_ (t.f1.length + t.f2.length) rfl
    · intro c i hI hi
      rw [sizL] at hI
      (refine Ev.shift ?_; simp only [threshold_Size.l0, hi, Option.bind_some, ↓reduceIte, Bool.false_eq_true, reduceCtorEq, decide_eq_true_eq, Go.Proofs.YtkjlcbfjllpcnaaW.PrintWords.rd, rd_T32, rd_T34])
      rw [← hI]
      exact Ev.now _
    · intro pre y ys c i e hI hi h0 hlt hw hrd
      rw [sizL] at hI
      refine Or.inl ⟨c + siz y, by omega, fun k => ?_⟩
      (refine Ev.shift ?_; simp only [threshold_Size.l0, h0, hlt, hw, hrd, Option.bind_some, ↓reduceIte, Bool.false_eq_true, reduceCtorEq, decide_eq_true_eq, Go.Proofs.YtkjlcbfjllpcnaaW.PrintWords.rd, rd_T32, rd_T34])
      refine Ev.bind1 (Size_ev n y (by have := wt_mem (show y ∈ t.f2 by rw [e]; simp); omega) (by omega)) ?_
      rw [show wrap64 ((c : Int) + (siz y : Int)) = ((c + siz y : Nat) : Int) by rw [w64 (by omega) (by omega)]; omega]
      exact k
theorem Of_ev (l : List Int) (hl : l.length < 1152921504606846976) : Ev (fun k => nodeset_Of.f k l) (((ofS 0 l).1 : Int), (ofS 0 l).2) := by
  refine Ev.congr (f := fun k => nodeset_Of.l0 k ((0 : Nat) : Int) l (l.length : Int) 0) (fun k => rfl) ?_
  refine Ev.fold (L := fun (c : Nat) i k => nodeset_Of.l0 k (c : Int) l (l.length : Int) i) (by omega) (fun pre ys c => ofS c ys = ofS 0 l ∧ c < 1024) ?_ ?_ 0 ⟨rfl, by decide⟩
  · rintro c i ⟨hI, hc⟩ hi
    (refine Ev.shift ?_; simp only [nodeset_Of.l0, hi, Option.bind_some, ↓reduceIte, Bool.false_eq_true, reduceCtorEq, decide_eq_true_eq, Go.Proofs.YtkjlcbfjllpcnaaW.PrintWords.rd, rd_T32, rd_T34])
    rw [← hI]
    exact Ev.now _
  · rintro pre y ys c i e ⟨hI, hc⟩ hi h0 hlt hw hrd
    rw [ofS] at hI
    cases hn : noNode y
    · have hb := noNode_not hn
      simp only [hn, Bool.false_eq_true, if_false] at hI
      cases hs : inS c y
      · refine Or.inl ⟨c ||| 2 ^ y.toNat, ⟨by simpa [hs] using hI, or_lt10 hc (two_lt10 (by omega))⟩, fun k => ?_⟩
        have h2 := two_lt10 (show y.toNat < 10 by omega)
        have e2 : Go.bits .or .i64 (c : Int) (shl .i64 1 y) = ((c ||| 2 ^ y.toNat : Nat) : Int) := by
          rw [show y = (y.toNat : Int) by omega, shl_nat (by omega), Int.toNat_natCast, or_nat (by omega) (by omega)]
        have h1 : ¬ y < 0 := by omega
        have h3 : decide (y ≥ 10) = false := by simp; omega
        (refine Ev.shift ?_; simp only [nodeset_Of.l0, h0, hlt, hw, hrd, h1, h3, Option.bind_some, ↓reduceIte, Bool.false_eq_true, reduceCtorEq, decide_eq_true_eq, Go.Proofs.YtkjlcbfjllpcnaaW.PrintWords.rd, rd_T32, rd_T34])
        (refine Ev.shift ?_; simp only [nodeset_Of.j1, Has_eq hc, hs, hb.1, hw, Option.bind_some, ↓reduceIte, Bool.false_eq_true, reduceCtorEq, decide_eq_true_eq, Go.Proofs.YtkjlcbfjllpcnaaW.PrintWords.rd, rd_T32, rd_T34])
        rw [e2]
        exact k
      · refine Or.inr ?_
        simp only [hs, if_true] at hI
        have h1 : ¬ y < 0 := by omega
        have h3 : decide (y ≥ 10) = false := by simp; omega
        (refine Ev.shift ?_; simp only [nodeset_Of.l0, h0, hlt, hw, hrd, h1, h3, Option.bind_some, ↓reduceIte, Bool.false_eq_true, reduceCtorEq, decide_eq_true_eq, Go.Proofs.YtkjlcbfjllpcnaaW.PrintWords.rd, rd_T32, rd_T34])
        (refine Ev.shift ?_; simp only [nodeset_Of.j1, Has_eq hc, hs, Option.bind_some, ↓reduceIte, Bool.false_eq_true, reduceCtorEq, decide_eq_true_eq, Go.Proofs.YtkjlcbfjllpcnaaW.PrintWords.rd, rd_T32, rd_T34])
        rw [← hI]
        exact Ev.now _
    · refine Or.inr ?_
      simp only [hn, if_true] at hI
      rw [← hI]
      by_cases h1 : y < 0
      · (refine Ev.shift ?_; simp only [nodeset_Of.l0, h0, hlt, hw, hrd, h1, Option.bind_some, ↓reduceIte, Bool.false_eq_true, reduceCtorEq, decide_eq_true_eq, Go.Proofs.YtkjlcbfjllpcnaaW.PrintWords.rd, rd_T32, rd_T34])
        (refine Ev.shift ?_; simp only [nodeset_Of.j1, Option.bind_some, ↓reduceIte, Bool.false_eq_true, reduceCtorEq, decide_eq_true_eq, Go.Proofs.YtkjlcbfjllpcnaaW.PrintWords.rd, rd_T32, rd_T34])
        exact Ev.now _
      · have h3 : decide (y ≥ 10) = true := by simp [noNode] at hn ⊢; omega
        (refine Ev.shift ?_; simp only [nodeset_Of.l0, h0, hlt, hw, hrd, h1, h3, Option.bind_some, ↓reduceIte, Bool.false_eq_true, reduceCtorEq, decide_eq_true_eq, Go.Proofs.YtkjlcbfjllpcnaaW.PrintWords.rd, rd_T32, rd_T34])
        (refine Ev.shift ?_; simp only [nodeset_Of.j1, Option.bind_some, ↓reduceIte, Bool.false_eq_true, reduceCtorEq, decide_eq_true_eq, Go.Proofs.YtkjlcbfjllpcnaaW.PrintWords.rd, rd_T32, rd_T34])
        exact Ev.now _
theorem Uses_ev : ∀ (n : Nat) (t : S32), wt t < n → n < 1152921504606846976 → Ev (fun k => threshold_Uses.f k t.f0 t.f1 t.f2) (uses t : Int)
  | 0, t, h, _ => absurd h (by omega)
  | n + 1, t, h, hn => by
    rw [wt_eq] at h
    have hl := len_wtL t.f2
    have hU := uses_lt t
    rw [uses_eq] at hU ⊢
    generalize hT : (t.f1.foldl (fun a x => if noNode x = true then a else a ||| 2 ^ x.toNat) 0 ||| useL t.f2) = T at hU
    have l1 : ∀ c, c < 1024 → c ||| useL t.f2 = T → Ev (fun k => threshold_Uses.l1 k (c : Int) t.f2 (t.f2.length : Int) 0) (T : Int) := by
      intro c hc hcT
      refine Ev.fold (L := fun (c : Nat) i k => threshold_Uses.l1 k (c : Int) t.f2 (t.f2.length : Int) i) (by omega) (fun pre ys c => c ||| useL ys = T ∧ c < 1024) ?_ ?_ c ⟨hcT, hc⟩
      · rintro c i ⟨hI, hc⟩ hi
        rw [useL, Nat.or_zero] at hI
        (refine Ev.shift ?_; simp only [threshold_Uses.l1, hi, Option.bind_some, ↓reduceIte, Bool.false_eq_true, reduceCtorEq, decide_eq_true_eq, Go.Proofs.YtkjlcbfjllpcnaaW.PrintWords.rd, rd_T32, rd_T34])
        rw [← hI]
        exact Ev.now _
      · rintro pre y ys c i e ⟨hI, hc⟩ hi h0 hlt hw hrd
        rw [useL] at hI
        refine Or.inl ⟨c ||| uses y, ⟨by rw [Nat.or_assoc]; exact hI, or_lt10 hc (uses_lt y)⟩, fun k => ?_⟩
        (refine Ev.shift ?_; simp only [threshold_Uses.l1, h0, hlt, hw, hrd, Option.bind_some, ↓reduceIte, Bool.false_eq_true, reduceCtorEq, decide_eq_true_eq, Go.Proofs.YtkjlcbfjllpcnaaW.PrintWords.rd, rd_T32, rd_T34])
        refine Ev.bind1 (Uses_ev n y (by have := wt_mem (show y ∈ t.f2 by rw [e]; simp); omega) (by omega)) ?_
        have := uses_lt y
        rw [or_nat (by omega) (by omega)]
        exact k
    (refine Ev.shift ?_; simp only [threshold_Uses.f, Option.bind_some, ↓reduceIte, Bool.false_eq_true, reduceCtorEq, decide_eq_true_eq, Go.Proofs.YtkjlcbfjllpcnaaW.PrintWords.rd, rd_T32, rd_T34])
    refine Ev.fold (L := fun (c : Nat) i k => threshold_Uses.l0 k (c : Int) t.f1 (t.f1.length : Int) i t.f0 t.f1 t.f2) (by omega) (fun pre ys c => (ys.foldl (fun a x => if noNode x = true then a else a ||| 2 ^ x.toNat) c) ||| useL t.f2 = T ∧ c < 1024) ?_ ?_ 0 ⟨hT, by decide⟩
    · rintro c i ⟨hI, hc⟩ hi
      (refine Ev.shift ?_; simp only [threshold_Uses.l0, hi, Option.bind_some, ↓reduceIte, Bool.false_eq_true, reduceCtorEq, decide_eq_true_eq, Go.Proofs.YtkjlcbfjllpcnaaW.PrintWords.rd, rd_T32, rd_T34])
      exact l1 c hc hI
    · rintro pre y ys c i e ⟨hI, hc⟩ hi h0 hlt hw hrd
      rw [List.foldl_cons] at hI
      cases hn : noNode y
      · have hb := noNode_not hn
        have h2 := two_lt10 (show y.toNat < 10 by omega)
        refine Or.inl ⟨c ||| 2 ^ y.toNat, ⟨by simpa [hn] using hI, or_lt10 hc h2⟩, fun k => ?_⟩
        have e2 : Go.bits .or .i64 (c : Int) (shl .i64 1 y) = ((c ||| 2 ^ y.toNat : Nat) : Int) := by
          rw [show y = (y.toNat : Int) by omega, shl_nat (by omega), Int.toNat_natCast, or_nat (by omega) (by omega)]
        have h3 : y ≥ 0 := by omega
        have h4 : y < 10 := by omega
        (refine Ev.shift ?_; simp only [threshold_Uses.l0, threshold_node.f, h0, hlt, hw, hrd, h3, h4, decide_true, hb.1, Option.bind_some, ↓reduceIte, Bool.false_eq_true, reduceCtorEq, decide_eq_true_eq, Go.Proofs.YtkjlcbfjllpcnaaW.PrintWords.rd, rd_T32, rd_T34])
        rw [e2]
        exact k
      · refine Or.inl ⟨c, ⟨by simpa [hn] using hI, hc⟩, fun k => ?_⟩
        by_cases h3 : y ≥ 0
        · have h4 : ¬ y < 10 := by simp [noNode] at hn; omega
          (refine Ev.shift ?_; simp only [threshold_Uses.l0, threshold_node.f, h0, hlt, hw, hrd, h3, h4, decide_false, Option.bind_some, ↓reduceIte, Bool.false_eq_true, reduceCtorEq, decide_eq_true_eq, Go.Proofs.YtkjlcbfjllpcnaaW.PrintWords.rd, rd_T32, rd_T34])
          exact k
        · (refine Ev.shift ?_; simp only [threshold_Uses.l0, threshold_node.f, h0, hlt, hw, hrd, h3, Option.bind_some, ↓reduceIte, Bool.false_eq_true, reduceCtorEq, decide_eq_true_eq, Go.Proofs.YtkjlcbfjllpcnaaW.PrintWords.rd, rd_T32, rd_T34])
          exact k
theorem level_ev : ∀ (n : Nat) (t : S32), wt t < n → n < 1152921504606846976 → Ev (fun k => threshold_level.f k t.f0 t.f1 t.f2) (chk t)
  | 0, t, h, _ => absurd h (by omega)
  | n + 1, t, h, hn => by
    rw [wt_eq] at h
    have hl := len_wtL t.f2
    rw [chk_eq]
    have el : wrap64 ((t.f1.length : Int) + (t.f2.length : Int)) = ((t.f1.length + t.f2.length : Nat) : Int) := by rw [w64 (by omega) (by omega)]; omega
    by_cases h1 : t.f0 < 1
    · (refine Ev.shift ?_; simp only [threshold_level.f, h1, true_or, Option.bind_some, ↓reduceIte, Bool.false_eq_true, reduceCtorEq, decide_eq_true_eq, Go.Proofs.YtkjlcbfjllpcnaaW.PrintWords.rd, rd_T32, rd_T34])
      (refine Ev.shift ?_; simp only [threshold_level.j0, Option.bind_some, ↓reduceIte, Bool.false_eq_true, reduceCtorEq, decide_eq_true_eq, Go.Proofs.YtkjlcbfjllpcnaaW.PrintWords.rd, rd_T32, rd_T34])
      exact Ev.now _
    by_cases h2 : t.f0 > ((t.f1.length + t.f2.length : Nat) : Int)
    · (refine Ev.shift ?_; simp only [threshold_level.f, h1, h2, el, or_true, decide_true, Option.bind_some, ↓reduceIte, Bool.false_eq_true, reduceCtorEq, decide_eq_true_eq, Go.Proofs.YtkjlcbfjllpcnaaW.PrintWords.rd, rd_T32, rd_T34])
      (refine Ev.shift ?_; simp only [threshold_level.j0, Option.bind_some, ↓reduceIte, Bool.false_eq_true, reduceCtorEq, decide_eq_true_eq, Go.Proofs.YtkjlcbfjllpcnaaW.PrintWords.rd, rd_T32, rd_T34])
      exact Ev.now _
    (refine Ev.shift ?_; simp only [threshold_level.f, h1, h2, el, or_false, decide_false, Option.bind_some, ↓reduceIte, Bool.false_eq_true, reduceCtorEq, decide_eq_true_eq, Go.Proofs.YtkjlcbfjllpcnaaW.PrintWords.rd, rd_T32, rd_T34])
    (refine Ev.shift ?_; simp only [threshold_level.j0, containsFunc_level.f, Option.bind_some, ↓reduceIte, Bool.false_eq_true, reduceCtorEq, decide_eq_true_eq, Go.Proofs.YtkjlcbfjllpcnaaW.PrintWords.rd, rd_T32, rd_T34])
    cases hn : t.f1.any noNode
    · simp only [Bool.false_eq_true, if_false]
      refine Ev.bind1 (Of_ev t.f1 (by omega)) ?_
      by_cases h3 : (ofS 0 t.f1).2 = 0
      · simp only [h3, if_true]
        refine Ev.fold (L := fun (c : Unit) i k => threshold_level.l0 k t.f2 (t.f2.length : Int) i) (by omega) (fun pre ys c => chkL ys = chkL t.f2) ?_ ?_ () rfl
        · intro c i hI hi
          rw [chkL] at hI
          (refine Ev.shift ?_; simp only [threshold_level.l0, hi, Option.bind_some, ↓reduceIte, Bool.false_eq_true, reduceCtorEq, decide_eq_true_eq, Go.Proofs.YtkjlcbfjllpcnaaW.PrintWords.rd, rd_T32, rd_T34])
          rw [← hI]
          exact Ev.now _
        · intro pre y ys c i e hI hi h0 hlt hw hrd
          rw [chkL] at hI
          have hy := level_ev n y (by have := wt_mem (show y ∈ t.f2 by rw [e]; simp); omega) (by omega)
          by_cases h4 : chk y = 0
          · refine Or.inl ⟨(), by rw [← hI, if_pos h4], fun k => ?_⟩
            (refine Ev.shift ?_; simp only [threshold_level.l0, h0, hlt, hw, hrd, Option.bind_some, ↓reduceIte, Bool.false_eq_true, reduceCtorEq, decide_eq_true_eq, Go.Proofs.YtkjlcbfjllpcnaaW.PrintWords.rd, rd_T32, rd_T34])
            refine Ev.bind1 hy ?_
            simp only [h4, if_true]
            exact k
          · refine Or.inr ?_
            rw [← hI, if_neg h4]
            (refine Ev.shift ?_; simp only [threshold_level.l0, h0, hlt, hw, hrd, Option.bind_some, ↓reduceIte, Bool.false_eq_true, reduceCtorEq, decide_eq_true_eq, Go.Proofs.YtkjlcbfjllpcnaaW.PrintWords.rd, rd_T32, rd_T34])
            refine Ev.bind1 hy ?_
            simp only [h4, if_false]
            exact Ev.now _
      · simp only [h3, if_false]
        exact Ev.now _
    · simp only [if_true]
      exact Ev.now _
theorem Valid_ev (t : S32) (h : wt t < 1000000) : Ev (fun k => threshold_Valid.f k t.f0 t.f1 t.f2) (validT t) := by
  simp only [threshold_Valid.f, validT, Option.bind_some, ↓reduceIte, Bool.false_eq_true, reduceCtorEq, decide_eq_true_eq, Go.Proofs.YtkjlcbfjllpcnaaW.PrintWords.rd, rd_T32, rd_T34]
  refine Ev.bind1 (Depth_ev 1000000 t h (by decide)) ?_
  by_cases h1 : dep t > 4
  · have : (dep t : Int) > 4 := by omega
    simp only [h1, this, Option.bind_some, ↓reduceIte, Bool.false_eq_true, reduceCtorEq, decide_eq_true_eq, Go.Proofs.YtkjlcbfjllpcnaaW.PrintWords.rd, rd_T32, rd_T34]
    exact Ev.now _
  have h2 : ¬ (dep t : Int) > 4 := by omega
  simp only [h1, h2, Option.bind_some, ↓reduceIte, Bool.false_eq_true, reduceCtorEq, decide_eq_true_eq, Go.Proofs.YtkjlcbfjllpcnaaW.PrintWords.rd, rd_T32, rd_T34]
  refine Ev.bind1 (Size_ev 1000000 t h (by decide)) ?_
  by_cases h3 : siz t > 200
  · have : (siz t : Int) > 200 := by omega
    simp only [h3, this, Option.bind_some, ↓reduceIte, Bool.false_eq_true, reduceCtorEq, decide_eq_true_eq, Go.Proofs.YtkjlcbfjllpcnaaW.PrintWords.rd, rd_T32, rd_T34]
    exact Ev.now _
  have h4 : ¬ (siz t : Int) > 200 := by omega
  simp only [h3, h4, Option.bind_some, ↓reduceIte, Bool.false_eq_true, reduceCtorEq, decide_eq_true_eq, Go.Proofs.YtkjlcbfjllpcnaaW.PrintWords.rd, rd_T32, rd_T34]
  refine Ev.bind1 (level_ev 1000000 t h (by decide)) ?_
  exact Ev.now _
theorem ref_Depth_ev : ∀ (n : Nat) (t : S32), wt t < n → n < 1152921504606846976 → Ev (fun k => trustquorumref02_Depth.f k t.f0 t.f1 t.f2) (dep t : Int)
  | 0, t, h, _ => absurd h (by omega)
  | n + 1, t, h, hn => by
    rw [wt_eq] at h
    have hl := len_wtL t.f2
    have hd := depL_le t.f2
    rw [dep_eq]
    (refine Ev.shift ?_; simp only [trustquorumref02_Depth.f, Option.bind_some, ↓reduceIte, Bool.false_eq_true, reduceCtorEq, decide_eq_true_eq, Go.Proofs.YtkjlcbfjllpcnaaW.PrintWords.rd, rd_T32, rd_T34])
    refine Ev.fold (xs := t.f2) (L := fun (c : Nat) i k => trustquorumref02_Depth.l0 k (c : Int) t.f2 (t.f2.length : Int) i) (by omega) (fun pre ys c => max c (depL ys) = depL t.f2) ?_ ?_ 0 (by omega)
    · intro c i hI hi
      rw [depL] at hI
      (refine Ev.shift ?_; simp only [trustquorumref02_Depth.l0, hi, Option.bind_some, ↓reduceIte, Bool.false_eq_true, reduceCtorEq, decide_eq_true_eq, Go.Proofs.YtkjlcbfjllpcnaaW.PrintWords.rd, rd_T32, rd_T34])
      rw [show wrap64 ((c : Int) + 1) = ((depL t.f2 + 1 : Nat) : Int) by rw [w64 (by omega) (by omega)]; omega]
      exact Ev.now _
    · intro pre y ys c i e hI hi h0 hlt hw hrd
      rw [depL] at hI
      refine Or.inl ⟨max c (dep y), by omega, fun k => ?_⟩
      (refine Ev.shift ?_; simp only [trustquorumref02_Depth.l0, h0, hlt, hw, hrd, Option.bind_some, ↓reduceIte, Bool.false_eq_true, reduceCtorEq, decide_eq_true_eq, Go.Proofs.YtkjlcbfjllpcnaaW.PrintWords.rd, rd_T32, rd_T34])
      refine Ev.bind1 (ref_Depth_ev n y (by have := wt_mem (show y ∈ t.f2 by rw [e]; simp); omega) (by omega)) ?_
      rw [mx_nat]
      exact k
theorem ref_Size_ev : ∀ (n : Nat) (t : S32), wt t < n → n < 1152921504606846976 → Ev (fun k => trustquorumref02_Size.f k t.f0 t.f1 t.f2) (siz t : Int)
  | 0, t, h, _ => absurd h (by omega)
  | n + 1, t, h, hn => by
    have hs := siz_le t
    have hw := h
    rw [wt_eq] at h
    have hl := len_wtL t.f2
    rw [siz_eq] at hs ⊢
    (refine Ev.shift ?_; simp only [trustquorumref02_Size.f, Option.bind_some, ↓reduceIte, Bool.false_eq_true, reduceCtorEq, decide_eq_true_eq, Go.Proofs.YtkjlcbfjllpcnaaW.PrintWords.rd, rd_T32, rd_T34])
    rw [show wrap64 ((t.f1.length : Int) + (t.f2.length : Int)) = ((t.f1.length + t.f2.length : Nat) : Int) by rw [w64 (by omega) (by omega)]; omega]
    refine Ev.fold (L := fun (c : Nat) i k => trustquorumref02_Size.l0 k (c : Int) t.f2 (t.f2.length : Int) i) (by omega) (fun pre ys c => c + sizL ys = t.f1.length + t.f2.length + sizL t.f2) ?_ ?_ (t.f1.length + t.f2.length) rfl
    · intro c i hI hi
      rw [sizL] at hI
      (refine Ev.shift ?_; simp only [trustquorumref02_Size.l0, hi, Option.bind_some, ↓reduceIte, Bool.false_eq_true, reduceCtorEq, decide_eq_true_eq, Go.Proofs.YtkjlcbfjllpcnaaW.PrintWords.rd, rd_T32, rd_T34])
      rw [← hI]
      exact Ev.now _
    · intro pre y ys c i e hI hi h0 hlt hw hrd
      rw [sizL] at hI
      refine Or.inl ⟨c + siz y, by omega, fun k => ?_⟩
      (refine Ev.shift ?_; simp only [trustquorumref02_Size.l0, h0, hlt, hw, hrd, Option.bind_some, ↓reduceIte, Bool.false_eq_true, reduceCtorEq, decide_eq_true_eq, Go.Proofs.YtkjlcbfjllpcnaaW.PrintWords.rd, rd_T32, rd_T34])
      refine Ev.bind1 (ref_Size_ev n y (by have := wt_mem (show y ∈ t.f2 by rw [e]; simp); omega) (by omega)) ?_
      rw [show wrap64 ((c : Int) + (siz y : Int)) = ((c + siz y : Nat) : Int) by rw [w64 (by omega) (by omega)]; omega]
      exact k
theorem ref_Of_ev (l : List Int) (hl : l.length < 1152921504606846976) : Ev (fun k => trustquorumref01_Of.f k l) (((ofS 0 l).1 : Int), (ofS 0 l).2) := by
  refine Ev.congr (f := fun k => trustquorumref01_Of.l0 k ((0 : Nat) : Int) l (l.length : Int) 0) (fun k => rfl) ?_
  refine Ev.fold (L := fun (c : Nat) i k => trustquorumref01_Of.l0 k (c : Int) l (l.length : Int) i) (by omega) (fun pre ys c => ofS c ys = ofS 0 l ∧ c < 1024) ?_ ?_ 0 ⟨rfl, by decide⟩
  · rintro c i ⟨hI, hc⟩ hi
    (refine Ev.shift ?_; simp only [trustquorumref01_Of.l0, hi, Option.bind_some, ↓reduceIte, Bool.false_eq_true, reduceCtorEq, decide_eq_true_eq, Go.Proofs.YtkjlcbfjllpcnaaW.PrintWords.rd, rd_T32, rd_T34])
    rw [← hI]
    exact Ev.now _
  · rintro pre y ys c i e ⟨hI, hc⟩ hi h0 hlt hw hrd
    rw [ofS] at hI
    cases hn : noNode y
    · have hb := noNode_not hn
      simp only [hn, Bool.false_eq_true, if_false] at hI
      cases hs : inS c y
      · refine Or.inl ⟨c ||| 2 ^ y.toNat, ⟨by simpa [hs] using hI, or_lt10 hc (two_lt10 (by omega))⟩, fun k => ?_⟩
        have h2 := two_lt10 (show y.toNat < 10 by omega)
        have e2 : Go.bits .or .i64 (c : Int) (shl .i64 1 y) = ((c ||| 2 ^ y.toNat : Nat) : Int) := by
          rw [show y = (y.toNat : Int) by omega, shl_nat (by omega), Int.toNat_natCast, or_nat (by omega) (by omega)]
        have h1 : ¬ y < 0 := by omega
        have h3 : decide (y ≥ 10) = false := by simp; omega
        (refine Ev.shift ?_; simp only [trustquorumref01_Of.l0, h0, hlt, hw, hrd, h1, h3, Option.bind_some, ↓reduceIte, Bool.false_eq_true, reduceCtorEq, decide_eq_true_eq, Go.Proofs.YtkjlcbfjllpcnaaW.PrintWords.rd, rd_T32, rd_T34])
        (refine Ev.shift ?_; simp only [trustquorumref01_Of.j1, ref01_Has_eq hc, hs, hb.1, hw, Option.bind_some, ↓reduceIte, Bool.false_eq_true, reduceCtorEq, decide_eq_true_eq, Go.Proofs.YtkjlcbfjllpcnaaW.PrintWords.rd, rd_T32, rd_T34])
        rw [e2]
        exact k
      · refine Or.inr ?_
        simp only [hs, if_true] at hI
        have h1 : ¬ y < 0 := by omega
        have h3 : decide (y ≥ 10) = false := by simp; omega
        (refine Ev.shift ?_; simp only [trustquorumref01_Of.l0, h0, hlt, hw, hrd, h1, h3, Option.bind_some, ↓reduceIte, Bool.false_eq_true, reduceCtorEq, decide_eq_true_eq, Go.Proofs.YtkjlcbfjllpcnaaW.PrintWords.rd, rd_T32, rd_T34])
        (refine Ev.shift ?_; simp only [trustquorumref01_Of.j1, ref01_Has_eq hc, hs, Option.bind_some, ↓reduceIte, Bool.false_eq_true, reduceCtorEq, decide_eq_true_eq, Go.Proofs.YtkjlcbfjllpcnaaW.PrintWords.rd, rd_T32, rd_T34])
        rw [← hI]
        exact Ev.now _
    · refine Or.inr ?_
      simp only [hn, if_true] at hI
      rw [← hI]
      by_cases h1 : y < 0
      · (refine Ev.shift ?_; simp only [trustquorumref01_Of.l0, h0, hlt, hw, hrd, h1, Option.bind_some, ↓reduceIte, Bool.false_eq_true, reduceCtorEq, decide_eq_true_eq, Go.Proofs.YtkjlcbfjllpcnaaW.PrintWords.rd, rd_T32, rd_T34])
        (refine Ev.shift ?_; simp only [trustquorumref01_Of.j1, Option.bind_some, ↓reduceIte, Bool.false_eq_true, reduceCtorEq, decide_eq_true_eq, Go.Proofs.YtkjlcbfjllpcnaaW.PrintWords.rd, rd_T32, rd_T34])
        exact Ev.now _
      · have h3 : decide (y ≥ 10) = true := by simp [noNode] at hn ⊢; omega
        (refine Ev.shift ?_; simp only [trustquorumref01_Of.l0, h0, hlt, hw, hrd, h1, h3, Option.bind_some, ↓reduceIte, Bool.false_eq_true, reduceCtorEq, decide_eq_true_eq, Go.Proofs.YtkjlcbfjllpcnaaW.PrintWords.rd, rd_T32, rd_T34])
        (refine Ev.shift ?_; simp only [trustquorumref01_Of.j1, Option.bind_some, ↓reduceIte, Bool.false_eq_true, reduceCtorEq, decide_eq_true_eq, Go.Proofs.YtkjlcbfjllpcnaaW.PrintWords.rd, rd_T32, rd_T34])
        exact Ev.now _
theorem ref_level_ev : ∀ (n : Nat) (t : S32), wt t < n → n < 1152921504606846976 → Ev (fun k => trustquorumref02_check.f k t.f0 t.f1 t.f2) (chk t)
  | 0, t, h, _ => absurd h (by omega)
  | n + 1, t, h, hn => by
    rw [wt_eq] at h
    have hl := len_wtL t.f2
    rw [chk_eq]
    have el : wrap64 ((t.f1.length : Int) + (t.f2.length : Int)) = ((t.f1.length + t.f2.length : Nat) : Int) := by rw [w64 (by omega) (by omega)]; omega
    by_cases h1 : t.f0 < 1
    · (refine Ev.shift ?_; simp only [trustquorumref02_check.f, h1, true_or, Option.bind_some, ↓reduceIte, Bool.false_eq_true, reduceCtorEq, decide_eq_true_eq, Go.Proofs.YtkjlcbfjllpcnaaW.PrintWords.rd, rd_T32, rd_T34])
      (refine Ev.shift ?_; simp only [trustquorumref02_check.j0, Option.bind_some, ↓reduceIte, Bool.false_eq_true, reduceCtorEq, decide_eq_true_eq, Go.Proofs.YtkjlcbfjllpcnaaW.PrintWords.rd, rd_T32, rd_T34])
      exact Ev.now _
    by_cases h2 : t.f0 > ((t.f1.length + t.f2.length : Nat) : Int)
    · (refine Ev.shift ?_; simp only [trustquorumref02_check.f, h1, h2, el, or_true, decide_true, Option.bind_some, ↓reduceIte, Bool.false_eq_true, reduceCtorEq, decide_eq_true_eq, Go.Proofs.YtkjlcbfjllpcnaaW.PrintWords.rd, rd_T32, rd_T34])
      (refine Ev.shift ?_; simp only [trustquorumref02_check.j0, Option.bind_some, ↓reduceIte, Bool.false_eq_true, reduceCtorEq, decide_eq_true_eq, Go.Proofs.YtkjlcbfjllpcnaaW.PrintWords.rd, rd_T32, rd_T34])
      exact Ev.now _
    (refine Ev.shift ?_; simp only [trustquorumref02_check.f, h1, h2, el, or_false, decide_false, Option.bind_some, ↓reduceIte, Bool.false_eq_true, reduceCtorEq, decide_eq_true_eq, Go.Proofs.YtkjlcbfjllpcnaaW.PrintWords.rd, rd_T32, rd_T34])
    (refine Ev.shift ?_; simp only [trustquorumref02_check.j0, Option.bind_some, ↓reduceIte, Bool.false_eq_true, reduceCtorEq, decide_eq_true_eq, Go.Proofs.YtkjlcbfjllpcnaaW.PrintWords.rd, rd_T32, rd_T34])
    have l1 : Ev (fun k => trustquorumref02_check.l1 k t.f2 (t.f2.length : Int) 0) (chkL t.f2) := by
        refine Ev.fold (L := fun (c : Unit) i k => trustquorumref02_check.l1 k t.f2 (t.f2.length : Int) i) (by omega) (fun pre ys c => chkL ys = chkL t.f2) ?_ ?_ () rfl
        · intro c i hI hi
          rw [chkL] at hI
          (refine Ev.shift ?_; simp only [trustquorumref02_check.l1, hi, Option.bind_some, ↓reduceIte, Bool.false_eq_true, reduceCtorEq, decide_eq_true_eq, Go.Proofs.YtkjlcbfjllpcnaaW.PrintWords.rd, rd_T32, rd_T34])
          rw [← hI]
          exact Ev.now _
        · intro pre y ys c i e hI hi h0 hlt hw hrd
          rw [chkL] at hI
          have hy := ref_level_ev n y (by have := wt_mem (show y ∈ t.f2 by rw [e]; simp); omega) (by omega)
          by_cases h4 : chk y = 0
          · refine Or.inl ⟨(), by rw [← hI, if_pos h4], fun k => ?_⟩
            (refine Ev.shift ?_; simp only [trustquorumref02_check.l1, h0, hlt, hw, hrd, Option.bind_some, ↓reduceIte, Bool.false_eq_true, reduceCtorEq, decide_eq_true_eq, Go.Proofs.YtkjlcbfjllpcnaaW.PrintWords.rd, rd_T32, rd_T34])
            refine Ev.bind1 hy ?_
            simp only [h4, if_true]
            exact k
          · refine Or.inr ?_
            rw [← hI, if_neg h4]
            (refine Ev.shift ?_; simp only [trustquorumref02_check.l1, h0, hlt, hw, hrd, Option.bind_some, ↓reduceIte, Bool.false_eq_true, reduceCtorEq, decide_eq_true_eq, Go.Proofs.YtkjlcbfjllpcnaaW.PrintWords.rd, rd_T32, rd_T34])
            refine Ev.bind1 hy ?_
            simp only [h4, if_false]
            exact Ev.now _
    generalize hT : (if (t.f1.any noNode) = true then 5 else if (ofS 0 t.f1).2 = 0 then chkL t.f2 else (ofS 0 t.f1).2) = T
    refine Ev.fold (L := fun (c : Unit) i k => trustquorumref02_check.l0 k t.f1 (t.f1.length : Int) i t.f0 t.f1 t.f2) (by omega) (fun pre ys c => (if (ys.any noNode) = true then 5 else if (ofS 0 t.f1).2 = 0 then chkL t.f2 else (ofS 0 t.f1).2) = T) ?_ ?_ () hT
    · intro c i hI hi
      simp only [List.any_nil, Bool.false_eq_true, if_false] at hI
      (refine Ev.shift ?_; simp only [trustquorumref02_check.l0, hi, Option.bind_some, ↓reduceIte, Bool.false_eq_true, reduceCtorEq, decide_eq_true_eq, Go.Proofs.YtkjlcbfjllpcnaaW.PrintWords.rd, rd_T32, rd_T34])
      refine Ev.bind1 (ref_Of_ev t.f1 (by omega)) ?_
      rw [← hI]
      by_cases h3 : (ofS 0 t.f1).2 = 0
      · simp only [h3, if_true]
        exact l1
      · simp only [h3, if_false]
        exact Ev.now _
    · intro pre y ys c i e hI hi h0 hlt hw hrd
      rw [List.any_cons] at hI
      cases hn : noNode y
      · have hb := noNode_not hn
        have h3 : ¬ y < 0 := by omega
        have h4 : ¬ y ≥ 10 := by omega
        refine Or.inl ⟨(), by simpa [hn] using hI, fun k => ?_⟩
        (refine Ev.shift ?_; simp only [trustquorumref02_check.l0, h0, hlt, hw, hrd, h3, h4, Option.bind_some, ↓reduceIte, Bool.false_eq_true, reduceCtorEq, decide_eq_true_eq, Go.Proofs.YtkjlcbfjllpcnaaW.PrintWords.rd, rd_T32, rd_T34])
        exact k
      · refine Or.inr ?_
        simp only [hn, Bool.true_or, if_true] at hI
        rw [← hI]
        by_cases h3 : y < 0
        · (refine Ev.shift ?_; simp only [trustquorumref02_check.l0, h0, hlt, hw, hrd, h3, Option.bind_some, ↓reduceIte, Bool.false_eq_true, reduceCtorEq, decide_eq_true_eq, Go.Proofs.YtkjlcbfjllpcnaaW.PrintWords.rd, rd_T32, rd_T34])
          exact Ev.now _
        · have h4 : y ≥ 10 := by simp [noNode] at hn; omega
          (refine Ev.shift ?_; simp only [trustquorumref02_check.l0, h0, hlt, hw, hrd, h3, h4, Option.bind_some, ↓reduceIte, Bool.false_eq_true, reduceCtorEq, decide_eq_true_eq, Go.Proofs.YtkjlcbfjllpcnaaW.PrintWords.rd, rd_T32, rd_T34])
          exact Ev.now _
theorem ref_Valid_ev (t : S32) (h : wt t < 1000000) : Ev (fun k => trustquorumref02_Valid.f k t.f0 t.f1 t.f2) (validT t) := by
  simp only [trustquorumref02_Valid.f, validT, Option.bind_some, ↓reduceIte, Bool.false_eq_true, reduceCtorEq, decide_eq_true_eq, Go.Proofs.YtkjlcbfjllpcnaaW.PrintWords.rd, rd_T32, rd_T34]
  refine Ev.bind1 (ref_Depth_ev 1000000 t h (by decide)) ?_
  by_cases h1 : dep t > 4
  · have : (dep t : Int) > 4 := by omega
    simp only [h1, this, Option.bind_some, ↓reduceIte, Bool.false_eq_true, reduceCtorEq, decide_eq_true_eq, Go.Proofs.YtkjlcbfjllpcnaaW.PrintWords.rd, rd_T32, rd_T34]
    exact Ev.now _
  have h2 : ¬ (dep t : Int) > 4 := by omega
  simp only [h1, h2, Option.bind_some, ↓reduceIte, Bool.false_eq_true, reduceCtorEq, decide_eq_true_eq, Go.Proofs.YtkjlcbfjllpcnaaW.PrintWords.rd, rd_T32, rd_T34]
  refine Ev.bind1 (ref_Size_ev 1000000 t h (by decide)) ?_
  by_cases h3 : siz t > 200
  · have : (siz t : Int) > 200 := by omega
    simp only [h3, this, Option.bind_some, ↓reduceIte, Bool.false_eq_true, reduceCtorEq, decide_eq_true_eq, Go.Proofs.YtkjlcbfjllpcnaaW.PrintWords.rd, rd_T32, rd_T34]
    exact Ev.now _
  have h4 : ¬ (siz t : Int) > 200 := by omega
  simp only [h3, h4, Option.bind_some, ↓reduceIte, Bool.false_eq_true, reduceCtorEq, decide_eq_true_eq, Go.Proofs.YtkjlcbfjllpcnaaW.PrintWords.rd, rd_T32, rd_T34]
  refine Ev.bind1 (ref_level_ev 1000000 t h (by decide)) ?_
  exact Ev.now _
def EvP {α : Type} (g : Nat → Option α) (P : α → Prop) : Prop := ∃ r, P r ∧ Ev g r
theorem EvP.now {α : Type} {P : α → Prop} {r : α} (h : P r) : EvP (fun _ => some r) P := ⟨r, h, Ev.now r⟩
theorem EvP.shift {α : Type} {g : Nat → Option α} {P : α → Prop} (h : EvP (fun k => g (k + 1)) P) : EvP g P := by
  obtain ⟨r, h1, h2⟩ := h
  exact ⟨r, h1, Ev.shift h2⟩
theorem EvP.bind {α β : Type} {g : Nat → Option α} {f : Nat → α → Option β} {P : α → Prop} {Q : β → Prop} (h : EvP g P) (k : ∀ a, P a → EvP (fun n => f n a) Q) : EvP (fun n => (g n).bind (f n)) Q := by
  obtain ⟨a, h1, h2⟩ := h
  obtain ⟨r, k1, k2⟩ := k a h1
  exact ⟨r, k1, Ev.bind h2 k2⟩
theorem EvP.imp {α : Type} {g : Nat → Option α} {P Q : α → Prop} (h : EvP g P) (k : ∀ a, P a → Q a) : EvP g Q := by
  obtain ⟨r, h1, h2⟩ := h
  exact ⟨r, k r h1, h2⟩
theorem EvP.ofEv {α : Type} {g : Nat → Option α} {r : α} (h : Ev g r) : EvP g (fun x => x = r) := ⟨r, rfl, h⟩
theorem EvP.loop {σ ρ : Type} {L : σ → Nat → Option ρ} {Q : ρ → Prop} (I : σ → Prop) (m : σ → Nat)
    (hstep : ∀ c, I c → (∀ c', I c' → m c' < m c → EvP (L c') Q) → EvP (L c) Q) (c0 : σ) (h0 : I c0) : EvP (L c0) Q := by
  have key : ∀ n c, m c < n → I c → EvP (L c) Q := by
    intro n
    induction n with
    | zero => intro c h; exact absurd h (by omega)
    | succ n ih => intro c h hc; exact hstep c hc fun c' h' hm => ih c' (by omega) h'
  exact key (m c0 + 1) c0 (by omega) h0
theorem tN {s : List Int} (hs : s.length < 4611686018427387904) {s1 a : Int} (h1 : 0 ≤ s1) (ha : 0 < a) (ha2 : a < 4611686018427387904) :
    EvP (fun _ => trustquorummake_Tape_N.f s s1 a) (fun r => (0 ≤ r.1 ∧ r.1 < a) ∧ 0 ≤ r.2) := by
  unfold trustquorummake_Tape_N.f
  by_cases h : s1 ≥ (s.length : Int)
  · simp only [h, if_true]
    exact EvP.now ⟨⟨by simp, by simpa using ha⟩, h1⟩
  have h2 : s1 < (s.length : Int) := by omega
  have h3 : ¬ a = 0 := by omega
  have hb1 := Int.tmod_lt_of_pos (rd s s1) ha
  have hb2 : - a < Int.tmod (rd s s1) a := by
    have := Int.lt_tmod_of_pos (rd s s1) ha
    omega
  simp only [h, if_false, h1, if_true, h2, h3]
  by_cases h4 : Int.tmod (rd s s1) a < 0
  · simp only [h4, if_true]
    refine EvP.now ?_
    show (0 ≤ wrap64 _ ∧ wrap64 _ < a) ∧ 0 ≤ wrap64 _
    rw [w64 (by omega) (by omega), w64 (by omega) (by omega)]
    omega
  · simp only [h4, if_false]
    refine EvP.now ?_
    show (0 ≤ Int.tmod (rd s s1) a ∧ Int.tmod (rd s s1) a < a) ∧ 0 ≤ wrap64 _
    rw [w64 (by omega) (by omega)]
    omega
theorem tRange {s : List Int} (hs : s.length < 4611686018427387904) {s1 a b : Int} (h1 : 0 ≤ s1) (ha : 0 ≤ a) (hb : a ≤ b) (hb2 : b < 4611686018427387) :
    EvP (fun _ => trustquorummake_Tape_Range.f s s1 a b) (fun r => (a ≤ r.1 ∧ r.1 ≤ b) ∧ 0 ≤ r.2) := by
  unfold trustquorummake_Tape_Range.f
  rw [w64 (n := b - a) (by omega) (by omega), w64 (by omega) (by omega)]
  refine EvP.bind (tN hs h1 (by omega) (by omega)) ?_
  rintro ⟨v, s'⟩ ⟨⟨h2, h3⟩, h4⟩
  refine EvP.now ?_
  show (a ≤ wrap64 _ ∧ wrap64 _ ≤ b) ∧ 0 ≤ s'
  simp only at h2 h3 h4 ⊢
  rw [w64 (by omega) (by omega)]
  omega
theorem tPick {s : List Int} (hs : s.length < 4611686018427387904) {s1 : Int} {l : List Int} (h1 : 0 ≤ s1) (ha : 0 < l.length) (hl : l.length < 4611686018427387904) :
    EvP (fun _ => trustquorummake_Tape_Pick.f s s1 l) (fun r => r.1 ∈ l ∧ 0 ≤ r.2) := by
  unfold trustquorummake_Tape_Pick.f
  refine EvP.bind (tN hs h1 (by omega) (by omega)) ?_
  rintro ⟨v, s'⟩ ⟨⟨h2, h3⟩, h4⟩
  simp only at h2 h3 h4 ⊢
  simp only [h2, h3, if_true]
  refine EvP.now ⟨?_, h4⟩
  simp only [rd]
  have h5 : v.toNat < l.length := by omega
  rw [List.getD_eq_getElem?_getD, List.getElem?_eq_getElem h5]
  exact List.getElem_mem h5
theorem tOrder {s : List Int} (hs : s.length < 4611686018427387904) {s1 : Int} {n : Nat} (h1 : 0 ≤ s1) (hn : n ≤ 1000) :
    EvP (fun k => trustquorummake_Tape_Order.f k s s1 (n : Int)) (fun r => (r.1.length = n ∧ ∀ x ∈ r.1, 0 ≤ x ∧ x < (n : Int)) ∧ 0 ≤ r.2) := by
  simp only [trustquorummake_Tape_Order.f]
  have l1 : ∀ (l : List Int) (i : Int) (s1 : Int), 0 ≤ s1 → l.length = n → (∀ x ∈ l, 0 ≤ x ∧ x < (n : Int)) → i < n →
      EvP (fun k => trustquorummake_Tape_Order.l1 k l i s s1) (fun r => (r.1.length = n ∧ ∀ x ∈ r.1, 0 ≤ x ∧ x < (n : Int)) ∧ 0 ≤ r.2) := by
    intro l i s1 h1 hl hx hi
    refine EvP.loop (L := fun (c : List Int × Int × Int) k => trustquorummake_Tape_Order.l1 k c.1 c.2.1 s c.2.2) (fun c => 0 ≤ c.2.2 ∧ c.1.length = n ∧ (∀ x ∈ c.1, 0 ≤ x ∧ x < (n : Int)) ∧ c.2.1 < n) (fun c => c.2.1.toNat) ?_ (l, i, s1) ⟨h1, hl, hx, hi⟩
    rintro ⟨l, i, s1⟩ ⟨h1, hl, hx, hi⟩ ih
    simp only at h1 hl hx hi ih ⊢
    by_cases h0 : i > 0
    · have e1 : wrap64 (i + 1) = i + 1 := w64 (by omega) (by omega)
      have e2 : wrap64 (i - 1) = i - 1 := w64 (by omega) (by omega)
      have h3 : 0 ≤ i := by omega
      have h4 : i < (l.length : Int) := by omega
      (refine EvP.shift ?_; simp only [trustquorummake_Tape_Order.l1, h0, e1, e2, h3, h4, Option.bind_some, ↓reduceIte, Bool.false_eq_true, reduceCtorEq, decide_eq_true_eq, Go.Proofs.YtkjlcbfjllpcnaaW.PrintWords.rd, rd_T32, rd_T34])
      refine EvP.bind (tN hs h1 (by omega) (by omega)) ?_
      rintro ⟨v, s'⟩ ⟨⟨h5, h6⟩, h7⟩
      simp only at h5 h6 h7 ⊢
      have h8 : v < (l.length : Int) := by omega
      simp only [h5, h8, if_true]
      have hm : ∀ j : Nat, j < l.length → l.getD j 0 ∈ l := fun j hj => by
        rw [List.getD_eq_getElem?_getD, List.getElem?_eq_getElem hj]; exact List.getElem_mem hj
      refine ih (_, i - 1, s') ⟨h7, by simpa using hl, ?_, by show i - 1 < n; omega⟩ (by show (i - 1).toNat < i.toNat; omega)
      intro x hx'
      rcases List.mem_or_eq_of_mem_set hx' with h | h
      · rcases List.mem_or_eq_of_mem_set h with h | h
        · exact hx x h
        · rw [h]; exact hx _ (hm _ (by omega))
      · rw [h]; exact hx _ (hm _ (by omega))
    · (refine EvP.shift ?_; simp only [trustquorummake_Tape_Order.l1, h0, Option.bind_some, ↓reduceIte, Bool.false_eq_true, reduceCtorEq, decide_eq_true_eq, Go.Proofs.YtkjlcbfjllpcnaaW.PrintWords.rd, rd_T32, rd_T34])
      exact EvP.now ⟨⟨hl, hx⟩, h1⟩
  refine EvP.loop (L := fun (c : List Int × Int) k => trustquorummake_Tape_Order.l0 k (n : Int) c.1 c.2 s s1) (fun c => c.2 = (c.1.length : Int) ∧ c.2 ≤ n ∧ (∀ x ∈ c.1, 0 ≤ x ∧ x < (n : Int))) (fun c => n - c.1.length) ?_ ([], 0) ⟨rfl, by show (0 : Int) ≤ n; omega, by simp⟩
  rintro ⟨l, i⟩ ⟨h2, h3, hx⟩ ih
  simp only at h2 h3 hx ih ⊢
  by_cases h0 : i < (n : Int)
  · have e1 : wrap64 (i + 1) = i + 1 := w64 (by omega) (by omega)
    have h4 : l.length < 17592186044416 := by omega
    (refine EvP.shift ?_; simp only [trustquorummake_Tape_Order.l0, h0, e1, h4, Option.bind_some, ↓reduceIte, Bool.false_eq_true, reduceCtorEq, decide_eq_true_eq, Go.Proofs.YtkjlcbfjllpcnaaW.PrintWords.rd, rd_T32, rd_T34])
    refine ih (l ++ [i], i + 1) ⟨by simp; omega, by show i + 1 ≤ n; omega, ?_⟩ (by simp; omega)
    intro x hx'
    rcases List.mem_append.1 hx' with h | h
    · exact hx x h
    · rw [List.mem_singleton.1 h]; omega
  · (refine EvP.shift ?_; simp only [trustquorummake_Tape_Order.l0, h0, Option.bind_some, ↓reduceIte, Bool.false_eq_true, reduceCtorEq, decide_eq_true_eq, Go.Proofs.YtkjlcbfjllpcnaaW.PrintWords.rd, rd_T32, rd_T34])
    exact l1 l _ s1 h1 (by omega) hx (by rw [w64 (by omega) (by omega)]; omega)
def foldU (l : List Int) (a : Nat) : Nat := l.foldl (fun a x => if noNode x = true then a else a ||| 2 ^ x.toNat) a
theorem foldU_lt {n : Nat} (hn : n ≤ 10) : ∀ (l : List Int) (a : Nat), a < 2 ^ n → (∀ x ∈ l, 0 ≤ x ∧ x < (n : Int)) → foldU l a < 2 ^ n := by
  intro l
  induction l with
  | nil => intro a h _; exact h
  | cons x xs ih =>
    intro a h hx
    have h1 := hx x (by simp)
    show foldU xs (if noNode x = true then a else a ||| 2 ^ x.toNat) < 2 ^ n
    refine ih _ ?_ fun y hy => hx y (by simp [hy])
    split
    · exact h
    · exact or_lt h (Nat.pow_lt_pow_right (by decide) (by omega))
theorem useL_lt2 {n : Nat} : ∀ (l : List S32), (∀ t ∈ l, uses t < 2 ^ n) → useL l < 2 ^ n
  | [], _ => by rw [useL]; exact Nat.two_pow_pos n
  | t :: ts, h => by rw [useL]; exact or_lt (h t (by simp)) (useL_lt2 ts fun y hy => h y (by simp [hy]))
theorem wtL_le {b : Nat} : ∀ (l : List S32), (∀ t ∈ l, wt t ≤ b) → wtL l ≤ l.length * b
  | [], _ => by rw [wtL]; omega
  | t :: ts, h => by
    rw [wtL, List.length_cons, Nat.add_mul]
    have := h t (by simp)
    have := wtL_le ts fun y hy => h y (by simp [hy])
    omega
def In (n b : Nat) (t : S32) : Prop := wt t ≤ b ∧ uses t < 2 ^ n
theorem In_mk {n b : Nat} (hn : n ≤ 10) {v : Int} {l : List Int} {ts : List S32} (h2 : ∀ x ∈ l, 0 ≤ x ∧ x < (n : Int)) (h4 : ∀ t ∈ ts, In n b t) (B : Nat) (hB : 1 + l.length + ts.length * b ≤ B) : In n B ⟨v, l, ts⟩ := by
  constructor
  · rw [wt_eq]
    have := wtL_le ts fun t ht => (h4 t ht).1
    simp only
    omega
  · rw [uses_eq]
    exact or_lt (foldU_lt hn l 0 (Nat.two_pow_pos n) h2) (useL_lt2 ts fun t ht => (h4 t ht).2)
abbrev toT (r : Int × List Int × List S32 × Int) : S32 := ⟨r.1, r.2.1, r.2.2.1⟩
theorem trust_row {s : List Int} (hs : s.length < 4611686018427387904) {n b : Nat} (hn : n ≤ 10) (hn1 : 1 ≤ n) (hb : b ≤ 100) (a2 : Int) (h2 : a2 ≤ 10)
    (hrec : a2 > 1 → ∀ s1, 0 ≤ s1 → EvP (fun k => trustquorummake_trust.f k s s1 (n : Int) (wrap64 (a2 - 1))) (fun r => In n b (toT r) ∧ 0 ≤ r.2.2.2)) {s1 : Int} (h1 : 0 ≤ s1) :
    EvP (fun k => trustquorummake_trust.f k s s1 (n : Int) a2) (fun r => In n (6 + 3 * b) (toT r) ∧ 0 ≤ r.2.2.2) := by
  have fin : ∀ (v : Int) (l : List Int) (ts : List S32), l.length ≤ 5 → (∀ x ∈ l, 0 ≤ x ∧ x < (n : Int)) → ts.length ≤ 3 → (∀ t ∈ ts, In n b t) → In n (6 + 3 * b) ⟨v, l, ts⟩ := by
    intro v l ts h1 h2 h3 h4
    refine In_mk hn h2 h4 _ ?_
    have : ts.length * b ≤ 3 * b := Nat.mul_le_mul_right b h3
    omega
  have fine : ∀ (v : Int) (l : List Int) (ts : List S32) (s2 : Int), l.length ≤ 5 → (∀ x ∈ l, 0 ≤ x ∧ x < (n : Int)) → ts.length ≤ 3 → (∀ t ∈ ts, In n b t) → 0 ≤ s2 → EvP (fun _ => some (v, l, ts, s2)) (fun r => In n (6 + 3 * b) (toT r) ∧ 0 ≤ r.2.2.2) :=
    fun v l ts s2 h1 h2 h3 h4 h5 => EvP.now ⟨fin v l ts h1 h2 h3 h4, h5⟩
  clear fin
  generalize 6 + 3 * b = B at fine ⊢
  have L1 : ∀ (l : List Int), 1 ≤ l.length → l.length ≤ 5 → (∀ x ∈ l, 0 ≤ x ∧ x < (n : Int)) → a2 > 1 → ∀ (m : Nat), m ≤ 3 → ∀ (s1 : Int), 0 ≤ s1 →
      EvP (fun k => trustquorummake_trust.l1 k (n : Int) a2 (m : Int) s s1 0 l ([] : List S32)) (fun r => In n B (toT r) ∧ 0 ≤ r.2.2.2) := by
    intro l hl0 hl hx ha m hm s1 h1
    refine EvP.loop (L := fun (c : Nat × Int × List S32) k => trustquorummake_trust.l1 k (n : Int) a2 (c.1 : Int) s c.2.1 0 l c.2.2) (fun c => 0 ≤ c.2.1 ∧ c.1 + c.2.2.length ≤ 3 ∧ ∀ t ∈ c.2.2, In n b t) (fun c => c.1) ?_ (m, s1, []) ⟨h1, by simp; omega, by simp⟩
    rintro ⟨m, s1, ts⟩ ⟨h1, h3, h4⟩ ih
    simp only at h1 h3 h4 ih ⊢
    by_cases h0 : (m : Int) > 0
    · have e1 : wrap64 ((m : Int) - 1) = ((m - 1 : Nat) : Int) := by rw [w64 (by omega) (by omega)]; omega
      have h6 : ts.length < 2513169434916 := by omega
      (refine EvP.shift ?_; simp only [trustquorummake_trust.l1, h0, e1, h6, Option.bind_some, ↓reduceIte, Bool.false_eq_true, reduceCtorEq, decide_eq_true_eq, Go.Proofs.YtkjlcbfjllpcnaaW.PrintWords.rd, rd_T32, rd_T34])
      refine EvP.bind (hrec ha s1 h1) ?_
      rintro ⟨v, l', ts', s'⟩ ⟨h7, h8⟩
      refine ih (m - 1, s', ts ++ [⟨v, l', ts'⟩]) ⟨h8, by simp; omega, ?_⟩ (by show m - 1 < m; omega)
      intro t ht
      rcases List.mem_append.1 ht with h | h
      · exact h4 t h
      · rw [List.mem_singleton.1 h]; exact h7
    · clear ih
      have ew : wrap64 ((l.length : Int) + (ts.length : Int)) = (l.length : Int) + (ts.length : Int) := w64 (by omega) (by omega)
      by_cases h5 : (ts.length : Int) > 0
      · (refine EvP.shift ?_; simp only [trustquorummake_trust.l1, h0, h5, ew, Option.bind_some, ↓reduceIte, Bool.false_eq_true, reduceCtorEq, decide_eq_true_eq, Go.Proofs.YtkjlcbfjllpcnaaW.PrintWords.rd, rd_T32, rd_T34])
        clear ew
        refine EvP.bind (tN hs h1 (by omega) (by omega)) ?_
        rintro ⟨v, s'⟩ ⟨⟨h6, h7⟩, h8⟩
        simp only at h6 h7 h8 ⊢
        split
        · rw [show wrap64 ((([] : List Int).length : Int) + (ts.length : Int)) = (ts.length : Int) by rw [List.length_nil, w64 (by omega) (by omega)]; omega]
          refine EvP.bind (tRange hs h8 (by omega) (by omega) (by omega)) ?_
          rintro ⟨v2, s2⟩ ⟨h9, h10⟩
          exact fine v2 [] ts s2 (by simp) (by simp) (by omega) h4 h10
        · refine EvP.bind (tRange hs h8 (by omega) (by omega) (by omega)) ?_
          rintro ⟨v2, s2⟩ ⟨h9, h10⟩
          exact fine v2 l ts s2 hl hx (by omega) h4 h10
      · (refine EvP.shift ?_; simp only [trustquorummake_trust.l1, h0, h5, ew, Option.bind_some, ↓reduceIte, Bool.false_eq_true, reduceCtorEq, decide_eq_true_eq, Go.Proofs.YtkjlcbfjllpcnaaW.PrintWords.rd, rd_T32, rd_T34])
        clear ew
        refine EvP.bind (tRange hs h1 (by omega) (by omega) (by omega)) ?_
        rintro ⟨v2, s2⟩ ⟨h9, h10⟩
        exact fine v2 l ts s2 hl hx (by omega) h4 h10
  have mnv : mn (n : Int) 5 ≤ n ∧ 1 ≤ mn (n : Int) 5 ∧ mn (n : Int) 5 ≤ 5 := by unfold mn; split <;> omega
  (refine EvP.shift ?_; simp only [trustquorummake_trust.f, Option.bind_some, ↓reduceIte, Bool.false_eq_true, reduceCtorEq, decide_eq_true_eq, Go.Proofs.YtkjlcbfjllpcnaaW.PrintWords.rd, rd_T32, rd_T34])
  refine EvP.bind (tOrder hs h1 (by omega)) ?_
  rintro ⟨o, s2⟩ ⟨⟨ho, hox⟩, h2'⟩
  simp only at ho hox h2' ⊢
  refine EvP.bind (tRange hs h2' (by omega) mnv.2.1 (by omega)) ?_
  rintro ⟨q, s3⟩ ⟨⟨hq1, hq2⟩, h3'⟩
  simp only at hq1 hq2 h3' ⊢
  have hq3 : 0 ≤ q := by omega
  have hq4 : q ≤ (o.length : Int) := by omega
  simp only [hq3, hq4, if_true, Option.bind_some]
  generalize hy : o.take q.toNat = y
  have hyl : y.length = q.toNat := by rw [← hy, List.length_take]; omega
  have hyx : ∀ x ∈ y, 0 ≤ x ∧ x < (n : Int) := fun x hx => hox x (by rw [← hy] at hx; exact List.mem_of_mem_take hx)
  refine EvP.loop (L := fun (c : List Int × Int) k => trustquorummake_trust.l0 k (n : Int) a2 y (y.length : Int) c.2 s s3 0 c.1) (fun c => c.2 = (c.1.length : Int) ∧ c.1.length ≤ y.length ∧ (∀ x ∈ c.1, 0 ≤ x ∧ x < (n : Int))) (fun c => y.length - c.1.length) ?_ ([], 0) ⟨rfl, by simp, by simp⟩
  rintro ⟨l, i⟩ ⟨h3, h4, hx⟩ ih
  simp only at h3 h4 hx ih ⊢
  by_cases h0 : i < (y.length : Int)
  · have e1 : wrap64 (i + 1) = i + 1 := w64 (by omega) (by omega)
    have h6 : l.length < 17592186044416 := by omega
    have h7 : 0 ≤ i := by omega
    (refine EvP.shift ?_; simp only [trustquorummake_trust.l0, h0, e1, h6, h7, Option.bind_some, ↓reduceIte, Bool.false_eq_true, reduceCtorEq, decide_eq_true_eq, Go.Proofs.YtkjlcbfjllpcnaaW.PrintWords.rd, rd_T32, rd_T34])
    refine ih (l ++ [y.getD i.toNat 0], i + 1) ⟨by simp; omega, by simp; omega, ?_⟩ (by simp; omega)
    intro x hx'
    rcases List.mem_append.1 hx' with h | h
    · exact hx x h
    · rw [List.mem_singleton.1 h, List.getD_eq_getElem?_getD, List.getElem?_eq_getElem (show i.toNat < y.length by omega)]
      exact hyx _ (List.getElem_mem _)
  · by_cases ha : a2 > 1
    · (refine EvP.shift ?_; simp only [trustquorummake_trust.l0, h0, ha, Option.bind_some, ↓reduceIte, Bool.false_eq_true, reduceCtorEq, decide_eq_true_eq, Go.Proofs.YtkjlcbfjllpcnaaW.PrintWords.rd, rd_T32, rd_T34])
      refine EvP.bind (tPick hs h3' (by decide) (by decide)) ?_
      rintro ⟨p, s4⟩ ⟨hp, h4'⟩
      simp only at hp h4' ⊢
      have hp2 : 0 ≤ p ∧ p ≤ 3 := by
        simp only [List.mem_cons, List.not_mem_nil, or_false] at hp
        omega
      have := L1 l (by omega) (by omega) hx ha p.toNat (by omega) s4 h4'
      rw [show ((p.toNat : Nat) : Int) = p by omega] at this
      exact this
    · (refine EvP.shift ?_; simp only [trustquorummake_trust.l0, h0, ha, Option.bind_some, ↓reduceIte, Bool.false_eq_true, reduceCtorEq, decide_eq_true_eq, Go.Proofs.YtkjlcbfjllpcnaaW.PrintWords.rd, rd_T32, rd_T34])
      rw [show wrap64 ((l.length : Int) + (([] : List S32).length : Int)) = (l.length : Int) by rw [List.length_nil, w64 (by omega) (by omega)]; omega]
      refine EvP.bind (tRange hs h3' (by omega) (by omega) (by omega)) ?_
      rintro ⟨v2, s2⟩ ⟨h9, h10⟩
      exact fine v2 l [] s2 (by omega) hx (by simp) (by simp) h10
theorem trust_ev {s : List Int} (hs : s.length < 4611686018427387904) {n : Nat} (hn : n ≤ 10) (hn1 : 1 ≤ n) {s1 : Int} (h1 : 0 ≤ s1) :
    EvP (fun k => trustquorummake_trust.f k s s1 (n : Int) 2) (fun r => In n 24 (toT r) ∧ 0 ≤ r.2.2.2) :=
  trust_row hs (b := 6) hn hn1 (by decide) 2 (by decide) (fun _ s1 h1 => by
    rw [show wrap64 ((2 : Int) - 1) = 1 from w64 (by decide) (by decide)]
    exact trust_row hs (b := 0) hn hn1 (by decide) 1 (by decide) (fun h => absurd h (by decide)) h1) h1
def Okt (n : Nat) (t : S32) : Prop := validT t = 0 ∧ In n 100 t
theorem one_ok {n : Nat} {v : Int} (h0 : 0 ≤ v) (h1 : v < (n : Int)) (hn : n ≤ 10) : Okt n ⟨1, [v], []⟩ := by
  constructor
  · have hv : noNode v = false := by simp [noNode]; omega
    have : (ofS 0 [v]).2 = 0 := by
      rw [ofS, hv, ofS]; simp [inS]
    simp [validT, dep, siz, depL, sizL, chk, chkL, hv, this]
  · exact In_mk hn (b := 0) (by simp; omega) (by simp) _ (by simp)
theorem Trust_ev {s : List Int} (hs : s.length < 4611686018427387904) {n : Nat} (hn : n ≤ 10) (hn1 : 1 ≤ n) {s1 : Int} (h1 : 0 ≤ s1) :
    EvP (fun k => trustquorummake_Trust.f k s s1 (n : Int) 2) (fun r => Okt n (toT r) ∧ 0 ≤ r.2.2.2) := by
  simp only [trustquorummake_Trust.f]
  refine EvP.bind (trust_ev hs hn hn1 h1) ?_
  rintro ⟨v, l, ts, s'⟩ ⟨h2, h3⟩
  simp only at h2 h3 ⊢
  refine EvP.bind (EvP.ofEv (ref_Valid_ev (toT (v, l, ts, s')) (by have := h2.1; omega))) ?_
  rintro r rfl
  by_cases h : validT (toT (v, l, ts, s')) = 0
  · simp only [h, if_true]
    exact EvP.now ⟨⟨h, Nat.le_trans h2.1 (by decide), h2.2⟩, h3⟩
  · simp only [h, if_false]
    refine EvP.bind (tN hs h3 (by omega) (by omega)) ?_
    rintro ⟨v, s'⟩ ⟨⟨h2, h3⟩, h4⟩
    exact EvP.now ⟨one_ok h2 h3 hn, h4⟩
theorem ofS_snoc (l : List Int) (x : Int) : ∀ a, (ofS a l).2 = 0 → ofS a (l ++ [x]) = if noNode x = true then (0, 5) else if inS (ofS a l).1 x = true then (0, 6) else ((ofS a l).1 ||| 2 ^ x.toNat, 0) := by
  induction l with
  | nil => intro a _; rw [List.nil_append, ofS, ofS, ofS]
  | cons y ys ih =>
    intro a h
    rw [List.cons_append, ofS]
    rw [ofS] at h ⊢
    split at h
    · cases h
    · split at h
      · cases h
      · rename_i h1 h2
        simp only [h1, h2, if_false]
        exact ih _ h
def Asc (n : Nat) (l : List Int) : Prop := l.length ≤ n ∧ (ofS 0 l).2 = 0 ∧ (ofS 0 l).1 < 2 ^ n ∧ ∀ x ∈ l, 0 ≤ x ∧ x < (n : Int)
theorem Asc_nil (n : Nat) : Asc n [] := ⟨by simp, rfl, Nat.two_pow_pos n, by simp⟩
theorem Asc_snoc {n m : Nat} {l : List Int} (h : Asc n l) (hm : m ≤ 10) (hnm : n < m) : Asc m (l ++ [(n : Int)]) := by
  obtain ⟨h1, h2, h3, h4⟩ := h
  have hv : noNode (n : Int) = false := by simp [noNode]; omega
  have hi : inS (ofS 0 l).1 (n : Int) = false := by rw [inS_nat _ _ (by omega)]; exact bit_lt h3 (Nat.le_refl _)
  have e := ofS_snoc l (n : Int) 0 h2
  rw [hv, hi] at e
  simp only [Bool.false_eq_true, if_false] at e
  refine ⟨by simp; omega, by rw [e], ?_, ?_⟩
  · rw [e]
    exact or_lt (Nat.lt_of_lt_of_le h3 (Nat.pow_le_pow_right (by decide) (by omega))) (by rw [Int.toNat_natCast]; exact Nat.pow_lt_pow_right (by decide) hnm)
  · intro x hx
    rcases List.mem_append.1 hx with h | h
    · have := h4 x h; omega
    · rw [List.mem_singleton.1 h]; omega
theorem Asc.mono {n m : Nat} {l : List Int} (h : Asc n l) (hnm : n ≤ m) : Asc m l := by
  obtain ⟨h1, h2, h3, h4⟩ := h
  exact ⟨by omega, h2, Nat.lt_of_lt_of_le h3 (Nat.pow_le_pow_right (by decide) hnm), fun x hx => by have := h4 x hx; omega⟩
theorem Asc.any {n : Nat} {l : List Int} (h : Asc n l) (hn : n ≤ 10) : l.any noNode = false := by
  rw [List.any_eq_false]
  intro x hx
  have := h.2.2.2 x hx
  simp [noNode]; omega
def Flat (n : Nat) (t : S32) : Prop := Asc n t.f1 ∧ t.f2 = [] ∧ 1 ≤ t.f0 ∧ t.f0 ≤ (t.f1.length : Int)
theorem flat_chk {n : Nat} {t : S32} (hn : n ≤ 10) (h : Flat n t) : chk t = 0 := by
  obtain ⟨h1, h2, h3, h4⟩ := h
  rw [chk_eq, h2, h1.any hn, h1.2.1, if_neg (by simp; omega)]
  simp [chkL]
theorem flat_in {n : Nat} {t : S32} (hn : n ≤ 10) (h : Flat n t) : In n 11 t := by
  obtain ⟨h1, h2, h3, h4⟩ := h
  have e : t = ⟨t.f0, t.f1, []⟩ := by cases t; simp only at h2; subst h2; rfl
  rw [e]
  have := h1.1
  exact In_mk hn (b := 0) h1.2.2.2 (by simp) _ (by simp; omega)
theorem flat_ok {n : Nat} {t : S32} (hn : n ≤ 10) (h : Flat n t) : Okt n t := by
  constructor
  · have := h.1.1
    rw [validT, dep_eq, siz_eq, h.2.1, flat_chk hn h, depL, sizL]
    simp; omega
  · have := flat_in hn h
    exact ⟨Nat.le_trans this.1 (by decide), this.2⟩
theorem most_ev {s : List Int} (hs : s.length < 4611686018427387904) {n : Nat} (hn : n ≤ 10) (hn1 : 1 ≤ n) {s1 : Int} (h1 : 0 ≤ s1) :
    EvP (fun k => trustquorummake_most.f k s s1 (n : Int)) (fun r => Okt n (toT r) ∧ 0 ≤ r.2.2.2) := by
  simp only [trustquorummake_most.f]
  have thr : ∀ (l : List Int) (d : Int), 1 ≤ l.length → l.length ≤ 10 → -1 ≤ d ∧ d ≤ 1 → 1 ≤ mn (l.length : Int) (mx 1 (wrap64 ((wrap64 (Int.tdiv (wrap64 ((wrap64 (2 * (l.length : Int))) + 2)) 3)) + d))) ∧ mn (l.length : Int) (mx 1 (wrap64 ((wrap64 (Int.tdiv (wrap64 ((wrap64 (2 * (l.length : Int))) + 2)) 3)) + d))) ≤ (l.length : Int) := by
    intro l d h1 h2 h3
    unfold mn mx
    split <;> split <;> omega
  have pk : ∀ d ∈ ([0, 0, 0, 1, (-1)] : List Int), -1 ≤ d ∧ d ≤ 1 := by decide
  refine EvP.loop (L := fun (c : Nat × Int × List Int) k => trustquorummake_most.l0 k (n : Int) (c.1 : Int) s c.2.1 0 c.2.2) (fun c => 0 ≤ c.2.1 ∧ c.1 ≤ n ∧ Asc c.1 c.2.2) (fun c => n - c.1) ?_ (0, s1, []) ⟨h1, by simp, Asc_nil 0⟩
  rintro ⟨i, s1, l⟩ ⟨h1, h3, h4⟩ ih
  simp only at h1 h3 h4 ih ⊢
  have hl := h4.1
  by_cases h0 : (i : Int) < (n : Int)
  · have e1 : wrap64 ((i : Int) + 1) = ((i + 1 : Nat) : Int) := w64 (by omega) (by omega)
    have h6 : l.length < 17592186044416 := by omega
    (refine EvP.shift ?_; simp only [trustquorummake_most.l0, h0, e1, h6, Option.bind_some, ↓reduceIte, Bool.false_eq_true, reduceCtorEq, decide_eq_true_eq, Go.Proofs.YtkjlcbfjllpcnaaW.PrintWords.rd, rd_T32, rd_T34])
    refine EvP.bind (tN hs h1 (by omega) (by omega)) ?_
    rintro ⟨v, s'⟩ ⟨⟨h7, h8⟩, h9⟩
    simp only at h7 h8 h9 ⊢
    split
    · exact ih (i + 1, s', l ++ [(i : Int)]) ⟨h9, by show i + 1 ≤ n; omega, Asc_snoc h4 (by omega) (by omega)⟩ (by show n - (i + 1) < n - i; omega)
    · exact ih (i + 1, s', l) ⟨h9, by show i + 1 ≤ n; omega, h4.mono (by omega)⟩ (by show n - (i + 1) < n - i; omega)
  · have e : i = n := by omega
    subst e
    by_cases h5 : (l.length : Int) = 0
    · (refine EvP.shift ?_; simp only [trustquorummake_most.l0, h0, h5, Option.bind_some, ↓reduceIte, Bool.false_eq_true, reduceCtorEq, decide_eq_true_eq, Go.Proofs.YtkjlcbfjllpcnaaW.PrintWords.rd, rd_T32, rd_T34])
      refine EvP.bind (tPick hs h1 (by decide) (by decide)) ?_
      rintro ⟨d, s'⟩ ⟨h7, h8⟩
      simp only at h7 h8 ⊢
      have ht := thr [0] d (by decide) (by decide) (pk d h7)
      refine EvP.now ⟨flat_ok hn ⟨?_, rfl, ht.1, ht.2⟩, h8⟩
      exact (Asc_snoc (Asc_nil 0) (by decide) (show 0 < 1 by decide)).mono hn1
    · (refine EvP.shift ?_; simp only [trustquorummake_most.l0, h0, h5, Option.bind_some, ↓reduceIte, Bool.false_eq_true, reduceCtorEq, decide_eq_true_eq, Go.Proofs.YtkjlcbfjllpcnaaW.PrintWords.rd, rd_T32, rd_T34])
      refine EvP.bind (tPick hs h1 (by decide) (by decide)) ?_
      rintro ⟨d, s'⟩ ⟨h7, h8⟩
      simp only at h7 h8 ⊢
      have ht := thr l d (by omega) (by omega) (pk d h7)
      exact EvP.now ⟨flat_ok hn ⟨h4, rfl, ht.1, ht.2⟩, h8⟩
theorem depL_flat {n : Nat} : ∀ (l : List S32), (∀ t ∈ l, Flat n t) → depL l ≤ 1
  | [], _ => by rw [depL]; omega
  | t :: ts, h => by
    rw [depL, dep_eq, (h t (by simp)).2.1, depL]
    have := depL_flat ts fun y hy => h y (by simp [hy])
    omega
theorem sizL_flat {n : Nat} : ∀ (l : List S32), (∀ t ∈ l, Flat n t) → sizL l ≤ l.length * n
  | [], _ => by rw [sizL]; omega
  | t :: ts, h => by
    have := sizL_flat ts fun y hy => h y (by simp [hy])
    have h1 := (h t (by simp)).1.1
    rw [sizL, siz_eq, (h t (by simp)).2.1, List.length_cons, Nat.add_mul, sizL, List.length_nil]
    omega
theorem chkL_flat {n : Nat} (hn : n ≤ 10) : ∀ (l : List S32), (∀ t ∈ l, Flat n t) → chkL l = 0
  | [], _ => by rw [chkL]
  | t :: ts, h => by rw [chkL, if_pos (flat_chk hn (h t (by simp)))]; exact chkL_flat hn ts fun y hy => h y (by simp [hy])
theorem group_ok {n : Nat} (hn : n ≤ 10) {v : Int} {ts : List S32} (h1 : 1 ≤ v) (h2 : v ≤ (ts.length : Int)) (h3 : ts.length ≤ 3) (h4 : ∀ t ∈ ts, Flat n t) : Okt n ⟨v, [], ts⟩ := by
  constructor
  · have hd := depL_flat ts h4
    have hs := sizL_flat ts h4
    have : ts.length * n ≤ 3 * 10 := Nat.mul_le_mul h3 hn
    rw [validT, dep_eq, siz_eq, chk_eq]
    simp only [List.length_nil, List.any_nil, ofS, chkL_flat hn ts h4]
    rw [if_neg (by omega), if_neg (by omega), if_neg (by omega)]
    simp
  · refine In_mk hn (b := 11) (by simp) (fun t ht => flat_in hn (h4 t ht)) _ ?_
    have : ts.length * 11 ≤ 3 * 11 := Nat.mul_le_mul_right 11 h3
    simp only [List.length_nil]; omega
theorem getD_mem' {α : Type} {l : List α} {i : Nat} (d : α) (h : i < l.length) : l.getD i d ∈ l := by
  rw [List.getD_eq_getElem?_getD, List.getElem?_eq_getElem h]; exact List.getElem_mem h
theorem group_ev {s : List Int} (hs : s.length < 4611686018427387904) {n : Nat} (hn : n ≤ 10) (hn1 : 1 ≤ n) {s1 : Int} (h1 : 0 ≤ s1) (i : Nat) (hi : i < 1000) :
    EvP (fun k => trustquorummake_group.f k s s1 (n : Int) (i : Int)) (fun r => Okt n (toT r) ∧ 0 ≤ r.2.2.2) := by
  simp only [trustquorummake_group.f]
  refine EvP.loop (L := fun (c : Nat × Int × List S32) k => trustquorummake_group.l0 k (n : Int) (i : Int) c.2.2 (c.1 : Int) s c.2.1) (fun c => 0 ≤ c.2.1 ∧ c.1 ≤ 3 ∧ c.2.2.length ≤ c.1 ∧ (1 ≤ c.1 → 1 ≤ c.2.2.length) ∧ ∀ t ∈ c.2.2, Flat n t) (fun c => 3 - c.1) ?_ (0, s1, []) ⟨h1, by simp, by simp, by simp, by simp⟩
  clear h1 s1
  rintro ⟨g, s1, ts⟩ ⟨h1, h2, h3, h4, h5⟩ ih
  simp only at h1 h2 h3 h4 h5 ih ⊢
  by_cases h0 : (g : Int) < 3
  · (refine EvP.shift ?_; simp only [trustquorummake_group.l0, h0, Option.bind_some, ↓reduceIte, Bool.false_eq_true, reduceCtorEq, decide_eq_true_eq, Go.Proofs.YtkjlcbfjllpcnaaW.PrintWords.rd, rd_T32, rd_T34])
    refine EvP.loop (L := fun (c : Nat × List Int) k => trustquorummake_group.l1 k (n : Int) (i : Int) ts (g : Int) (c.1 : Int) s s1 1 c.2) (fun c => Asc (min c.1 n) c.2 ∧ (c.1 = g ∧ c.2 = [] ∨ 1 ≤ c.2.length) ∧ (c.1 = g ∨ g + 3 ≤ c.1) ∧ c.1 ≤ 100) (fun c => n - c.1) ?_ (g, []) ⟨(Asc_nil 0).mono (by omega), Or.inl ⟨rfl, rfl⟩, Or.inl rfl, by show g ≤ 100; omega⟩
    rintro ⟨j, l⟩ ⟨h6, h7, h8, h9⟩ ih2
    simp only at h6 h7 h8 h9 ih2 ⊢
    have hl := h6.1
    by_cases hj : (j : Int) < (n : Int)
    · have e1 : wrap64 ((j : Int) + 3) = ((j + 3 : Nat) : Int) := w64 (by omega) (by omega)
      have h10 : l.length < 17592186044416 := by omega
      (refine EvP.shift ?_; simp only [trustquorummake_group.l1, hj, e1, h10, Option.bind_some, ↓reduceIte, Bool.false_eq_true, reduceCtorEq, decide_eq_true_eq, Go.Proofs.YtkjlcbfjllpcnaaW.PrintWords.rd, rd_T32, rd_T34])
      clear e1
      refine ih2 (j + 3, l ++ [(j : Int)]) ⟨?_, Or.inr (by simp), Or.inr (by show g + 3 ≤ j + 3; omega), by show j + 3 ≤ 100; omega⟩ (by show n - (j + 3) < n - j; omega)
      rw [show min j n = j by omega] at h6
      exact (Asc_snoc h6 (m := j + 1) (by omega) (by omega)).mono (by show j + 1 ≤ min (j + 3) n; omega)
    · rw [show min j n = n by omega] at h6 hl
      have ew : wrap64 ((g : Int) + 1) = ((g + 1 : Nat) : Int) := w64 (by omega) (by omega)
      by_cases h10 : (l.length : Int) > 0
      · have h11 : ts.length < 2513169434916 := by omega
        (refine EvP.shift ?_; simp only [trustquorummake_group.l1, hj, h10, ew, h11, Option.bind_some, ↓reduceIte, Bool.false_eq_true, reduceCtorEq, decide_eq_true_eq, Go.Proofs.YtkjlcbfjllpcnaaW.PrintWords.rd, rd_T32, rd_T34])
        clear ew
        refine EvP.bind (tRange hs h1 (by omega) (by omega) (by omega)) ?_
        rintro ⟨v, s'⟩ ⟨⟨h12, h13⟩, h14⟩
        simp only at h12 h13 h14 ⊢
        refine ih (g + 1, s', ts ++ [⟨v, l, []⟩]) ⟨h14, by show g + 1 ≤ 3; omega, by simp; omega, by simp, ?_⟩ (by show 3 - (g + 1) < 3 - g; omega)
        intro t ht
        rcases List.mem_append.1 ht with h | h
        · exact h5 t h
        · rw [List.mem_singleton.1 h]; exact ⟨h6, rfl, h12, h13⟩
      · (refine EvP.shift ?_; simp only [trustquorummake_group.l1, hj, h10, ew, Option.bind_some, ↓reduceIte, Bool.false_eq_true, reduceCtorEq, decide_eq_true_eq, Go.Proofs.YtkjlcbfjllpcnaaW.PrintWords.rd, rd_T32, rd_T34])
        clear ew
        refine ih (g + 1, s1, ts) ⟨h1, by show g + 1 ≤ 3; omega, by show ts.length ≤ g + 1; omega, fun _ => ?_, h5⟩ (by show 3 - (g + 1) < 3 - g; omega)
        show 1 ≤ ts.length
        by_cases hg : 1 ≤ g
        · exact h4 hg
        · exfalso; omega
  · (refine EvP.shift ?_; simp only [trustquorummake_group.l0, h0, Option.bind_some, ↓reduceIte, Bool.false_eq_true, reduceCtorEq, decide_eq_true_eq, Go.Proofs.YtkjlcbfjllpcnaaW.PrintWords.rd, rd_T32, rd_T34])
    refine EvP.bind (tN hs h1 (by omega) (by omega)) ?_
    rintro ⟨v, s'⟩ ⟨⟨h6, h7⟩, h8⟩
    simp only at h6 h7 h8 ⊢
    have h9 : 1 ≤ ts.length := h4 (by omega)
    split
    · have h10 : ¬ (ts.length : Int) = 0 := by omega
      have h11 : 0 ≤ Int.tmod (i : Int) (ts.length : Int) := Int.tmod_nonneg _ (by omega)
      have h12 : Int.tmod (i : Int) (ts.length : Int) < (ts.length : Int) := Int.tmod_lt_of_pos _ (by omega)
      simp only [h10, if_false, h11, if_true, h12]
      have hf := flat_ok hn (h5 _ (getD_mem' (l := ts) z32 (show (Int.tmod (i : Int) (ts.length : Int)).toNat < ts.length by omega)))
      generalize ts.getD (Int.tmod (i : Int) (ts.length : Int)).toNat z32 = t at hf ⊢
      cases t
      exact EvP.now ⟨hf, h8⟩
    · have ew : wrap64 ((ts.length : Int) - 1) = (ts.length : Int) - 1 := w64 (by omega) (by omega)
      rw [ew]
      clear ew
      have hm : 1 ≤ mx 1 ((ts.length : Int) - 1) ∧ mx 1 ((ts.length : Int) - 1) ≤ (ts.length : Int) := by unfold mx; split <;> omega
      refine EvP.bind (tRange hs h8 (by omega) (by omega) (by omega)) ?_
      rintro ⟨v, s'⟩ ⟨⟨h12, h13⟩, h14⟩
      simp only at h12 h13 h14 ⊢
      exact EvP.now ⟨group_ok hn (show 1 ≤ v by omega) h13 (show ts.length ≤ 3 by omega) h5, h14⟩
def OkM (n : Nat) (m : S34) : Prop := if m.f0 = true then Okt n m.f1 else m.f1 = ⟨0, [], []⟩
def OkC (c : List S34) : Prop := 1 ≤ c.length ∧ c.length ≤ 10 ∧ ∀ m ∈ c, OkM c.length m
theorem Config_ev {s : List Int} (hs : s.length < 4611686018427387904) {a : Int} (ha : 1 ≤ a) (ha2 : a ≤ 10) {s1 : Int} (h1 : 0 ≤ s1) :
    EvP (fun k => trustquorummake_Config.f k s s1 a) (fun r => (OkC r.1 ∧ (r.1.length : Int) ≤ a) ∧ 0 ≤ r.2) := by
  simp only [trustquorummake_Config.f]
  refine EvP.bind (tRange hs h1 (by omega) ha (by omega)) ?_
  rintro ⟨N, s2⟩ ⟨⟨h2, h3⟩, h4⟩
  simp only at h2 h3 h4 ⊢
  refine EvP.bind (tN hs h4 (by omega) (by omega)) ?_
  rintro ⟨g, s3⟩ ⟨⟨h5, h6⟩, h7⟩
  simp only at h5 h6 h7 ⊢
  obtain ⟨n, rfl⟩ := Int.eq_ofNat_of_zero_le (show 0 ≤ N by omega)
  have hn : n ≤ 10 := by omega
  have hn1 : 1 ≤ n := by omega
  clear h1 h4
  refine EvP.loop (L := fun (c : Nat × Int × List S34) k => trustquorummake_Config.l0 k (n : Int) g (c.1 : Int) s c.2.1 c.2.2) (fun c => 0 ≤ c.2.1 ∧ c.1 ≤ n ∧ c.2.2.length = c.1 ∧ ∀ m ∈ c.2.2, OkM n m) (fun c => n - c.1) ?_ (0, s3, []) ⟨h7, by simp, by simp, by simp⟩
  rintro ⟨i, s1, c⟩ ⟨h1, h8, h9, h10⟩ ih
  simp only at h1 h8 h9 h10 ih ⊢
  by_cases h0 : (i : Int) < (n : Int)
  · have h11 : c.length < 2199023255552 := by omega
    have nxt : ∀ (m : S34) (s' : Int), 0 ≤ s' → OkM n m → EvP (fun k => trustquorummake_Config.l0 k (n : Int) g ((i + 1 : Nat) : Int) s s' (c ++ [m])) (fun r => (OkC r.1 ∧ (r.1.length : Int) ≤ a) ∧ 0 ≤ r.2) := by
      intro m s' hs' hm
      refine ih (i + 1, s', c ++ [m]) ⟨hs', by show i + 1 ≤ n; omega, by simp; omega, ?_⟩ (by show n - (i + 1) < n - i; omega)
      intro x hx
      rcases List.mem_append.1 hx with h | h
      · exact h10 x h
      · rw [List.mem_singleton.1 h]; exact hm
    have e1 : wrap64 ((i : Int) + 1) = ((i + 1 : Nat) : Int) := w64 (by omega) (by omega)
    by_cases c1 : g = 0
    · (refine EvP.shift ?_; simp only [trustquorummake_Config.l0, h0, e1, h11, c1, Option.bind_some, ↓reduceIte, Bool.false_eq_true, reduceCtorEq, decide_eq_true_eq, Go.Proofs.YtkjlcbfjllpcnaaW.PrintWords.rd, rd_T32, rd_T34])
      rw [c1] at nxt
      clear e1
      refine EvP.bind (Trust_ev hs hn hn1 h1) ?_
      rintro ⟨v, l, ts, s'⟩ ⟨h12, h13⟩
      simp only at h12 h13 ⊢
      refine EvP.bind (tN hs h13 (by omega) (by omega)) ?_
      rintro ⟨v2, s2⟩ ⟨_, h14⟩
      simp only at h14 ⊢
      split
      · exact nxt ⟨false, ⟨0, [], []⟩⟩ s2 h14 rfl
      · exact nxt ⟨true, ⟨v, l, ts⟩⟩ s2 h14 h12
    by_cases c2 : g = 1
    · have c3 : ¬ (1 : Int) = 0 := by decide
      (refine EvP.shift ?_; simp only [trustquorummake_Config.l0, h0, e1, h11, c2, c3, Option.bind_some, ↓reduceIte, Bool.false_eq_true, reduceCtorEq, decide_eq_true_eq, Go.Proofs.YtkjlcbfjllpcnaaW.PrintWords.rd, rd_T32, rd_T34])
      rw [c2] at nxt
      clear e1
      refine EvP.bind (most_ev hs hn hn1 h1) ?_
      rintro ⟨v, l, ts, s'⟩ ⟨h12, h13⟩
      simp only at h12 h13 ⊢
      refine EvP.bind (tN hs h13 (by omega) (by omega)) ?_
      rintro ⟨v2, s2⟩ ⟨_, h14⟩
      simp only at h14 ⊢
      split
      · exact nxt ⟨false, ⟨0, [], []⟩⟩ s2 h14 rfl
      · exact nxt ⟨true, ⟨v, l, ts⟩⟩ s2 h14 h12
    · (refine EvP.shift ?_; simp only [trustquorummake_Config.l0, h0, e1, h11, c1, c2, Option.bind_some, ↓reduceIte, Bool.false_eq_true, reduceCtorEq, decide_eq_true_eq, Go.Proofs.YtkjlcbfjllpcnaaW.PrintWords.rd, rd_T32, rd_T34])
      clear e1
      refine EvP.bind (group_ev hs hn hn1 h1 i (by omega)) ?_
      rintro ⟨v, l, ts, s'⟩ ⟨h12, h13⟩
      simp only at h12 h13 ⊢
      refine EvP.bind (tN hs h13 (by omega) (by omega)) ?_
      rintro ⟨v2, s2⟩ ⟨_, h14⟩
      simp only at h14 ⊢
      split
      · exact nxt ⟨false, ⟨0, [], []⟩⟩ s2 h14 rfl
      · exact nxt ⟨true, ⟨v, l, ts⟩⟩ s2 h14 h12
  · (refine EvP.shift ?_; simp only [trustquorummake_Config.l0, h0, Option.bind_some, ↓reduceIte, Bool.false_eq_true, reduceCtorEq, decide_eq_true_eq, Go.Proofs.YtkjlcbfjllpcnaaW.PrintWords.rd, rd_T32, rd_T34])
    have e : c.length = n := by omega
    refine EvP.now ⟨⟨⟨?_, ?_, ?_⟩, ?_⟩, h1⟩
    · show 1 ≤ c.length; omega
    · show c.length ≤ 10; omega
    · show ∀ m ∈ c, OkM c.length m
      rw [e]; exact h10
    · show (c.length : Int) ≤ a; omega
theorem New_ev (l0 : List Int) (h : l0.length < 4611686018427387904) : ∃ s, s.length < 4611686018427387904 ∧ trustquorummake_New.f l0 = some (s, 0) := by
  unfold trustquorummake_New.f
  have h1 : 0 ≤ mn (l0.length : Int) 400 := by unfold mn; split <;> omega
  have h2 : mn (l0.length : Int) 400 ≤ (l0.length : Int) := by unfold mn; split <;> omega
  rw [if_pos h1, if_pos h2]
  refine ⟨_, ?_, rfl⟩
  rw [List.length_take]
  omega
theorem inS_mono {s t : Nat} (h : Sub s t) {x : Int} (hx : inS s x = true) : inS t x = true := by
  simp only [inS, Bool.and_eq_true] at hx ⊢
  exact ⟨hx.1, h _ hx.2⟩
mutual
theorem sat_mono {s t : Nat} (h : Sub s t) : ∀ x : S32, sat s x = true → sat t x = true
  | ⟨n, l, ts⟩ => by
    rw [sat, sat, decide_eq_true_eq, decide_eq_true_eq]
    intro hx
    have h1 : l.countP (fun x => inS s x) ≤ l.countP (fun x => inS t x) := List.countP_mono_left fun x _ hx => inS_mono h hx
    have h2 := satC_mono h ts
    omega
theorem satC_mono {s t : Nat} (h : Sub s t) : ∀ l : List S32, satC s l ≤ satC t l
  | [] => by rw [satC, satC]; exact Nat.le_refl _
  | x :: xs => by
    rw [satC, satC]
    have h1 := satC_mono h xs
    have h2 := sat_mono h x
    cases hs : sat s x
    · simp; omega
    · rw [h2 hs]; simp; omega
end
def declF (i a : Nat) : List S34 → Nat
  | [] => a
  | m :: ms => declF (i + 1) (if m.f0 = true ∧ i < 10 then a ||| 2 ^ i else a) ms
def decl (c : List S34) : Nat := declF 0 0 c
theorem declF_bit : ∀ (ms : List S34) (i a j : Nat), (declF i a ms).testBit j = (a.testBit j || (decide (i ≤ j) && decide (j < 10) && (ms.getD (j - i) z34).f0)) := by
  intro ms
  induction ms with
  | nil => intro i a j; simp [declF, z34]
  | cons m ms ih =>
    intro i a j
    rw [declF, ih]
    by_cases h : j = i
    · subst h
      have e : decide (j + 1 ≤ j) = false := by simp
      have e2 : decide (j ≤ j) = true := by simp
      rw [e, e2, Nat.sub_self]
      by_cases h2 : j < 10 <;> cases hm : m.f0 <;> simp [h2, hm]
    · have e : (if m.f0 = true ∧ i < 10 then a ||| 2 ^ i else a).testBit j = a.testBit j := by
        split
        · rw [or_bit, two_bit]; simp; intro h2; omega
        · rfl
      rw [e]
      by_cases h2 : i ≤ j
      · obtain ⟨d, rfl⟩ : ∃ d, j = i + 1 + d := ⟨j - (i + 1), by omega⟩
        have h3 : i + 1 + d - i = d + 1 := by omega
        have h4 : i + 1 + d - (i + 1) = d := by omega
        rw [h3, h4, List.getD_cons_succ]
        simp [h2]
      · have h3 : ¬ i + 1 ≤ j := by omega
        simp [h2, h3]
theorem decl_bit (c : List S34) (j : Nat) : (decl c).testBit j = (decide (j < 10) && (c.getD j z34).f0) := by
  rw [decl, declF_bit]; simp
theorem decl_lt (c : List S34) : decl c < 1024 := lt_of_bits (n := 10) fun i hi => by rw [decl_bit]; simp; omega
theorem decl_len {c : List S34} {j : Nat} (h : (decl c).testBit j = true) : j < c.length := by
  rw [decl_bit] at h
  by_cases hj : j < c.length
  · exact hj
  · rw [List.getD_eq_getElem?_getD, List.getElem?_eq_none (by omega)] at h
    simp [z34] at h
def nodesL (s : Nat) : List Int := ((List.range 10).filter fun i => s.testBit i).map Int.ofNat
theorem nodesL_mem {s : Nat} {x : Int} : x ∈ nodesL s ↔ inS s x = true := by
  simp only [nodesL, List.mem_map, List.mem_filter, List.mem_range, inS, Bool.and_eq_true, decide_eq_true_eq]
  constructor
  · rintro ⟨i, ⟨h1, h2⟩, rfl⟩
    exact ⟨⟨by simp, by simp; omega⟩, by simpa using h2⟩
  · rintro ⟨⟨h1, h2⟩, h3⟩
    exact ⟨x.toNat, ⟨by omega, h3⟩, by simp; omega⟩
theorem nodesL_len (s : Nat) : (nodesL s).length ≤ 10 := by
  rw [nodesL, List.length_map]
  have := List.length_filter_le (fun i => s.testBit i) (List.range 10)
  simpa using this
def Light (c : List S34) : Prop := c.length < 1000000 ∧ ∀ m ∈ c, wt m.f1 < 1000000
theorem OkC.light {c : List S34} (h : OkC c) : Light c := by
  refine ⟨by have := h.2.1; omega, fun m hm => ?_⟩
  have := h.2.2 m hm
  unfold OkM at this
  split at this
  · have := this.2.1; omega
  · rw [this]; decide
theorem Light.at {c : List S34} (h : Light c) (j : Nat) : wt (c.getD j z34).f1 < 1000000 := by
  by_cases hj : j < c.length
  · exact h.2 _ (getD_mem' z34 hj)
  · rw [List.getD_eq_getElem?_getD, List.getElem?_eq_none (by omega)]; decide
def blk (c : List S34) (s : Nat) (j : Int) : Bool := inS (decl c) j && !(sat (dif 1023 s ||| 2 ^ j.toNat) (c.getD j.toNat z34).f1)
theorem inS_iff {s : Nat} {x : Int} : inS s x = true ↔ ∃ i : Nat, x = (i : Int) ∧ i < 10 ∧ s.testBit i = true := by
  simp only [inS, Bool.and_eq_true, decide_eq_true_eq]
  constructor
  · rintro ⟨⟨h1, h2⟩, h3⟩
    exact ⟨x.toNat, by omega, by omega, h3⟩
  · rintro ⟨i, rfl, h1, h2⟩
    exact ⟨⟨by omega, by omega⟩, by simpa using h2⟩
theorem and_nat' {a b : Nat} (ha : a < 1024) (hb : b < 1024) : Go.bits .and .i64 (a : Int) (b : Int) = ((a &&& b : Nat) : Int) := and_nat (by omega) (by omega)
theorem or_nat' {a b : Nat} (ha : a < 1024) (hb : b < 1024) : Go.bits .or .i64 (a : Int) (b : Int) = ((a ||| b : Nat) : Int) := or_nat (by omega) (by omega)
theorem shl_nat' {k : Nat} (h : k < 10) : shl .i64 1 (k : Int) = ((2 ^ k : Nat) : Int) := shl_nat (by omega)
theorem Declared_ev {c : List S34} (hc : c.length < 1000000) : Ev (fun k => configuration_Declared.f k c) (decl c : Int) := by
  simp only [configuration_Declared.f]
  refine Ev.fold (xs := c) (L := fun (a : Nat) i k => configuration_Declared.l0 k (a : Int) c (c.length : Int) i) (by omega) (fun pre ys a => declF pre.length a ys = decl c ∧ a < 1024) ?_ ?_ 0 ⟨rfl, by decide⟩
  · rintro a i ⟨hI, ha⟩ hi
    rw [declF] at hI
    (refine Ev.shift ?_; simp only [configuration_Declared.l0, hi, Option.bind_some, ↓reduceIte, Bool.false_eq_true, reduceCtorEq, decide_eq_true_eq, Go.Proofs.YtkjlcbfjllpcnaaW.PrintWords.rd, rd_T32, rd_T34])
    rw [hI]
    exact Ev.now _
  · rintro pre y ys a i e ⟨hI, ha⟩ hi h0 hlt hw hrd
    subst hi
    rw [declF] at hI
    by_cases h10 : pre.length < 10
    · have h10' : (pre.length : Int) < 10 := by omega
      have h2 := two_lt10 h10
      cases hy : y.f0
      · refine Or.inl ⟨a, ⟨by simpa [hy] using hI, ha⟩, fun k => ?_⟩
        (refine Ev.shift ?_; simp only [configuration_Declared.l0, h0, hlt, hw, hrd, hy, h10', Option.bind_some, ↓reduceIte, Bool.false_eq_true, reduceCtorEq, decide_eq_true_eq, Go.Proofs.YtkjlcbfjllpcnaaW.PrintWords.rd, rd_T32, rd_T34])
        exact k
      · refine Or.inl ⟨a ||| 2 ^ pre.length, ⟨by simpa [hy, h10] using hI, or_lt10 ha h2⟩, fun k => ?_⟩
        (refine Ev.shift ?_; simp only [configuration_Declared.l0, h0, hlt, hw, hrd, hy, h10', Option.bind_some, ↓reduceIte, Bool.false_eq_true, reduceCtorEq, decide_eq_true_eq, Go.Proofs.YtkjlcbfjllpcnaaW.PrintWords.rd, rd_T32, rd_T34])
        rw [shl_nat' h10, or_nat' ha h2]
        exact k
    · have h10' : ¬ (pre.length : Int) < 10 := by omega
      refine Or.inl ⟨a, ⟨by simpa [h10] using hI, ha⟩, fun k => ?_⟩
      cases hy : y.f0
      · (refine Ev.shift ?_; simp only [configuration_Declared.l0, h0, hlt, hw, hrd, hy, h10', Option.bind_some, ↓reduceIte, Bool.false_eq_true, reduceCtorEq, decide_eq_true_eq, Go.Proofs.YtkjlcbfjllpcnaaW.PrintWords.rd, rd_T32, rd_T34])
        exact k
      · (refine Ev.shift ?_; simp only [configuration_Declared.l0, h0, hlt, hw, hrd, hy, h10', Option.bind_some, ↓reduceIte, Bool.false_eq_true, reduceCtorEq, decide_eq_true_eq, Go.Proofs.YtkjlcbfjllpcnaaW.PrintWords.rd, rd_T32, rd_T34])
        exact k
theorem Blocks_ev {c : List S34} (hc : Light c) {s : Nat} (hs : s < 1024) (j : Int) : Ev (fun k => blocking_Blocks.f k c j (s : Int)) (blk c s j) := by
  simp only [blocking_Blocks.f, Valid_eq, vld_nat hs, Option.bind_some, ↓reduceIte, Bool.false_eq_true, reduceCtorEq, decide_eq_true_eq, Go.Proofs.YtkjlcbfjllpcnaaW.PrintWords.rd, rd_T32, rd_T34]
  refine Ev.bind1 (Declared_ev hc.1) ?_
  simp only [Has_eq (decl_lt c), Option.bind_some, ↓reduceIte, Bool.false_eq_true, reduceCtorEq, decide_eq_true_eq, Go.Proofs.YtkjlcbfjllpcnaaW.PrintWords.rd, rd_T32, rd_T34]
  unfold blk
  cases hd : inS (decl c) j
  · exact Ev.now _
  · obtain ⟨i, rfl, h1, h2⟩ := inS_iff.1 hd
    have h3 := decl_len h2
    have h4 : (0 : Int) ≤ i := by omega
    have h5 : (i : Int) < (c.length : Int) := by omega
    have h6 := two_lt10 h1
    have h7 : dif 1023 s < 1024 := dif_lt (n := 10) (by decide)
    simp only [h4, h5, Int.toNat_natCast, Bool.true_and, Option.bind_some, ↓reduceIte, Bool.false_eq_true, reduceCtorEq, decide_eq_true_eq, Go.Proofs.YtkjlcbfjllpcnaaW.PrintWords.rd, rd_T32, rd_T34]
    rw [show Go.bits .andNot .i64 1023 (s : Int) = ((dif 1023 s : Nat) : Int) from andNot_nat (a := 1023) (by decide) (by omega), shl_nat' h1, or_nat' h7 h6]
    refine Ev.bind1 (Sat_ev (or_lt10 h7 h6) 1000000 _ (hc.at i) (by decide)) ?_
    exact Ev.now _
def nxt (c : List S34) (s : Nat) : Option Int := (nodesL (dif (decl c) s)).find? fun j => blk c s j
theorem Sub.or {a b c : Nat} (h : Sub a c) (k : Sub b c) : Sub (a ||| b) c := fun i hi => by
  rw [or_bit, Bool.or_eq_true] at hi
  exact hi.elim (h i) (k i)
theorem Sub.orl (a b : Nat) : Sub a (a ||| b) := fun i hi => by rw [or_bit, hi]; rfl
theorem Sub.two {i s : Nat} (h : s.testBit i = true) : Sub (2 ^ i) s := fun j hj => by
  rw [two_bit, decide_eq_true_eq] at hj; subst hj; exact h
theorem pcn_lt {s i : Nat} (hi : i < 10) (h : s.testBit i = false) : pcn s < pcn (s ||| 2 ^ i) := by
  unfold pcn
  have key : ∀ n, (List.range n).countP (fun k => s.testBit k) + (if i < n then 1 else 0) ≤ (List.range n).countP fun k => (s ||| 2 ^ i).testBit k := by
    intro n
    induction n with
    | zero => simp
    | succ n ih =>
      rw [List.range_succ, List.countP_append, List.countP_append, List.countP_singleton, List.countP_singleton, or_bit, two_bit]
      generalize (List.range n).countP (fun k => (s ||| 2 ^ i).testBit k) = B at ih ⊢
      generalize (List.range n).countP (fun k => s.testBit k) = A at ih ⊢
      by_cases e : i = n
      · subst e
        rw [h, if_neg (Nat.lt_irrefl i)] at *
        simp
        omega
      · by_cases hin : i < n
        · rw [if_pos hin] at ih
          rw [if_pos (show i < n + 1 by omega)]
          cases hb : s.testBit n <;> simp [e] <;> omega
        · rw [if_neg hin] at ih
          rw [if_neg (show ¬ i < n + 1 by omega)]
          cases hb : s.testBit n <;> simp [e] <;> omega
  have := key 10
  rw [if_pos hi] at this
  omega
theorem ref_Nodes_ev {s : Nat} (hs : s < 1024) : Ev (fun k => trustquorumref01_Nodes.f k (s : Int)) (nodesL s) := by
  simp only [trustquorumref01_Nodes.f]
  refine Ev.count (L := fun (l : List Int) i k => trustquorumref01_Nodes.l0 k (s : Int) l i) 10 (by decide) (fun i l => l = ((List.range i).filter fun i => s.testBit i).map Int.ofNat) ?_ ?_ [] rfl
  · rintro l rfl
    have h : ¬ ((10 : Nat) : Int) < 10 := by decide
    (refine Ev.shift ?_; simp only [trustquorumref01_Nodes.l0, h, Option.bind_some, ↓reduceIte, Bool.false_eq_true, reduceCtorEq, decide_eq_true_eq, Go.Proofs.YtkjlcbfjllpcnaaW.PrintWords.rd, rd_T32, rd_T34])
    exact Ev.now _
  · rintro i l hi hl hw
    have h : (i : Int) < 10 := by omega
    have hlen : l.length < 17592186044416 := by
      rw [hl, List.length_map]
      have := List.length_filter_le (fun i => s.testBit i) (List.range i)
      simp at this ⊢; omega
    cases hb : s.testBit i
    · refine Or.inl ⟨l, ?_, fun k => ?_⟩
      · rw [hl, List.range_succ, List.filter_append]; simp [hb]
      · (refine Ev.shift ?_; simp only [trustquorumref01_Nodes.l0, h, ref01_Has_eq hs, inS_nat s i (by omega), hb, hw, Option.bind_some, ↓reduceIte, Bool.false_eq_true, reduceCtorEq, decide_eq_true_eq, Go.Proofs.YtkjlcbfjllpcnaaW.PrintWords.rd, rd_T32, rd_T34])
        exact k
    · refine Or.inl ⟨l ++ [(i : Int)], ?_, fun k => ?_⟩
      · rw [hl, List.range_succ, List.filter_append]; simp [hb]
      · (refine Ev.shift ?_; simp only [trustquorumref01_Nodes.l0, h, ref01_Has_eq hs, inS_nat s i (by omega), hb, hw, hlen, Option.bind_some, ↓reduceIte, Bool.false_eq_true, reduceCtorEq, decide_eq_true_eq, Go.Proofs.YtkjlcbfjllpcnaaW.PrintWords.rd, rd_T32, rd_T34])
        exact k
end Go.Proofs.Ytkjlcbfjllpcnaa.X
namespace Go.Proofs.Ytkjlcbfjllpcnaa.X
open Go.RowKit Go.Lib Go.Sort Go.Proofs.YtkjlcbfjllpcnaaW.PrintWords Go.Proofs.YtkjlcbfjllpcnaaW.PrintLast Go.Proofs.YtkjlcbfjllpcnaaW.PrintMore
set_option linter.unusedVariables false
def leS (x y : Int) : Prop := ¬ ltS y x
instance (x y : Int) : Decidable (leS x y) := inferInstanceAs (Decidable (¬ (_ ∨ _)))
theorem leS_antisymm {x y : Int} (h : leS x y) (k : leS y x) : x = y := by unfold leS ltS at *; omega
theorem sortS_perm (l : List Int) : (sortS l).Perm l := List.mergeSort_perm _ _
theorem sortS_sorted (l : List Int) : (sortS l).Pairwise leS := by
  have := List.pairwise_mergeSort (le := fun x y => !(ltOf cmpS) y x) (by
    intro a b c h1 h2
    rw [Bool.not_eq_true', ltOf_not] at *
    unfold ltS at *; omega) (by
    intro a b
    rw [Bool.or_eq_true, Bool.not_eq_true', Bool.not_eq_true', ltOf_not, ltOf_not]
    unfold ltS; omega) l
  refine this.imp ?_
  intro a b h
  rw [Bool.not_eq_true', ltOf_not] at h
  exact h
theorem sortS_eq {l l' : List Int} (h : l.Perm l') (hs : l'.Pairwise leS) : sortS l = l' :=
  List.Perm.eq_of_pairwise (le := leS) (fun a b _ _ h k => leS_antisymm h k) (sortS_sorted l) hs ((sortS_perm l).trans h)
theorem sub_nat {a b : Nat} (ha : a < 1024) (hb : b < 1024) : sub (a : Int) (b : Int) = true ↔ Sub a b := by
  unfold sub
  rw [andNot_nat (by omega) (by omega), beq_iff_eq, ← sub_dif]
  omega
theorem subsetsS_mem {s : Nat} (hs : s < 1024) {x : Int} : x ∈ subsetsS (s : Int) ↔ ∃ t : Nat, x = (t : Int) ∧ Sub t s := by
  rw [subsetsS, vld_nat hs, if_pos rfl, (sortS_perm _).mem_iff, subsBelow, List.mem_filter, List.mem_map]
  constructor
  · rintro ⟨⟨t, h1, rfl⟩, h2⟩
    rw [List.mem_range] at h1
    exact ⟨t, rfl, (sub_nat (by simp at h1; omega) hs).1 h2⟩
  · rintro ⟨t, rfl, h⟩
    have ht : t ≤ s := by
      have : t &&& s = t := sub_and.2 h
      rw [← this]; exact Nat.and_le_right
    exact ⟨⟨t, by rw [List.mem_range]; simp; omega, rfl⟩, (sub_nat (by omega) hs).2 h⟩
theorem subsetsS_len {s : Nat} (hs : s < 1024) : (subsetsS (s : Int)).length ≤ 1024 := by
  rw [subsetsS, vld_nat hs, if_pos rfl, sortS_length]
  have := subsBelow_le (s : Int) ((s : Int).toNat + 1)
  simp at this ⊢; omega
def memV (n : Nat) (m : S34) : Int := if m.f0 = true then (if validT m.f1 = 0 then (if uses m.f1 < 2 ^ n then 0 else 5) else validT m.f1) else (if m.f1.f0 = 0 ∧ m.f1.f1 = [] ∧ m.f1.f2 = [] then 0 else 1)
def valF (n : Nat) : List S34 → Int
  | [] => 0
  | m :: ms => if memV n m = 0 then valF n ms else memV n m
def valC (c : List S34) : Int := if c.length > 10 then 3 else valF c.length c
theorem member_ev {n : Nat} (hn : n ≤ 10) (m : S34) (hm : wt m.f1 < 1000000) : Ev (fun k => configuration_member.f k m.f0 m.f1.f0 m.f1.f1 m.f1.f2 (n : Int)) (memV n m) := by
  unfold memV
  cases h : m.f0
  · simp only [configuration_member.f, configuration_blank.f, Option.bind_some, ↓reduceIte, Bool.false_eq_true, reduceCtorEq, decide_eq_true_eq, Go.Proofs.YtkjlcbfjllpcnaaW.PrintWords.rd, rd_T32, rd_T34]
    by_cases h1 : m.f1.f0 = 0
    · by_cases h2 : m.f1.f1 = []
      · by_cases h3 : m.f1.f2 = []
        · simp only [h1, h2, h3, and_self, if_true, List.length_nil, Option.bind_some]
          simp only [Int.natCast_zero, beq_self_eq_true, if_true, Int.ofNat_zero, Option.bind_some]
          exact Ev.now _
        · have : ¬ (m.f1.f2.length : Int) = 0 := by
            intro h; exact h3 (List.eq_nil_of_length_eq_zero (by omega))
          have e2 : ((m.f1.f2.length : Int) == 0) = false := by simpa using this
          simp only [h1, h2, h3, and_false, if_true, if_false, List.length_nil, Int.natCast_zero, Int.ofNat_zero, e2, Option.bind_some, Bool.false_eq_true]
          exact Ev.now _
      · have : ¬ (m.f1.f1.length : Int) = 0 := by
          intro h; exact h2 (List.eq_nil_of_length_eq_zero (by omega))
        simp only [h1, h2, this, false_and, and_false, if_true, if_false, Option.bind_some, Bool.false_eq_true]
        exact Ev.now _
    · simp only [h1, false_and, if_false, Option.bind_some, Bool.false_eq_true]
      exact Ev.now _
  · simp only [configuration_member.f, Option.bind_some, ↓reduceIte, Bool.false_eq_true, reduceCtorEq, decide_eq_true_eq, Go.Proofs.YtkjlcbfjllpcnaaW.PrintWords.rd, rd_T32, rd_T34]
    refine Ev.bind1 (Valid_ev m.f1 hm) ?_
    by_cases h1 : validT m.f1 = 0
    · simp only [h1, if_true]
      refine Ev.bind1 (Uses_ev 1000000 m.f1 hm (by decide)) ?_
      have h0 : (0 : Int) ≤ (n : Int) := by omega
      rw [shl_nat (by omega), if_pos h0]
      by_cases h2 : uses m.f1 < 2 ^ n
      · rw [if_pos h2, if_neg (by omega)]; exact Ev.now _
      · rw [if_neg h2, if_pos (by omega)]; exact Ev.now _
    · simp only [h1, if_false]
      exact Ev.now _
theorem CValid_ev {c : List S34} (hc : Light c) : Ev (fun k => configuration_Valid.f k c) (valC c) := by
  have hl := hc.1
  unfold valC
  by_cases h : c.length > 10
  · have h2 : (c.length : Int) > 10 := by omega
    simp only [configuration_Valid.f, h, h2, Option.bind_some, ↓reduceIte, Bool.false_eq_true, reduceCtorEq, decide_eq_true_eq, Go.Proofs.YtkjlcbfjllpcnaaW.PrintWords.rd, rd_T32, rd_T34]
    exact Ev.now _
  · have h2 : ¬ (c.length : Int) > 10 := by omega
    simp only [configuration_Valid.f, h, h2, Option.bind_some, ↓reduceIte, Bool.false_eq_true, reduceCtorEq, decide_eq_true_eq, Go.Proofs.YtkjlcbfjllpcnaaW.PrintWords.rd, rd_T32, rd_T34]
    refine Ev.fold (xs := c) (L := fun (a : Unit) i k => configuration_Valid.l0 k c (c.length : Int) i c) (by omega) (fun pre ys a => valF c.length ys = valF c.length c) ?_ ?_ () rfl
    · intro a i hI hi
      rw [valF] at hI
      (refine Ev.shift ?_; simp only [configuration_Valid.l0, hi, Option.bind_some, ↓reduceIte, Bool.false_eq_true, reduceCtorEq, decide_eq_true_eq, Go.Proofs.YtkjlcbfjllpcnaaW.PrintWords.rd, rd_T32, rd_T34])
      rw [← hI]
      exact Ev.now _
    · intro pre y ys a i e hI hi h0 hlt hw hrd
      rw [valF] at hI
      have hm := member_ev (n := c.length) (by omega) y (hc.2 y (by rw [e]; simp))
      by_cases h4 : memV c.length y = 0
      · rw [if_pos h4] at hI
        refine Or.inl ⟨(), hI, fun k => ?_⟩
        (refine Ev.shift ?_; simp only [configuration_Valid.l0, h0, hlt, hw, hrd, Option.bind_some, ↓reduceIte, Bool.false_eq_true, reduceCtorEq, decide_eq_true_eq, Go.Proofs.YtkjlcbfjllpcnaaW.PrintWords.rd, rd_T32, rd_T34])
        refine Ev.bind1 hm ?_
        rw [h4]
        exact k
      · rw [if_neg h4] at hI
        refine Or.inr ?_
        rw [← hI]
        (refine Ev.shift ?_; simp only [configuration_Valid.l0, h0, hlt, hw, hrd, Option.bind_some, ↓reduceIte, Bool.false_eq_true, reduceCtorEq, decide_eq_true_eq, Go.Proofs.YtkjlcbfjllpcnaaW.PrintWords.rd, rd_T32, rd_T34])
        refine Ev.bind1 hm ?_
        simp only [h4, if_false]
        exact Ev.now _
theorem OkM.memV {n : Nat} {m : S34} (h : OkM n m) : memV n m = 0 := by
  unfold OkM at h
  unfold X.memV
  split at h
  · rename_i h1
    rw [if_pos h1, if_pos h.1, if_pos h.2.2]
  · rename_i h1
    rw [if_neg h1, h]
    simp
theorem valF_ok {n : Nat} : ∀ (l : List S34), (∀ m ∈ l, OkM n m) → valF n l = 0
  | [], _ => by rw [valF]
  | m :: ms, h => by rw [valF, if_pos (h m (by simp)).memV]; exact valF_ok ms fun x hx => h x (by simp [hx])
theorem OkC.valC {c : List S34} (h : OkC c) : valC c = 0 := by
  have := h.2.1
  rw [X.valC, if_neg (by omega)]
  exact valF_ok c h.2.2
def blkL (c : List S34) (j : Int) : List Int := (subsetsS (uses (c.getD j.toNat z34).f1)).filter fun s => blk c s.toNat j
theorem Least_ev {c : List S34} (hc : Light c) (hv : valC c = 0) {j : Nat} (hj : j < c.length) (hd : (c.getD j z34).f0 = true) : Ev (fun k => blocking_Least.f k c (j : Int)) (leastS (blkL c j), 0) := by
  have h1 : ¬ (j : Int) < 0 := by omega
  have h2 : decide ((j : Int) ≥ (c.length : Int)) = false := by simp; omega
  have h3 : (0 : Int) ≤ j := by omega
  have h4 : (j : Int) < (c.length : Int) := by omega
  simp only [blocking_Least.f, Option.bind_some, ↓reduceIte, Bool.false_eq_true, reduceCtorEq, decide_eq_true_eq, Go.Proofs.YtkjlcbfjllpcnaaW.PrintWords.rd, rd_T32, rd_T34]
  refine Ev.bind1 (CValid_ev hc) ?_
  simp only [hv, h1, h2, Option.bind_some, ↓reduceIte, Bool.false_eq_true, reduceCtorEq, decide_eq_true_eq, Go.Proofs.YtkjlcbfjllpcnaaW.PrintWords.rd, rd_T32, rd_T34]
  (refine Ev.shift ?_; simp only [blocking_Least.j0, h3, h4, Int.toNat_natCast, hd, Option.bind_some, ↓reduceIte, Bool.false_eq_true, reduceCtorEq, decide_eq_true_eq, Go.Proofs.YtkjlcbfjllpcnaaW.PrintWords.rd, rd_T32, rd_T34])
  refine Ev.bind1 (Uses_ev 1000000 _ (hc.at j) (by decide)) ?_
  have hu := uses_lt (c.getD j z34).f1
  have hlen := subsetsS_len hu
  simp only [nodeset_Subsets.f, Option.bind_some, ↓reduceIte, Bool.false_eq_true, reduceCtorEq, decide_eq_true_eq, Go.Proofs.YtkjlcbfjllpcnaaW.PrintWords.rd, rd_T32, rd_T34]
  generalize hS : subsetsS (uses (c.getD j z34).f1 : Int) = S at hlen
  have hmem : ∀ x ∈ S, ∃ t : Nat, x = (t : Int) ∧ t < 1024 := by
    intro x hx
    rw [← hS, subsetsS_mem hu] at hx
    obtain ⟨t, rfl, ht⟩ := hx
    exact ⟨t, rfl, lt_of_bits (n := 10) fun i hi => by
      cases h : t.testBit i
      · rfl
      · rw [← ht i h]; exact bit_lt (n := 10) hu hi⟩
  have hb : blkL c j = S.filter fun s => blk c s.toNat j := by rw [blkL, Int.toNat_natCast, hS]
  rw [hb]
  refine Ev.fold (xs := S) (L := fun (a : List Int) i k => blocking_Least.l0 k (j : Int) a S (S.length : Int) i c) (by omega) (fun pre ys a => a ++ ys.filter (fun s => blk c s.toNat j) = S.filter (fun s => blk c s.toNat j) ∧ a.length ≤ pre.length) ?_ ?_ [] ⟨rfl, by simp⟩
  · rintro a i ⟨hI, ha⟩ hi
    rw [List.filter_nil, List.append_nil] at hI
    have : a.length ≤ 1048576 := by omega
    (refine Ev.shift ?_; simp only [blocking_Least.l0, hi, nodeset_Least.f, this, Option.bind_some, ↓reduceIte, Bool.false_eq_true, reduceCtorEq, decide_eq_true_eq, Go.Proofs.YtkjlcbfjllpcnaaW.PrintWords.rd, rd_T32, rd_T34])
    rw [hI]
    exact Ev.now _
  · rintro pre y ys a i e ⟨hI, ha⟩ hi h0 hlt hw hrd
    obtain ⟨t, rfl, ht⟩ := hmem y (by rw [e]; simp)
    have hlp : pre.length < S.length := by omega
    have hal : a.length < 17592186044416 := by omega
    rw [List.filter_cons, Int.toNat_natCast] at hI
    have hbl := Blocks_ev hc ht (j : Int)
    cases h : blk c t j
    · rw [h] at hI
      refine Or.inl ⟨a, ⟨by simpa using hI, by simp; omega⟩, fun k => ?_⟩
      (refine Ev.shift ?_; simp only [blocking_Least.l0, h0, hlt, hw, hrd, Option.bind_some, ↓reduceIte, Bool.false_eq_true, reduceCtorEq, decide_eq_true_eq, Go.Proofs.YtkjlcbfjllpcnaaW.PrintWords.rd, rd_T32, rd_T34])
      refine Ev.bind1 hbl ?_
      rw [h]
      exact k
    · rw [h] at hI
      refine Or.inl ⟨a ++ [(t : Int)], ⟨by simpa using hI, by simp; omega⟩, fun k => ?_⟩
      (refine Ev.shift ?_; simp only [blocking_Least.l0, h0, hlt, hw, hrd, Option.bind_some, ↓reduceIte, Bool.false_eq_true, reduceCtorEq, decide_eq_true_eq, Go.Proofs.YtkjlcbfjllpcnaaW.PrintWords.rd, rd_T32, rd_T34])
      refine Ev.bind1 hbl ?_
      simp only [h, if_true, hal]
      exact k
theorem Ints_ev {xs ys : List Int} (hx : xs.length < 1000000) : Ev (fun k => trustquorummake_Ints.f k xs ys) (decide (xs = ys)) := by
  by_cases hl : xs.length = ys.length
  · have hl2 : (xs.length : Int) = (ys.length : Int) := by omega
    simp only [trustquorummake_Ints.f, Option.bind_some, ↓reduceIte, Bool.false_eq_true, reduceCtorEq, decide_eq_true_eq, Go.Proofs.YtkjlcbfjllpcnaaW.PrintWords.rd, rd_T32, rd_T34]
    simp only [if_pos hl2]
    refine Ev.fold (xs := xs) (L := fun (a : Unit) i k => trustquorummake_Ints.l0 k xs ys (xs.length : Int) i) (by omega) (fun pre zs a => xs.take pre.length = ys.take pre.length) ?_ ?_ () rfl
    · intro a i hI hi
      rw [List.take_of_length_le (Nat.le_refl _), List.take_of_length_le (by omega)] at hI
      (refine Ev.shift ?_; simp only [trustquorummake_Ints.l0, hi, Option.bind_some, ↓reduceIte, Bool.false_eq_true, reduceCtorEq, decide_eq_true_eq, Go.Proofs.YtkjlcbfjllpcnaaW.PrintWords.rd, rd_T32, rd_T34])
      rw [decide_eq_true hI]
      exact Ev.now _
    · intro pre y zs a i e hI hi h0 hlt hw hrd
      subst hi
      have hrd' := hrd
      simp only [Int.toNat_natCast] at hrd'
      have hlt2 : (pre.length : Int) < (ys.length : Int) := by omega
      have hp : pre.length < ys.length := by omega
      have hy : ys.getD pre.length 0 = ys[pre.length] := by rw [List.getD_eq_getElem?_getD, List.getElem?_eq_getElem hp]; rfl
      have hx' : xs.take (pre.length + 1) = xs.take pre.length ++ [y] := by
        have := hrd 0
        rw [Int.toNat_natCast, List.getD_eq_getElem?_getD, List.getElem?_eq_getElem (show pre.length < xs.length by omega)] at this
        rw [List.take_succ_eq_append_getElem (by omega)]
        congr 2
      by_cases h : y = ys.getD pre.length 0
      · refine Or.inl ⟨(), ?_, fun k => ?_⟩
        · rw [List.length_append, List.length_singleton, hx', hI, List.take_succ_eq_append_getElem hp, ← hy, h]
        · (refine Ev.shift ?_; simp only [trustquorummake_Ints.l0, h0, hlt, hw, hlt2, hrd', Int.toNat_natCast, Option.bind_some, ↓reduceIte, Bool.false_eq_true, reduceCtorEq, decide_eq_true_eq, Go.Proofs.YtkjlcbfjllpcnaaW.PrintWords.rd, rd_T32, rd_T34])
          simp only [if_pos h]
          exact k
      · refine Or.inr ?_
        have hne : xs ≠ ys := by
          intro hh
          subst hh
          have := hrd 0
          rw [Int.toNat_natCast] at this
          exact h this.symm
        rw [decide_eq_false hne]
        (refine Ev.shift ?_; simp only [trustquorummake_Ints.l0, h0, hlt, hw, hlt2, hrd', Int.toNat_natCast, Option.bind_some, ↓reduceIte, Bool.false_eq_true, reduceCtorEq, decide_eq_true_eq, Go.Proofs.YtkjlcbfjllpcnaaW.PrintWords.rd, rd_T32, rd_T34])
        simp only [if_neg h]
        exact Ev.now _
  · have hl2 : ¬ (xs.length : Int) = (ys.length : Int) := by omega
    simp only [trustquorummake_Ints.f, hl2, Option.bind_some, ↓reduceIte, Bool.false_eq_true, reduceCtorEq, decide_eq_true_eq, Go.Proofs.YtkjlcbfjllpcnaaW.PrintWords.rd, rd_T32, rd_T34]
    have hne : xs ≠ ys := fun hh => hl (by rw [hh])
    rw [decide_eq_false hne]
    exact Ev.now _
theorem ltS_irrefl (x : Int) : ¬ ltS x x := by unfold ltS; omega
theorem ltS_trans {x y z : Int} (h : ltS x y) (k : ltS y z) : ltS x z := by unfold ltS at *; omega
theorem ltS_tri {x y : Int} (h : ¬ ltS x y) (k : x ≠ y) : ltS y x := by unfold ltS at *; omega
theorem sorted_ext {l m : List Int} (hl : l.Pairwise ltS) (hm : m.Pairwise ltS) (h : ∀ x, x ∈ l ↔ x ∈ m) : l = m := by
  have hne : ∀ {a b : Int}, ltS a b → a ≠ b := fun {a b} h e => ltS_irrefl a (by rw [← e] at h; exact h)
  have hp : l.Perm m := (List.perm_ext_iff_of_nodup (List.Pairwise.imp hne hl) (List.Pairwise.imp hne hm)).2 h
  exact List.Perm.eq_of_pairwise (le := ltS) (fun a b _ _ h k => absurd (ltS_trans h k) (ltS_irrefl a)) hl hm hp
def Mini (l : List Int) (x : Int) : Prop := x ∈ l ∧ vld x = true ∧ ∀ y ∈ l, vld y = true → Sub y.toNat x.toNat → y = x
theorem vld_cast {x : Int} (h : vld x = true) : ∃ n : Nat, x = (n : Int) ∧ n < 1024 := by
  rw [vld_iff] at h
  exact ⟨x.toNat, by omega, by omega⟩
theorem sub_v {x y : Int} (hx : vld x = true) (hy : vld y = true) : sub x y = true ↔ Sub x.toNat y.toNat := by
  obtain ⟨a, rfl, ha⟩ := vld_cast hx
  obtain ⟨b, rfl, hb⟩ := vld_cast hy
  rw [sub_nat ha hb, Int.toNat_natCast, Int.toNat_natCast]
theorem pcn_sub {a b : Nat} (hb : b < 1024) (h : Sub a b) (hne : a ≠ b) : pcn a < pcn b := by
  have hex : ∃ i, i < 10 ∧ b.testBit i = true ∧ a.testBit i = false := by
    apply Classical.byContradiction
    intro hn
    refine hne (Sub.eq h fun i hi => ?_)
    cases ha : a.testBit i
    · refine absurd ⟨i, ?_, hi, ha⟩ hn
      rcases Nat.lt_or_ge i 10 with h | h
      · exact h
      · rw [bit_lt (n := 10) hb h] at hi; cases hi
    · rfl
  obtain ⟨i, h10, hbi, hai⟩ := hex
  refine Nat.lt_of_lt_of_le (pcn_lt h10 hai) ?_
  unfold pcn
  refine List.countP_mono_left fun k _ hk => ?_
  exact (Sub.or h (Sub.two hbi)) k hk
theorem ltS_of_sub {x y : Int} (hx : vld x = true) (hy : vld y = true) (h : Sub x.toNat y.toNat) (hne : x ≠ y) : ltS x y := by
  obtain ⟨a, rfl, ha⟩ := vld_cast hx
  obtain ⟨b, rfl, hb⟩ := vld_cast hy
  rw [Int.toNat_natCast, Int.toNat_natCast] at h
  have := pcn_sub hb h (by omega)
  left
  unfold rank size
  rw [vld_nat ha, vld_nat hb]
  simp only [if_true, Int.toNat_natCast]
  omega
theorem leastFold_spec (l : List Int) (hv : ∀ x ∈ l, vld x = true) (hs : l.Pairwise leS) : (leastFold l).Pairwise ltS ∧ ∀ x, x ∈ leastFold l ↔ Mini l x := by
  have key : ∀ (rest pre out : List Int), l = pre ++ rest → out.Pairwise ltS → (∀ x ∈ out, x ∈ pre ∧ Mini l x) → (∀ x ∈ pre, ∃ t ∈ out, Sub t.toNat x.toNat) →
      (rest.foldl leastStep out).Pairwise ltS ∧ ∀ x, x ∈ rest.foldl leastStep out ↔ Mini l x := by
    intro rest
    induction rest with
    | nil =>
      intro pre out e h1 h2 h3
      rw [List.append_nil] at e
      subst e
      refine ⟨h1, fun x => ⟨fun h => (h2 x h).2, fun h => ?_⟩⟩
      obtain ⟨t, ht, hts⟩ := h3 x h.1
      have := h.2.2 t (h2 t ht).1 (h2 t ht).2.2.1 hts
      rw [← this]; exact ht
    | cons y ys ih =>
      intro pre out e h1 h2 h3
      rw [List.foldl_cons]
      have hy : y ∈ l := by rw [e]; simp
      have hvy := hv y hy
      by_cases ha : (out.any fun t => sub t y) = true
      · rw [leastStep, if_pos ha]
        obtain ⟨t, ht, hts⟩ := List.any_eq_true.1 ha
        refine ih (pre ++ [y]) out (by rw [e]; simp) h1 (fun x hx => ⟨by simp [(h2 x hx).1], (h2 x hx).2⟩) fun x hx => ?_
        rcases List.mem_append.1 hx with h | h
        · exact h3 x h
        · rw [List.mem_singleton.1 h]
          exact ⟨t, ht, (sub_v (h2 t ht).2.2.1 hvy).1 hts⟩
      · rw [leastStep, if_neg ha]
        have hno : ∀ t ∈ out, ¬ Sub t.toNat y.toNat := fun t ht hh => ha (List.any_eq_true.2 ⟨t, ht, (sub_v (h2 t ht).2.2.1 hvy).2 hh⟩)
        have hpy : ∀ x ∈ pre, leS x y := by
          intro x hx
          rw [e, List.pairwise_append] at hs
          exact hs.2.2 x hx y (by simp)
        have hmin : Mini l y := by
          refine ⟨hy, hvy, fun z hz hvz hzy => ?_⟩
          apply Classical.byContradiction
          intro hne
          have hlt := ltS_of_sub hvz hvy hzy hne
          have hzp : z ∈ pre := by
            rw [e] at hz
            rcases List.mem_append.1 hz with h | h
            · exact h
            · rcases List.mem_cons.1 h with h | h
              · exact absurd h hne
              · rw [e, List.pairwise_append, List.pairwise_cons] at hs
                exact absurd hlt (hs.2.1.1 z h)
          obtain ⟨t, ht, hts⟩ := h3 z hzp
          exact hno t ht (hts.trans hzy)
        refine ih (pre ++ [y]) (out ++ [y]) (by rw [e]; simp) ?_ ?_ ?_
        · rw [List.pairwise_append]
          refine ⟨h1, by simp, fun a ha b hb => ?_⟩
          rw [List.mem_singleton.1 hb]
          refine ltS_tri (hpy a (h2 a ha).1) fun hh => ?_
          exact hno a ha (by rw [hh]; exact Sub.refl _)
        · intro x hx
          rcases List.mem_append.1 hx with h | h
          · exact ⟨by simp [(h2 x h).1], (h2 x h).2⟩
          · rw [List.mem_singleton.1 h]; exact ⟨by simp, hmin⟩
        · intro x hx
          rcases List.mem_append.1 hx with h | h
          · obtain ⟨t, ht, hts⟩ := h3 x h
            exact ⟨t, by simp [ht], hts⟩
          · rw [List.mem_singleton.1 h]; exact ⟨y, by simp, Sub.refl _⟩
  exact key l [] [] rfl List.Pairwise.nil (by simp) (by simp)
theorem leastS_spec (l : List Int) : (leastS l).Pairwise ltS ∧ ∀ x, x ∈ leastS l ↔ Mini l x := by
  have hm : ∀ x, x ∈ sortS (l.filter vld) ↔ x ∈ l ∧ vld x = true := fun x => by rw [(sortS_perm _).mem_iff, List.mem_filter]
  have := leastFold_spec (sortS (l.filter vld)) (fun x hx => ((hm x).1 hx).2) (sortS_sorted _)
  refine ⟨this.1, fun x => (this.2 x).trans ?_⟩
  unfold Mini
  rw [hm]
  constructor
  · rintro ⟨⟨h1, h2⟩, h3, h4⟩
    exact ⟨h1, h2, fun y hy hv => h4 y ((hm y).2 ⟨hy, hv⟩) hv⟩
  · rintro ⟨h1, h2, h3⟩
    exact ⟨⟨h1, h2⟩, h2, fun y hy hv => h3 y ((hm y).1 hy).1 hv⟩
theorem refOk_iff {l : List Int} {x : Int} (hx : x ∈ l) : refOk l x = true ↔ Mini l x := by
  unfold refOk Mini
  rw [Bool.and_eq_true, List.all_eq_true]
  constructor
  · rintro ⟨h1, h2⟩
    refine ⟨hx, h1, fun y hy hv hs => ?_⟩
    have := h2 y hy
    obtain ⟨a, rfl, ha⟩ := vld_cast h1
    obtain ⟨b, rfl, hb⟩ := vld_cast hv
    rw [Int.toNat_natCast, Int.toNat_natCast] at hs
    rw [hv, and_nat' hb ha, sub_and.2 hs] at this
    simpa using this
  · rintro ⟨_, h1, h2⟩
    refine ⟨h1, fun y hy => ?_⟩
    cases hv : vld y
    · rfl
    · by_cases hne : y = x
      · simp [hne]
      · have : ¬ Go.bits .and .i64 y x = y := by
          intro hh
          refine hne (h2 y hy hv ?_)
          obtain ⟨a, rfl, ha⟩ := vld_cast h1
          obtain ⟨b, rfl, hb⟩ := vld_cast hv
          rw [and_nat' hb ha] at hh
          rw [Int.toNat_natCast, Int.toNat_natCast]
          exact sub_and.1 (by omega)
        simp [this]
theorem refPos_none (x : Int) : ∀ (l : List Int) (i k : Nat), (∀ y ∈ l, ¬ ltS y x) → refPos x i k l = k
  | [], i, k, _ => by rw [refPos]
  | y :: ys, i, k, h => by
    rw [refPos, if_neg (h y (by simp))]
    exact refPos_none x ys (i + 1) k fun z hz => h z (by simp [hz])
theorem refPos_split (x : Int) (B : List Int) (hB : ∀ y ∈ B, ¬ ltS y x) : ∀ (A : List Int) (i : Nat), (∀ y ∈ A, ltS y x) → refPos x i i (A ++ B) = i + A.length
  | [], i, _ => by rw [List.nil_append, refPos_none x B i i hB]; rfl
  | y :: ys, i, h => by
    rw [List.cons_append, refPos, if_pos (h y (by simp)), refPos_split x B hB ys (i + 1) fun z hz => h z (by simp [hz]), List.length_cons]
    omega
theorem sorted_split (x : Int) : ∀ (l : List Int), l.Pairwise ltS → ∃ A B, l = A ++ B ∧ (∀ y ∈ A, ltS y x) ∧ ∀ y ∈ B, ¬ ltS y x
  | [], _ => ⟨[], [], rfl, by simp, by simp⟩
  | y :: ys, h => by
    rw [List.pairwise_cons] at h
    by_cases hy : ltS y x
    · obtain ⟨A, B, e, h1, h2⟩ := sorted_split x ys h.2
      refine ⟨y :: A, B, by rw [e]; rfl, fun z hz => ?_, h2⟩
      rcases List.mem_cons.1 hz with rfl | hz
      · exact hy
      · exact h1 z hz
    · refine ⟨[], y :: ys, rfl, by simp, fun z hz => ?_⟩
      rcases List.mem_cons.1 hz with rfl | hz
      · exact hy
      · exact fun hh => hy (ltS_trans (h.1 z hz) hh)
theorem refIns_spec {out : List Int} (h : out.Pairwise ltS) (x : Int) : (refIns out x).Pairwise ltS ∧ ∀ y, y ∈ refIns out x ↔ y = x ∨ y ∈ out := by
  unfold refIns
  split
  · rename_i hx
    exact ⟨h, fun y => ⟨Or.inr, fun hy => hy.elim (fun e => e ▸ hx) id⟩⟩
  · rename_i hx
    obtain ⟨A, B, e, hA, hB⟩ := sorted_split x out h
    have hp := refPos_split x B hB A 0 hA
    rw [Nat.zero_add] at hp
    rw [e] at h hx ⊢
    rw [hp, List.take_left, List.drop_left]
    rw [List.pairwise_append] at h
    have hxB : ∀ y ∈ B, ltS x y := fun y hy => ltS_tri (hB y hy) fun hh => hx (by rw [← hh]; simp [hy])
    refine ⟨?_, fun y => by
      simp only [List.mem_append, List.mem_cons]
      constructor
      · rintro (h | h | h)
        · exact Or.inr (Or.inl h)
        · exact Or.inl h
        · exact Or.inr (Or.inr h)
      · rintro (h | h | h)
        · exact Or.inr (Or.inl h)
        · exact Or.inl h
        · exact Or.inr (Or.inr h)⟩
    rw [List.pairwise_append, List.pairwise_cons]
    refine ⟨h.1, ⟨hxB, h.2.1⟩, fun a ha b hb => ?_⟩
    rcases List.mem_cons.1 hb with rfl | hb
    · exact hA a ha
    · exact h.2.2 a ha b hb
theorem refLeast_spec (l : List Int) : (refLeast l).Pairwise ltS ∧ ∀ x, x ∈ refLeast l ↔ Mini l x := by
  have key : ∀ (rest pre out : List Int), l = pre ++ rest → out.Pairwise ltS → (∀ x, x ∈ out ↔ x ∈ pre ∧ Mini l x) →
      (rest.foldl (refStep l) out).Pairwise ltS ∧ ∀ x, x ∈ rest.foldl (refStep l) out ↔ Mini l x := by
    intro rest
    induction rest with
    | nil =>
      intro pre out e h1 h2
      rw [List.append_nil] at e
      subst e
      exact ⟨h1, fun x => (h2 x).trans ⟨fun h => h.2, fun h => ⟨h.1, h⟩⟩⟩
    | cons y ys ih =>
      intro pre out e h1 h2
      rw [List.foldl_cons]
      have hy : y ∈ l := by rw [e]; simp
      by_cases hk : refOk l y = true
      · rw [refStep, if_pos hk]
        have hm := (refOk_iff hy).1 hk
        have hi := refIns_spec h1 y
        refine ih (pre ++ [y]) _ (by rw [e]; simp) hi.1 fun x => ?_
        rw [hi.2, h2, List.mem_append, List.mem_singleton]
        constructor
        · rintro (rfl | h)
          · exact ⟨Or.inr rfl, hm⟩
          · exact ⟨Or.inl h.1, h.2⟩
        · rintro ⟨h | h, h'⟩
          · exact Or.inr ⟨h, h'⟩
          · exact Or.inl h
      · rw [refStep, if_neg hk]
        refine ih (pre ++ [y]) out (by rw [e]; simp) h1 fun x => ?_
        rw [h2, List.mem_append, List.mem_singleton]
        constructor
        · rintro ⟨h, h'⟩
          exact ⟨Or.inl h, h'⟩
        · rintro ⟨h | h, h'⟩
          · exact ⟨h, h'⟩
          · subst h; exact absurd ((refOk_iff hy).2 h') hk
  exact key l [] [] rfl List.Pairwise.nil (by simp)
end Go.Proofs.Ytkjlcbfjllpcnaa.X
namespace Go.Proofs.Ytkjlcbfjllpcnaa.X
open Go.RowKit Go.Proofs.YtkjlcbfjllpcnaaW.PrintWords Go.Proofs.YtkjlcbfjllpcnaaW.PrintLast Go.Proofs.YtkjlcbfjllpcnaaW.PrintMore
set_option linter.unusedVariables false
theorem foldU_sub (l : List Int) : ∀ a, Sub a (foldU l a) := by
  induction l with
  | nil => intro a; exact Sub.refl a
  | cons y ys ih =>
    intro a
    show Sub a (foldU ys (if noNode y = true then a else a ||| 2 ^ y.toNat))
    refine Sub.trans ?_ (ih _)
    split
    · exact Sub.refl a
    · exact Sub.orl _ _
theorem foldU_mem {l : List Int} {x : Int} (hx : x ∈ l) (hn : noNode x = false) : ∀ a, (foldU l a).testBit x.toNat = true := by
  induction l with
  | nil => cases hx
  | cons y ys ih =>
    intro a
    show (foldU ys (if noNode y = true then a else a ||| 2 ^ y.toNat)).testBit x.toNat = true
    rcases List.mem_cons.1 hx with rfl | h
    · rw [hn]
      exact foldU_sub ys _ _ (by simp [or_bit, two_bit])
    · exact ih h _
mutual
theorem sat_uses {s t : Nat} : ∀ (x : S32), (∀ i, (uses x).testBit i = true → s.testBit i = true → t.testBit i = true) → sat s x = true → sat t x = true
  | ⟨n, l, ts⟩ => by
    intro h
    rw [uses_eq] at h
    rw [sat, sat, decide_eq_true_eq, decide_eq_true_eq]
    intro hx
    have h1 : l.countP (fun x => inS s x) ≤ l.countP (fun x => inS t x) := by
      refine List.countP_mono_left fun x hx hs => ?_
      obtain ⟨i, rfl, hi, hb⟩ := inS_iff.1 hs
      refine inS_iff.2 ⟨i, rfl, hi, h i ?_ hb⟩
      rw [or_bit]
      have := foldU_mem hx (show noNode (i : Int) = false by simp [noNode]; omega) 0
      rw [Int.toNat_natCast] at this
      unfold foldU at this
      simp only at this ⊢
      rw [this]; rfl
    have h2 := satC_uses ts fun i hi => h i (by rw [or_bit]; simp only; rw [hi]; simp)
    omega
theorem satC_uses {s t : Nat} : ∀ l : List S32, (∀ i, (useL l).testBit i = true → s.testBit i = true → t.testBit i = true) → satC s l ≤ satC t l
  | [], _ => by rw [satC, satC]; exact Nat.le_refl _
  | x :: xs, h => by
    rw [useL] at h
    rw [satC, satC]
    have h1 := satC_uses xs fun i hi => h i (by rw [or_bit, hi]; simp)
    have h2 := sat_uses x fun i hi => h i (by rw [or_bit, hi]; simp)
    cases hs : sat s x
    · simp; omega
    · rw [h2 hs]; simp; omega
end
def lst (t : S32) (s : Nat) : Bool := (nodesL s).all fun j => !sat (dif s (2 ^ j.toNat)) t
def isSl (t : S32) (s : Nat) : Bool := sat s t && lst t s
def candS (t : S32) (m : Nat) : List Int := ((List.range m).filter fun s => isSl t s).map Int.ofNat
def slicesS (t : S32) : List Int := refLeast (candS t 1024)
theorem lst_iff {t : S32} {s : Nat} (hs : s < 1024) : lst t s = true ↔ ∀ i, s.testBit i = true → sat (dif s (2 ^ i)) t = false := by
  unfold lst
  rw [List.all_eq_true]
  constructor
  · intro h i hi
    have h10 : i < 10 := by
      rcases Nat.lt_or_ge i 10 with h | h
      · exact h
      · rw [bit_lt (n := 10) hs h] at hi; cases hi
    have := h (i : Int) (nodesL_mem.2 (inS_iff.2 ⟨i, rfl, h10, hi⟩))
    rw [Int.toNat_natCast, Bool.not_eq_true'] at this
    exact this
  · intro h j hj
    obtain ⟨i, rfl, h10, hi⟩ := inS_iff.1 (nodesL_mem.1 hj)
    rw [Int.toNat_natCast, h i hi]
    rfl
theorem sub_two : ∀ s, s < 1024 → ∀ i, i < 10 → s.testBit i = true → s - 2 ^ i = dif s (2 ^ i) := by decide +kernel
theorem bit10 {s i : Nat} (hs : s < 1024) (hi : s.testBit i = true) : i < 10 := by
  rcases Nat.lt_or_ge i 10 with h | h
  · exact h
  · rw [bit_lt (n := 10) hs h] at hi; cases hi
theorem dif_sub (s t : Nat) : Sub (dif s t) s := fun i hi => by rw [dif_bit, Bool.and_eq_true] at hi; exact hi.1
theorem pow_le_of_bit {s i : Nat} (h : s.testBit i = true) : 2 ^ i ≤ s := Nat.ge_two_pow_of_testBit h
theorem candS_mem {t : S32} {m : Nat} {x : Int} : x ∈ candS t m ↔ ∃ s : Nat, x = (s : Int) ∧ s < m ∧ isSl t s = true := by
  unfold candS
  rw [List.mem_map]
  constructor
  · rintro ⟨s, h, rfl⟩
    rw [List.mem_filter, List.mem_range] at h
    exact ⟨s, rfl, h.1, h.2⟩
  · rintro ⟨s, rfl, h1, h2⟩
    exact ⟨s, by rw [List.mem_filter, List.mem_range]; exact ⟨h1, h2⟩, rfl⟩
theorem candS_len (t : S32) (m : Nat) : (candS t m).length ≤ m := by
  unfold candS
  rw [List.length_map]
  have := List.length_filter_le (fun s => isSl t s) (List.range m)
  simpa using this
theorem slicesS_mem {t : S32} {x : Int} : x ∈ slicesS t ↔ ∃ s : Nat, x = (s : Int) ∧ s < 1024 ∧ isSl t s = true := by
  rw [slicesS, (refLeast_spec _).2, ← candS_mem]
  refine ⟨fun h => h.1, fun h => ⟨h, ?_, ?_⟩⟩
  · obtain ⟨s, rfl, h1, _⟩ := candS_mem.1 h
    exact vld_nat h1
  · intro y hy hv hsub
    obtain ⟨s, rfl, h1, h2⟩ := candS_mem.1 h
    obtain ⟨u, rfl, h3, h4⟩ := candS_mem.1 hy
    rw [Int.toNat_natCast, Int.toNat_natCast] at hsub
    rw [isSl, Bool.and_eq_true] at h2 h4
    have : u = s := Sub.eq hsub fun i hi => by
      cases hu : u.testBit i
      · exfalso
        have h5 := (lst_iff h1).1 h2.2 i hi
        have h6 := sat_mono (t := dif s (2 ^ i)) (fun j hj => by
          rw [dif_bit, two_bit, hsub j hj]
          by_cases e : i = j
          · subst e; rw [hu] at hj; cases hj
          · simp [e]) t h4.1
        rw [h5] at h6; cases h6
      · rfl
    rw [this]
theorem slices_len (t : S32) : (slicesS t).length ≤ 1024 := by
  have hs := (refLeast_spec (candS t 1024)).1
  have hne : ∀ {a b : Int}, ltS a b → a ≠ b := fun {a b} h e => ltS_irrefl a (by rw [← e] at h; exact h)
  have hnd : (slicesS t).Nodup := List.Pairwise.imp hne hs
  have hsub : slicesS t ⊆ candS t 1024 := fun x hx => (((refLeast_spec _).2 x).1 hx).1
  exact Nat.le_trans (hnd.length_le_of_subset hsub) (candS_len t 1024)
theorem slice_uses {t : S32} {s : Nat} (hs : s < 1024) (h : isSl t s = true) : Sub s (uses t) := by
  rw [isSl, Bool.and_eq_true] at h
  intro i hi
  cases hu : (uses t).testBit i
  · exfalso
    have h5 := (lst_iff hs).1 h.2 i hi
    have h6 := sat_uses (t := dif s (2 ^ i)) t (fun j hj hsj => by
      rw [dif_bit, two_bit, hsj]
      by_cases e : i = j
      · subst e; rw [hu] at hj; cases hj
      · simp [e]) h.1
    rw [h5] at h6; cases h6
  · rfl
theorem sat_slice {t : S32} : ∀ (n s : Nat), pcn s < n → s < 1024 → sat s t = true → ∃ u, u < 1024 ∧ isSl t u = true ∧ Sub u s
  | 0, s, h, _, _ => absurd h (by omega)
  | n + 1, s, h, hs, hsat => by
    cases hl : lst t s
    · have : ¬ ∀ i, s.testBit i = true → sat (dif s (2 ^ i)) t = false := fun hh => by rw [(lst_iff hs).2 hh] at hl; cases hl
      obtain ⟨i, hi⟩ := Classical.not_forall.1 this
      obtain ⟨hi, hi2⟩ := Classical.not_imp.1 hi
      have hi2 : sat (dif s (2 ^ i)) t = true := by simpa using hi2
      have hd : dif s (2 ^ i) < 1024 := dif_lt (n := 10) hs
      have hp : pcn (dif s (2 ^ i)) < pcn s := pcn_sub hs (dif_sub _ _) fun e => by
        have := dif_bit s (2 ^ i) i
        rw [e, hi, two_bit] at this
        simp at this
      obtain ⟨u, h1, h2, h3⟩ := sat_slice n _ (by omega) hd hi2
      exact ⟨u, h1, h2, h3.trans (dif_sub _ _)⟩
    · exact ⟨s, hs, by rw [isSl, hsat, hl]; rfl, Sub.refl s⟩
theorem blk_meets {c : List S34} {s j : Nat} (hs : s < 1024) (hj : j < 10) (hd : (decl c).testBit j = true) :
    blk c s (j : Int) = true ↔ ∀ u, u < 1024 → isSl (c.getD j z34).f1 u = true → dif u (2 ^ j) &&& s ≠ 0 := by
  unfold blk
  rw [inS_nat _ j hj, hd, Bool.true_and, Bool.not_eq_true', Int.toNat_natCast]
  have hX : dif 1023 s ||| 2 ^ j < 1024 := or_lt10 (dif_lt (n := 10) (by decide)) (two_lt10 hj)
  constructor
  · intro h u hu hsl h0
    have : sat (dif 1023 s ||| 2 ^ j) (c.getD j z34).f1 = true := by
      have h1 := hsl
      rw [isSl, Bool.and_eq_true] at h1
      refine sat_mono (fun i hi => ?_) _ h1.1
      have h10 := bit10 hu hi
      rw [or_bit, dif_bit, two_bit]
      by_cases e : j = i
      · simp [e]
      · have h2 : (dif u (2 ^ j) &&& s).testBit i = false := by rw [h0]; exact Nat.zero_testBit i
        rw [and_bit, dif_bit, two_bit, hi] at h2
        have h3 : (1023 : Nat).testBit i = true := by rw [show (1023 : Nat) = 2 ^ 10 - 1 from rfl, full_bit]; simpa using h10
        rw [h3]
        simpa [e] using h2
    rw [h] at this; cases this
  · intro h
    cases hsat : sat (dif 1023 s ||| 2 ^ j) (c.getD j z34).f1
    · rfl
    · exfalso
      obtain ⟨u, h1, h2, h3⟩ := sat_slice _ _ (Nat.lt_succ_self _) hX hsat
      refine h u h1 h2 (eq_bits fun i => ?_)
      rw [and_bit, dif_bit, two_bit, Nat.zero_testBit]
      cases hu : u.testBit i
      · rfl
      · have := h3 i hu
        rw [or_bit, dif_bit, two_bit] at this
        by_cases e : j = i
        · simp [e]
        · simp only [e, decide_false, Bool.or_false, Bool.and_eq_true, Bool.not_eq_true'] at this
          simp [this.2]
theorem lst_ev {t : S32} (ht : wt t < 1000000) {s : Nat} (hs : s < 1024) : Ev (fun k => trustquorumref05_least.f k t.f0 t.f1 t.f2 (s : Int) false) (lst t s) := by
  simp only [trustquorumref05_least.f, Option.bind_some, ↓reduceIte, Bool.false_eq_true, reduceCtorEq, decide_eq_true_eq, Go.Proofs.YtkjlcbfjllpcnaaW.PrintWords.rd, rd_T32, rd_T34]
  refine Ev.bind1 (ref_Nodes_ev hs) ?_
  have hl := nodesL_len s
  refine Ev.fold (xs := nodesL s) (L := fun (a : Unit) i k => trustquorumref05_least.l0 k (s : Int) false (nodesL s) ((nodesL s).length : Int) i t.f0 t.f1 t.f2) (by omega) (fun pre ys a => (ys.all fun j => !sat (dif s (2 ^ j.toNat)) t) = lst t s) ?_ ?_ () rfl
  · intro a i hI hi
    rw [List.all_nil] at hI
    (refine Ev.shift ?_; simp only [trustquorumref05_least.l0, hi, Option.bind_some, ↓reduceIte, Bool.false_eq_true, reduceCtorEq, decide_eq_true_eq, Go.Proofs.YtkjlcbfjllpcnaaW.PrintWords.rd, rd_T32, rd_T34])
    rw [← hI]
    exact Ev.now _
  · intro pre y ys a i e hI hi h0 hlt hw hrd
    rw [List.all_cons] at hI
    obtain ⟨j, rfl, h10, hj⟩ := inS_iff.1 (nodesL_mem.1 (show y ∈ nodesL s by rw [e]; simp))
    have hj0 : (0 : Int) ≤ j := by omega
    rw [Int.toNat_natCast] at hI
    have hp := pow_le_of_bit hj
    have e2 : wrap64 ((s : Int) - (shl .i64 1 (j : Int))) = ((dif s (2 ^ j) : Nat) : Int) := by
      rw [shl_nat' h10, ← sub_two s hs j h10 hj]
      generalize 2 ^ j = q at hp ⊢
      rw [w64 (by omega) (by omega)]; omega
    have hsat := ref02_Sat_ev (show dif s (2 ^ j) < 1024 from dif_lt (n := 10) hs) 1000000 t ht (by decide)
    cases hb : sat (dif s (2 ^ j)) t
    · rw [hb, Bool.not_false, Bool.true_and] at hI
      refine Or.inl ⟨(), hI, fun k => ?_⟩
      (refine Ev.shift ?_; simp only [trustquorumref05_least.l0, h0, hlt, hw, hrd, hj0, e2, Option.bind_some, ↓reduceIte, Bool.false_eq_true, reduceCtorEq, decide_eq_true_eq, Go.Proofs.YtkjlcbfjllpcnaaW.PrintWords.rd, rd_T32, rd_T34])
      refine Ev.bind1 hsat ?_
      rw [hb]
      exact k
    · rw [hb, Bool.not_true, Bool.false_and] at hI
      refine Or.inr ?_
      rw [← hI]
      (refine Ev.shift ?_; simp only [trustquorumref05_least.l0, h0, hlt, hw, hrd, hj0, e2, Option.bind_some, ↓reduceIte, Bool.false_eq_true, reduceCtorEq, decide_eq_true_eq, Go.Proofs.YtkjlcbfjllpcnaaW.PrintWords.rd, rd_T32, rd_T34])
      refine Ev.bind1 hsat ?_
      rw [hb]
      exact Ev.now _
theorem candS_succ (t : S32) (m : Nat) : candS t (m + 1) = if isSl t m = true then candS t m ++ [(m : Int)] else candS t m := by
  unfold candS
  rw [List.range_succ, List.filter_append]
  split
  · rename_i h; simp [h]
  · rename_i h; simp [h]
theorem Slices_ev {t : S32} (ht : wt t < 1000000) (hv : validT t = 0) : Ev (fun k => trustquorumref05_Slices.f k t.f0 t.f1 t.f2) (slicesS t, 0) := by
  simp only [trustquorumref05_Slices.f, slicesS, Option.bind_some, ↓reduceIte, Bool.false_eq_true, reduceCtorEq, decide_eq_true_eq, Go.Proofs.YtkjlcbfjllpcnaaW.PrintWords.rd, rd_T32, rd_T34]
  generalize hG : candS t 1024 = G
  refine Ev.bind1 (ref_Valid_ev t ht) ?_
  simp only [hv, Option.bind_some, ↓reduceIte, Bool.false_eq_true, reduceCtorEq, decide_eq_true_eq, Go.Proofs.YtkjlcbfjllpcnaaW.PrintWords.rd, rd_T32, rd_T34]
  refine Ev.count (L := fun (l : List Int) i k => trustquorumref05_Slices.l0 k l i t.f0 t.f1 t.f2) 1024 (by decide) (fun i l => l = candS t i) ?_ ?_ [] rfl
  · intro l hl
    replace hl : l = candS t 1024 := hl
    rw [hG] at hl
    rw [hl]
    have h : ¬ ((1024 : Nat) : Int) ≤ 1023 := by decide
    have h2 : G.length ≤ 1048576 := by have := candS_len t 1024; rw [hG] at this; omega
    (refine Ev.shift ?_; simp only [trustquorumref05_Slices.l0, h, trustquorumref01_Least.f, h2, Option.bind_some, ↓reduceIte, Bool.false_eq_true, reduceCtorEq, decide_eq_true_eq, Go.Proofs.YtkjlcbfjllpcnaaW.PrintWords.rd, rd_T32, rd_T34])
    exact Ev.now _
  · rintro i l hi hl hw
    have h : (i : Int) ≤ 1023 := by omega
    have hlen : l.length < 17592186044416 := by rw [hl]; have := candS_len t i; omega
    have hsat := ref02_Sat_ev hi 1000000 t ht (by decide)
    have hlst := lst_ev ht hi
    have hs := candS_succ t i
    cases h1 : sat i t
    · refine Or.inl ⟨l, by rw [hs, isSl, h1, hl]; simp, fun k => ?_⟩
      (refine Ev.shift ?_; simp only [trustquorumref05_Slices.l0, h, hw, Option.bind_some, ↓reduceIte, Bool.false_eq_true, reduceCtorEq, decide_eq_true_eq, Go.Proofs.YtkjlcbfjllpcnaaW.PrintWords.rd, rd_T32, rd_T34])
      refine Ev.bind1 hsat ?_
      rw [h1]
      exact k
    · cases h2 : lst t i
      · refine Or.inl ⟨l, by rw [hs, isSl, h1, h2, hl]; simp, fun k => ?_⟩
        (refine Ev.shift ?_; simp only [trustquorumref05_Slices.l0, h, hw, Option.bind_some, ↓reduceIte, Bool.false_eq_true, reduceCtorEq, decide_eq_true_eq, Go.Proofs.YtkjlcbfjllpcnaaW.PrintWords.rd, rd_T32, rd_T34])
        refine Ev.bind1 hsat ?_
        simp only [h1, if_true]
        refine Ev.bind1 hlst ?_
        rw [h2]
        exact k
      · refine Or.inl ⟨l ++ [(i : Int)], by rw [hs, isSl, h1, h2, hl]; simp, fun k => ?_⟩
        (refine Ev.shift ?_; simp only [trustquorumref05_Slices.l0, h, hw, hlen, Option.bind_some, ↓reduceIte, Bool.false_eq_true, reduceCtorEq, decide_eq_true_eq, Go.Proofs.YtkjlcbfjllpcnaaW.PrintWords.rd, rd_T32, rd_T34])
        refine Ev.bind1 hsat ?_
        simp only [h1, if_true]
        refine Ev.bind1 hlst ?_
        simp only [h2, if_true]
        exact k
def meetB (l : List Int) (s : Nat) : Bool := l.all fun x => Go.bits .and .i64 x (s : Int) != 0
def meetL (l : List Int) (m : Nat) : List Int := ((List.range m).filter fun s => meetB l s).map Int.ofNat
theorem meetL_len (l : List Int) (m : Nat) : (meetL l m).length ≤ m := by
  unfold meetL
  rw [List.length_map]
  have := List.length_filter_le (fun s => meetB l s) (List.range m)
  simpa using this
theorem meetL_succ (l : List Int) (m : Nat) : meetL l (m + 1) = if meetB l m = true then meetL l m ++ [(m : Int)] else meetL l m := by
  unfold meetL
  rw [List.range_succ, List.filter_append]
  split
  · rename_i h; simp [h]
  · rename_i h; simp [h]
theorem meetL_mem {l : List Int} {m : Nat} {x : Int} : x ∈ meetL l m ↔ ∃ s : Nat, x = (s : Int) ∧ s < m ∧ meetB l s = true := by
  unfold meetL
  rw [List.mem_map]
  constructor
  · rintro ⟨s, h, rfl⟩
    rw [List.mem_filter, List.mem_range] at h
    exact ⟨s, rfl, h.1, h.2⟩
  · rintro ⟨s, rfl, h1, h2⟩
    exact ⟨s, by rw [List.mem_filter, List.mem_range]; exact ⟨h1, h2⟩, rfl⟩
theorem Meeting_ev {l : List Int} {n : Nat} (hn : n ≤ 10) (hl : l.length ≤ 1024) (hx : ∀ x ∈ l, 0 ≤ x ∧ x < ((2 ^ n : Nat) : Int)) : Ev (fun k => trustquorumref01_Meeting.f k l (n : Int)) (refLeast (meetL l (2 ^ n)), 0) := by
  have hp : 2 ^ n ≤ 2 ^ 10 := Nat.pow_le_pow_right (by decide) hn
  have h1 : ¬ (n : Int) < 0 := by omega
  have h2 : decide ((n : Int) > 10) = false := by simp; omega
  have h3 : (0 : Int) ≤ n := by omega
  have hsh := shl_nat (k := n) (by omega)
  simp only [trustquorumref01_Meeting.f, h1, h2, Option.bind_some, ↓reduceIte, Bool.false_eq_true, reduceCtorEq, decide_eq_true_eq, Go.Proofs.YtkjlcbfjllpcnaaW.PrintWords.rd, rd_T32, rd_T34]
  (refine Ev.shift ?_; simp only [trustquorumref01_Meeting.j0, Option.bind_some, ↓reduceIte, Bool.false_eq_true, reduceCtorEq, decide_eq_true_eq, Go.Proofs.YtkjlcbfjllpcnaaW.PrintWords.rd, rd_T32, rd_T34])
  have L1 : Ev (fun k => trustquorumref01_Meeting.l1 k l (n : Int) [] 0) (refLeast (meetL l (2 ^ n)), 0) := by
    refine Ev.count (L := fun (m : List Int) i k => trustquorumref01_Meeting.l1 k l (n : Int) m i) (2 ^ n) (by omega) (fun i m => m = meetL l i) ?_ ?_ [] rfl
    · rintro m rfl
      have h : ¬ ((2 ^ n : Nat) : Int) < ((2 ^ n : Nat) : Int) := by omega
      have h2 : (meetL l (2 ^ n)).length ≤ 1048576 := by have := meetL_len l (2 ^ n); omega
      (refine Ev.shift ?_; simp only [trustquorumref01_Meeting.l1, h3, hsh, h, trustquorumref01_Least.f, h2, Option.bind_some, ↓reduceIte, Bool.false_eq_true, reduceCtorEq, decide_eq_true_eq, Go.Proofs.YtkjlcbfjllpcnaaW.PrintWords.rd, rd_T32, rd_T34])
      exact Ev.now _
    · rintro i m hi hm hw
      have h : (i : Int) < ((2 ^ n : Nat) : Int) := by omega
      have hlen : m.length < 17592186044416 := by rw [hm]; have := meetL_len l i; omega
      have hs := meetL_succ l i
      refine Or.inl ⟨if meetB l i = true then m ++ [(i : Int)] else m, by rw [hs, hm], fun k => ?_⟩
      (refine Ev.shift ?_; simp only [trustquorumref01_Meeting.l1, h3, hsh, h, Option.bind_some, ↓reduceIte, Bool.false_eq_true, reduceCtorEq, decide_eq_true_eq, Go.Proofs.YtkjlcbfjllpcnaaW.PrintWords.rd, rd_T32, rd_T34])
      refine Ev.fold (xs := l) (L := fun (a : Bool) q k => trustquorumref01_Meeting.l2 k l (n : Int) m (i : Int) a l (l.length : Int) q) (by omega) (fun pre ys a => (a && ys.all fun x => Go.bits .and .i64 x (i : Int) != 0) = meetB l i) ?_ ?_ true (by rw [Bool.true_and]; rfl)
      · intro a q hI hq
        rw [List.all_nil, Bool.and_true] at hI
        subst hI
        cases hb : meetB l i
        · (refine Ev.shift ?_; simp only [trustquorumref01_Meeting.l2, hq, hw, Option.bind_some, ↓reduceIte, Bool.false_eq_true, reduceCtorEq, decide_eq_true_eq, Go.Proofs.YtkjlcbfjllpcnaaW.PrintWords.rd, rd_T32, rd_T34])
          rw [hb] at k
          exact k
        · (refine Ev.shift ?_; simp only [trustquorumref01_Meeting.l2, hq, hlen, hw, Option.bind_some, ↓reduceIte, Bool.false_eq_true, reduceCtorEq, decide_eq_true_eq, Go.Proofs.YtkjlcbfjllpcnaaW.PrintWords.rd, rd_T32, rd_T34])
          rw [hb] at k
          exact k
      · intro pre y ys a q e hI hq h0 hlt hwq hrd
        rw [List.all_cons, ← Bool.and_assoc] at hI
        refine Or.inl ⟨a && (Go.bits .and .i64 y (i : Int) != 0), hI, fun k => ?_⟩
        cases a
        · (refine Ev.shift ?_; simp only [trustquorumref01_Meeting.l2, h0, hlt, hwq, hrd, Option.bind_some, ↓reduceIte, Bool.false_eq_true, reduceCtorEq, decide_eq_true_eq, Go.Proofs.YtkjlcbfjllpcnaaW.PrintWords.rd, rd_T32, rd_T34])
          exact k
        · (refine Ev.shift ?_; simp only [trustquorumref01_Meeting.l2, h0, hlt, hwq, hrd, Option.bind_some, ↓reduceIte, Bool.false_eq_true, reduceCtorEq, decide_eq_true_eq, Go.Proofs.YtkjlcbfjllpcnaaW.PrintWords.rd, rd_T32, rd_T34])
          exact k
  refine Ev.fold (xs := l) (L := fun (a : Unit) q k => trustquorumref01_Meeting.l0 k l (n : Int) l (l.length : Int) q) (by omega) (fun pre ys a => True) ?_ ?_ () trivial
  · intro a q hI hq
    have h4 : ¬ (l.length : Int) > 1024 := by omega
    (refine Ev.shift ?_; simp only [trustquorumref01_Meeting.l0, hq, h4, Option.bind_some, ↓reduceIte, Bool.false_eq_true, reduceCtorEq, decide_eq_true_eq, Go.Proofs.YtkjlcbfjllpcnaaW.PrintWords.rd, rd_T32, rd_T34])
    exact L1
  · intro pre y ys a q e hI hq h0 hlt hwq hrd
    have hy := hx y (by rw [e]; simp)
    have h4 : ¬ y < 0 := by omega
    have h5 : ¬ y ≥ ((2 ^ n : Nat) : Int) := by omega
    refine Or.inl ⟨(), trivial, fun k => ?_⟩
    (refine Ev.shift ?_; simp only [trustquorumref01_Meeting.l0, h0, hlt, hwq, hrd, h4, h3, hsh, h5, Option.bind_some, ↓reduceIte, Bool.false_eq_true, reduceCtorEq, decide_eq_true_eq, Go.Proofs.YtkjlcbfjllpcnaaW.PrintWords.rd, rd_T32, rd_T34])
    exact k
end Go.Proofs.Ytkjlcbfjllpcnaa.X
namespace Go.Proofs.Ytkjlcbfjllpcnaa.X
open Go.RowKit Go.Proofs.YtkjlcbfjllpcnaaW.PrintWords Go.Proofs.YtkjlcbfjllpcnaaW.PrintLast Go.Proofs.YtkjlcbfjllpcnaaW.PrintMore
theorem three_light : Light [mem3, mem3, mem3] := ⟨by decide, by decide⟩
theorem three_least : leastS (blkL [mem3, mem3, mem3] ((0 : Nat) : Int)) = [6] := by
  have e : uses (([mem3, mem3, mem3] : List S34).getD (((0 : Nat) : Int)).toNat z34).f1 = 7 := by decide
  have e1 : subsetsS ((7 : Nat) : Int) = [0, 1, 2, 4, 3, 5, 6, 7] := by
    rw [subsetsS, vld_nat (by decide), if_pos rfl]
    exact sortS_eq (List.isPerm_iff.1 (by decide)) (by decide)
  have e2 : sortS [6, 7] = [6, 7] := sortS_eq (List.Perm.refl _) (by decide)
  have e3 : (List.filter (fun s => blk [mem3, mem3, mem3] s.toNat ((0 : Nat) : Int)) [0, 1, 2, 4, 3, 5, 6, 7]).filter vld = [6, 7] := by decide
  rw [blkL, e, e1, leastS, e3, e2]
  decide
theorem awake11_ev : Ev (fun k => trustquorumlaw11_awake.f k) true := by
  simp only [trustquorumlaw11_awake.f, trustquorumlaw11_three.f, Option.bind_some]
  refine Ev.bind1 (Least_ev three_light (by decide) (j := 0) (by decide) rfl) ?_
  rw [three_least]
  refine Ev.bind1 (Ev.of (k := 100) (r := ([0], 7)) (fun k => blocking_Cascade.mono _ _ k) (by decide +kernel)) ?_
  refine Ev.bind1 (Ev.of (k := 100) (r := ([], 2)) (fun k => blocking_Cascade.mono _ _ k) (by decide +kernel)) ?_
  simp only [if_true]
  refine Ev.bind1 (Ints_ev (by decide)) ?_
  simp only [decide_true, if_true]
  refine Ev.bind1 (Ints_ev (by decide)) ?_
  simp only [decide_true, if_true, List.length_nil]
  refine Ev.bind1 (Ev.of (k := 100) (r := true) (fun k => blocking_Blocks.mono _ _ _ k) (by decide +kernel)) ?_
  exact Ev.now _
end Go.Proofs.Ytkjlcbfjllpcnaa.X
namespace Go.Proofs.Ytkjlcbfjllpcnaa.Pure
open Go.RowKit Go.Proofs.Ytkjlcbfjllpcnaa.X Go.Proofs.YtkjlcbfjllpcnaaW.PrintWords Go.Proofs.YtkjlcbfjllpcnaaW.PrintLast
set_option linter.unusedVariables false
def outL (t : S32) (j : Nat) : List Int := (slicesS t).map fun x => ((dif x.toNat (2 ^ j) : Nat) : Int)
theorem outL_len (t : S32) (j : Nat) : (outL t j).length ≤ 1024 := by
  unfold outL; rw [List.length_map]; exact slices_len t
theorem outL_mem {t : S32} {j : Nat} {x : Int} : x ∈ outL t j ↔ ∃ u : Nat, u < 1024 ∧ isSl t u = true ∧ x = ((dif u (2 ^ j) : Nat) : Int) := by
  unfold outL
  rw [List.mem_map]
  constructor
  · rintro ⟨y, hy, rfl⟩
    obtain ⟨u, rfl, h1, h2⟩ := slicesS_mem.1 hy
    exact ⟨u, h1, h2, by rw [Int.toNat_natCast]⟩
  · rintro ⟨u, h1, h2, rfl⟩
    exact ⟨(u : Int), slicesS_mem.2 ⟨u, rfl, h1, h2⟩, by rw [Int.toNat_natCast]⟩
theorem meetB_blk {c : List S34} {s j : Nat} (hs : s < 1024) (hj : j < 10) (hd : (decl c).testBit j = true) : meetB (outL (c.getD j z34).f1 j) s = blk c s (j : Int) := by
  have h := blk_meets (c := c) hs hj hd
  have hm : meetB (outL (c.getD j z34).f1 j) s = true ↔ ∀ u, u < 1024 → isSl (c.getD j z34).f1 u = true → dif u (2 ^ j) &&& s ≠ 0 := by
    unfold meetB
    rw [List.all_eq_true]
    constructor
    · intro h u hu hsl
      have := h _ (outL_mem.2 ⟨u, hu, hsl, rfl⟩)
      rw [and_nat' (dif_lt (n := 10) hu) hs, bne_iff_ne] at this
      intro h0; exact this (by rw [h0]; rfl)
    · intro h x hx
      obtain ⟨u, hu, hsl, rfl⟩ := outL_mem.1 hx
      rw [and_nat' (dif_lt (n := 10) hu) hs, bne_iff_ne]
      intro h0; exact h u hu hsl (by omega)
  cases hb : blk c s (j : Int)
  · cases hq : meetB (outL (c.getD j z34).f1 j) s
    · rfl
    · rw [h.2 (hm.1 hq)] at hb; cases hb
  · exact hm.2 (h.1 hb)
theorem blk_self {c : List S34} {s j : Nat} : blk c (s ||| 2 ^ j) (j : Int) = blk c s (j : Int) := by
  unfold blk
  rw [Int.toNat_natCast]
  have : dif 1023 (s ||| 2 ^ j) ||| 2 ^ j = dif 1023 s ||| 2 ^ j := eq_bits fun i => by
    rw [or_bit, or_bit, dif_bit, dif_bit, or_bit, two_bit]
    by_cases e : j = i <;> simp [e]
  rw [this]
theorem least_same {c : List S34} (hc : OkC c) {j : Nat} (hd : (decl c).testBit j = true) : refLeast (meetL (outL (c.getD j z34).f1 j) (2 ^ c.length)) = leastS (blkL c (j : Int)) := by
  have hl := decl_len hd
  have hn := hc.2.1
  have hj : j < 10 := by omega
  have hp : 2 ^ c.length ≤ 2 ^ 10 := Nat.pow_le_pow_right (by decide) hn
  have hm := hc.2.2 _ (getD_mem' z34 hl)
  have hf : (c.getD j z34).f0 = true := by rw [decl_bit, Bool.and_eq_true] at hd; exact hd.2
  unfold OkM at hm
  rw [if_pos hf] at hm
  have hu := hm.2.2
  have hu10 := uses_lt (c.getD j z34).f1
  generalize ht : (c.getD j z34).f1 = t at hu hu10
  have hM : ∀ x, x ∈ meetL (outL t j) (2 ^ c.length) ↔ ∃ s : Nat, x = (s : Int) ∧ s < 2 ^ c.length ∧ blk c s (j : Int) = true := by
    intro x
    rw [meetL_mem]
    constructor
    · rintro ⟨s, rfl, h1, h2⟩
      exact ⟨s, rfl, h1, by rw [← meetB_blk (by omega) hj hd, ht]; exact h2⟩
    · rintro ⟨s, rfl, h1, h2⟩
      exact ⟨s, rfl, h1, by rw [← ht, meetB_blk (by omega) hj hd]; exact h2⟩
  have hB : ∀ x, x ∈ blkL c (j : Int) ↔ ∃ s : Nat, x = (s : Int) ∧ Sub s (uses t) ∧ blk c s (j : Int) = true := by
    intro x
    unfold blkL
    rw [Int.toNat_natCast, ht, List.mem_filter, subsetsS_mem hu10]
    constructor
    · rintro ⟨⟨s, rfl, h1⟩, h2⟩
      rw [Int.toNat_natCast] at h2
      exact ⟨s, rfl, h1, h2⟩
    · rintro ⟨s, rfl, h1, h2⟩
      exact ⟨⟨s, rfl, h1⟩, by rw [Int.toNat_natCast]; exact h2⟩
  have hsub : ∀ s : Nat, Sub s (uses t) → s < 2 ^ c.length := fun s h => lt_of_bits fun i hi => by
    cases hb : s.testBit i
    · rfl
    · rw [← h i hb]; exact bit_lt hu hi
  have hcut : ∀ s : Nat, s < 1024 → blk c s (j : Int) = true → blk c (s &&& uses t) (j : Int) = true := by
    intro s hs hb
    have hs2 : s &&& uses t < 1024 := Nat.lt_of_le_of_lt Nat.and_le_left hs
    rw [blk_meets hs2 hj hd, ht]
    rw [blk_meets hs hj hd, ht] at hb
    intro u hu1 hsl h0
    refine hb u hu1 hsl (eq_bits fun i => ?_)
    have h1 : (dif u (2 ^ j) &&& (s &&& uses t)).testBit i = false := by rw [h0]; exact Nat.zero_testBit i
    rw [and_bit, and_bit, dif_bit] at h1
    rw [and_bit, dif_bit, Nat.zero_testBit]
    cases hui : u.testBit i
    · rfl
    · rw [slice_uses hu1 hsl i hui, hui] at h1
      simpa using h1
  refine sorted_ext (refLeast_spec _).1 (leastS_spec _).1 fun x => ((refLeast_spec _).2 x).trans (Iff.trans ?_ ((leastS_spec _).2 x).symm)
  unfold Mini
  constructor
  · rintro ⟨h1, h2, h3⟩
    obtain ⟨s, rfl, h4, h5⟩ := (hM x).1 h1
    have hs : s < 1024 := by omega
    have hcs : s &&& uses t < 1024 := Nat.lt_of_le_of_lt Nat.and_le_left hs
    have hsu : Sub (s &&& uses t) (uses t) := fun i hi => by rw [and_bit, Bool.and_eq_true] at hi; exact hi.2
    have h6 := h3 _ ((hM _).2 ⟨s &&& uses t, rfl, hsub _ hsu, hcut s hs h5⟩) (vld_nat hcs) (by
      rw [Int.toNat_natCast, Int.toNat_natCast]
      exact fun i hi => by rw [and_bit, Bool.and_eq_true] at hi; exact hi.1)
    have h7 : s &&& uses t = s := by omega
    rw [h7] at hsu
    refine ⟨(hB _).2 ⟨s, rfl, hsu, h5⟩, h2, fun y hy hv hys => ?_⟩
    obtain ⟨u, rfl, h8, h9⟩ := (hB y).1 hy
    exact h3 _ ((hM _).2 ⟨u, rfl, hsub u h8, h9⟩) hv hys
  · rintro ⟨h1, h2, h3⟩
    obtain ⟨s, rfl, h4, h5⟩ := (hB x).1 h1
    refine ⟨(hM _).2 ⟨s, rfl, hsub s h4, h5⟩, h2, fun y hy hv hys => ?_⟩
    obtain ⟨u, rfl, h8, h9⟩ := (hM y).1 hy
    rw [Int.toNat_natCast, Int.toNat_natCast] at hys
    exact h3 _ ((hB _).2 ⟨u, rfl, hys.trans h4, h9⟩) hv (by rw [Int.toNat_natCast, Int.toNat_natCast]; exact hys)
theorem BlockingMeets : trustquorumlaw11_BlockingMeets.Pure := by
  intro l0 h1 h2 h3
  obtain ⟨s, hs, e⟩ := New_ev l0 (by omega)
  suffices h : EvP (fun k => trustquorumlaw11_BlockingMeets.f k l0) (fun r => r = true) by
    obtain ⟨r, rfl, h⟩ := h
    exact h.rounds
  simp only [trustquorumlaw11_BlockingMeets.f, e, Option.bind_some]
  refine EvP.bind (Config_ev hs (by decide) (by decide) (by decide)) ?_
  rintro ⟨c, s1⟩ ⟨⟨hc, _⟩, h4⟩
  simp only at hc h4 ⊢
  have hn1 := hc.1
  have hn10 := hc.2.1
  refine EvP.bind (tN hs h4 (by omega) (by omega)) ?_
  rintro ⟨a, s2⟩ ⟨⟨h5, h6⟩, h7⟩
  simp only at h5 h6 h7 ⊢
  obtain ⟨j, rfl⟩ := Int.eq_ofNat_of_zero_le h5
  have hj : j < 10 := by omega
  simp only [h5, h6, if_true, rd_T34, Int.toNat_natCast]
  have awk : EvP (fun k => (trustquorumlaw11_awake.f k).bind fun t => some t) (fun r => r = true) := by
    refine EvP.bind (EvP.ofEv awake11_ev) ?_
    rintro r rfl
    exact EvP.now rfl
  have hjl : j < c.length := by omega
  by_cases hf : (c.getD j z34).f0 = true
  case neg =>
    simp only [hf, if_false, Bool.false_eq_true]
    exact awk
  simp only [hf, if_true]
  have hm := hc.2.2 _ (getD_mem' z34 hjl)
  unfold OkM at hm
  rw [if_pos hf] at hm
  have hd : (decl c).testBit j = true := by rw [decl_bit, hf]; simp; exact hj
  refine EvP.bind (EvP.ofEv (Slices_ev (hc.light.at j) hm.1)) ?_
  rintro r rfl
  have h2j := two_lt10 hj
  have hsl := slices_len (c.getD j z34).f1
  have hol := outL_len (c.getD j z34).f1 j
  have hmem : ∀ x ∈ slicesS (c.getD j z34).f1, ∃ u : Nat, x = (u : Int) ∧ u < 1024 := fun x hx => by
    obtain ⟨u, rfl, h, _⟩ := slicesS_mem.1 hx
    exact ⟨u, rfl, h⟩
  have hout : outL (c.getD j z34).f1 j = (slicesS (c.getD j z34).f1).map fun x => ((dif x.toNat (2 ^ j) : Nat) : Int) := rfl
  have hlt2 : ∀ x ∈ outL (c.getD j z34).f1 j, 0 ≤ x ∧ x < ((2 ^ c.length : Nat) : Int) := by
    intro x hx
    obtain ⟨u, hu, hisl, rfl⟩ := outL_mem.1 hx
    have : dif u (2 ^ j) < 2 ^ c.length := lt_of_bits fun i hi => by
      cases hb : (dif u (2 ^ j)).testBit i
      · rfl
      · rw [← slice_uses hu hisl i (dif_sub _ _ i hb)]; exact bit_lt hm.2.2 hi
    omega
  have hmb : ∀ v : Nat, v < 1024 → meetB (outL (c.getD j z34).f1 j) v = blk c v (j : Int) := fun v hv => meetB_blk hv hj hd
  have hls := least_same hc hd
  have hleast := Least_ev hc.light hc.valC hjl hf
  generalize outL (c.getD j z34).f1 j = O at hout hol hlt2 hmb hls
  generalize slicesS (c.getD j z34).f1 = S at hsl hmem hout
  have fin : ∀ s2 : Int, EvP (fun k => trustquorumlaw11_BlockingMeets.l1 k (j : Int) O 20 s s2 c) (fun r => r = true) := by
    intro s2
    have h20 : ¬ (20 : Int) < 20 := by decide
    refine EvP.shift ?_
    simp only [trustquorumlaw11_BlockingMeets.l1, h20, if_false]
    refine EvP.bind (EvP.ofEv (Meeting_ev hn10 hol hlt2)) ?_
    rintro r rfl
    refine EvP.bind (EvP.ofEv hleast) ?_
    rintro r rfl
    simp only [if_true]
    rw [hls]
    have hleastlen : (leastS (blkL c (j : Int))).length < 1000000 := by
      have hne : ∀ {a b : Int}, ltS a b → a ≠ b := fun {a b} h e => ltS_irrefl a (by rw [← e] at h; exact h)
      have hnd : (leastS (blkL c (j : Int))).Nodup := List.Pairwise.imp hne (leastS_spec _).1
      have h8 := hnd.length_le_of_subset (fun x hx => (((leastS_spec _).2 x).1 hx).1)
      have h9 : (blkL c (j : Int)).length ≤ (subsetsS (uses (c.getD ((j : Int)).toNat z34).f1)).length := List.length_filter_le _ _
      have h10 := subsetsS_len (uses_lt (c.getD ((j : Int)).toNat z34).f1)
      omega
    refine EvP.bind (EvP.ofEv (Ints_ev (ys := leastS (blkL c (j : Int))) hleastlen)) ?_
    rintro r rfl
    simp only [decide_true, if_true]
    exact awk
  have rounds : ∀ s2 : Int, 0 ≤ s2 → EvP (fun k => trustquorumlaw11_BlockingMeets.l1 k (j : Int) O 0 s s2 c) (fun r => r = true) := by
    intro s2 h7
    refine EvP.loop (L := fun (x : Nat × Int) k => trustquorumlaw11_BlockingMeets.l1 k (j : Int) O (x.1 : Int) s x.2 c) (fun x => x.1 ≤ 20 ∧ 0 ≤ x.2) (fun x => 20 - x.1) ?_ (0, s2) ⟨by simp, h7⟩
    rintro ⟨i, s2⟩ ⟨h8, h9⟩ ih
    simp only at h8 h9 ih ⊢
    by_cases h20 : i < 20
    case neg =>
      have : i = 20 := by omega
      subst this
      exact fin s2
    have hi20 : (i : Int) < 20 := by omega
    refine EvP.shift ?_
    simp only [trustquorumlaw11_BlockingMeets.l1, hi20, if_true]
    refine EvP.bind (tN hs h9 (by decide) (by decide)) ?_
    rintro ⟨v, s3⟩ ⟨⟨h10, h11⟩, h12⟩
    simp only at h10 h11 h12 ⊢
    obtain ⟨v, rfl⟩ := Int.eq_ofNat_of_zero_le h10
    have hv : v < 1024 := by omega
    have nxt := ih (i + 1, s3) ⟨by show i + 1 ≤ 20; omega, h12⟩ (by show 20 - (i + 1) < 20 - i; omega)
    have hv2 := or_lt10 hv h2j
    have e1 : wrap64 ((i : Int) + 1) = ((i + 1 : Nat) : Int) := w64 (by omega) (by omega)
    obtain ⟨r, hr, nxt⟩ := nxt
    refine ⟨r, hr, ?_⟩
    refine Ev.fold (xs := O) (L := fun (b : Bool) q k => trustquorumlaw11_BlockingMeets.l2 k (j : Int) O (i : Int) (v : Int) b O (O.length : Int) q s s3 c) (by omega) (fun pre ys b => (b && ys.all fun x => Go.bits .and .i64 x (v : Int) != 0) = meetB O v) ?_ ?_ true (by rw [Bool.true_and]; rfl)
    · intro b q hI hq
      rw [List.all_nil, Bool.and_true] at hI
      subst hI
      have hb1 := Blocks_ev hc.light hv (j : Int)
      have hb2 := Blocks_ev hc.light hv2 (j : Int)
      rw [blk_self] at hb2
      refine Ev.shift ?_
      simp only [trustquorumlaw11_BlockingMeets.l2, hq, if_false]
      refine Ev.bind1 hb1 ?_
      rw [hmb v hv]
      simp only [bne_self_eq_false, Bool.false_eq_true, if_false]
      refine Ev.bind1 hb1 ?_
      simp only [h5, if_true, shl_nat' hj, or_nat' hv h2j]
      refine Ev.bind1 hb2 ?_
      simp only [bne_self_eq_false, Bool.false_eq_true, if_false, e1]
      exact nxt
    · intro pre y ys b q e hI hq h0 hlt hwq hrd
      rw [List.all_cons, ← Bool.and_assoc] at hI
      refine Or.inl ⟨b && (Go.bits .and .i64 y (v : Int) != 0), hI, fun k => ?_⟩
      refine Ev.shift ?_
      cases b
      · simp only [trustquorumlaw11_BlockingMeets.l2, h0, hlt, hwq, if_true, Bool.false_eq_true, if_false]
        exact k
      · have hyO := hlt2 y (by rw [e]; simp)
        have hp : 2 ^ c.length ≤ 2 ^ 10 := Nat.pow_le_pow_right (by decide) hn10
        have hcomm : Go.bits .and .i64 (v : Int) y = Go.bits .and .i64 y (v : Int) := by
          obtain ⟨u, rfl⟩ := Int.eq_ofNat_of_zero_le hyO.1
          rw [and_nat' hv (by omega), and_nat' (by omega) hv, Nat.and_comm]
        rw [Bool.true_and] at k
        simp only [trustquorumlaw11_BlockingMeets.l2, h0, hlt, hwq, if_true, Go.Proofs.YtkjlcbfjllpcnaaW.PrintWords.rd, hrd, hcomm]
        exact k
  obtain ⟨r, hr, rounds⟩ := rounds s2 h7
  refine ⟨r, hr, ?_⟩
  refine Ev.fold (xs := S) (L := fun (m : List Int) q k => trustquorumlaw11_BlockingMeets.l0 k (j : Int) m S (S.length : Int) q s s2 c) (by omega) (fun pre ys m => m ++ (ys.map fun x => ((dif x.toNat (2 ^ j) : Nat) : Int)) = O ∧ m.length = pre.length) ?_ ?_ [] ⟨by rw [hout]; rfl, rfl⟩
  · rintro m q ⟨hI, hm⟩ hq
    rw [List.map_nil, List.append_nil] at hI
    refine Ev.shift ?_
    simp only [trustquorumlaw11_BlockingMeets.l0, hq, if_false]
    rw [hI]
    exact rounds
  · rintro pre y ys m q e ⟨hI, hm⟩ hq h0 hlt hwq hrd
    obtain ⟨u, rfl, hu⟩ := hmem y (by rw [e]; simp)
    have hml : m.length < 17592186044416 := by omega
    rw [List.map_cons, Int.toNat_natCast] at hI
    refine Or.inl ⟨m ++ [((dif u (2 ^ j) : Nat) : Int)], ⟨by rw [List.append_assoc]; exact hI, by simp [hm]⟩, fun k => ?_⟩
    refine Ev.shift ?_
    simp only [trustquorumlaw11_BlockingMeets.l0, h0, hlt, hwq, h5, hml, if_true, Go.Proofs.YtkjlcbfjllpcnaaW.PrintWords.rd, hrd, shl_nat' hj]
    rw [andNot_nat (a := u) (b := 2 ^ j) (by omega) (by omega)]
    exact k
end Go.Proofs.Ytkjlcbfjllpcnaa.Pure
