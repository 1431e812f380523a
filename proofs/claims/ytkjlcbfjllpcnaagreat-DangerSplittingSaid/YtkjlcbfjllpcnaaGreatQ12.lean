/- Proof of the statement DangerSplitting: part 2 of 9, what it computes and why that answers true. -/
import Derived.Test.YtkjlcbfjllpcnaaGreatQ11
import Derived.Test.YtkjlcbfjllpcnaaGreatRows
import Derived.JoinedOf
set_option linter.unusedVariables false
set_option linter.unusedSimpArgs false
namespace Go.Proofs.YtkjlcbfjllpcnaaGreat.dangerSplitting
set_option linter.unusedVariables false
abbrev Fa (x : Program → FuncId → Func → ChangeSpec → OpenClaim → Bool) : Prop := x Tryz.pinned.checked.prog 5 Tryz.f5 Rows.dangerSplittingSpec Rows.dangerSplittingRow = true
theorem fact0 : Fa fun P f fn s c => c.wf (OpenSpec.ofChange s) := by delta Fa; kernel_rfl
theorem fact1 : Fa fun P f fn s c => laidOutB P := by delta Fa; kernel_rfl
theorem fact2 : Fa fun P f fn s c => mapsRowed P := by delta Fa; kernel_rfl
theorem fact3 : Fa fun P f fn s c => fn.params.all (P.readableRec ·) := by delta Fa; kernel_rfl
theorem fact4 : Fa fun P f fn s c => namedTie P c.named s.vars := by delta Fa; kernel_rfl
theorem fact5 : Fa fun P f fn s c => (c.stops == []) := by delta Fa; kernel_rfl
theorem fact6 : Fa fun P f fn s c => (P.stops == []) := by delta Fa; kernel_rfl
theorem fact7 : Fa fun P f fn s c => (c.knobs == []) := by delta Fa; kernel_rfl
theorem fact8 : Fa fun P f fn s c => (P.stopKnobs == []) := by delta Fa; kernel_rfl
theorem fact9 : Fa fun P f fn s c => (c.inPlace == P.inPlace f) := by delta Fa; kernel_rfl
theorem fact10 : Fa fun P f fn s c => (c.unfollowed == P.unfollowed f) := by delta Fa; kernel_rfl
theorem fact11 : Fa fun P f fn s c => (c.recurses == P.recurses f) := by delta Fa; kernel_rfl
theorem fact12 : Fa fun P f fn s c => (c.named == P.varsNamed f) := by delta Fa; kernel_rfl
theorem fact13 : Fa fun P f fn s c => (c.maps == (fn.params.toList ++ s.plain.varTypes P).any (P.mapsRec ·)) := by delta Fa; kernel_rfl
theorem fact14 : Fa fun P f fn s c => (c.ifaces == (fn.params.toList ++ s.plain.varTypes P).any (P.ifacesRec ·)) := by delta Fa; kernel_rfl
theorem fact15 : Fa fun P f fn s c => (c.mapsOut == P.mapsAmong fn.resultTypes.toList) := by delta Fa; kernel_rfl
theorem fact16 : Fa fun P f fn s c => (c.loops == (fn.params.toList ++ s.plain.varTypes P).any (P.loopsFrom ·)) := by delta Fa; kernel_rfl
theorem fact17 : Fa fun P f fn s c => (c.wideKeys == (fn.params.toList ++ s.plain.varTypes P ++ fn.resultTypes.toList).any (P.wideKeysFrom ·)) := by delta Fa; kernel_rfl
theorem fact18 : Fa fun P f fn s c => s.vars.all (P.varReadable ·) := by delta Fa; kernel_rfl
theorem fact19 : Fa fun P f fn s c => fn.resultTypes.all (fun t => P.readableRec t && decide (t < P.types.size)) := by delta Fa; kernel_rfl
theorem fact20 : Fa fun P f fn s c => (c.ifacesOut == fn.resultTypes.toList.any (P.ifacesRec ·)) := by delta Fa; kernel_rfl
theorem fact21 : Fa fun P f fn s c => (c.loopsOut == fn.resultTypes.toList.any (P.loopsFrom ·)) := by delta Fa; kernel_rfl
theorem fact22 : Fa fun P f fn s c => (c.plainKeys == P.plainKeys) := by delta Fa; kernel_rfl
theorem fact23 : Fa fun P f fn s c => c.shortTexts.isNone := by delta Fa; kernel_rfl
theorem fact24 : Fa fun P f fn s c => P.stopsHeard := by delta Fa; kernel_rfl
theorem fact25 : Fa fun P f fn s c => P.mayEnter := by delta Fa; kernel_rfl
theorem fact26 : Fa fun P f fn s c => (c.lifted == P.liftsFinal) := by delta Fa; kernel_rfl
theorem fact27 : Fa fun P f fn s c => (P.make == some c.make) := by delta Fa; kernel_rfl
theorem fact28 : Fa fun P f fn s c => (c.kinds == (if c.domain.isEmpty then [] else fn.params.toList.map fun t => match P.underlying t with | some (.int k) => some k | _ => none)) := by delta Fa; kernel_rfl
theorem fact29 : Fa fun P f fn s c => (c.pinned == c.pinnedBy) := by delta Fa; kernel_rfl
theorem fact30 : Fa fun P f fn s c => (c.veiled == (fn.params.toList ++ s.plain.varTypes P ++ fn.resultTypes.toList).any (P.veiledRec ·)) := by delta Fa; kernel_rfl
theorem fact31 : Fa fun P f fn s c => c.veiledFits P fn.params.toList (fn.params.toList ++ s.plain.varTypes P ++ fn.resultTypes.toList) := by delta Fa; kernel_rfl
theorem and_two {a b : Bool} (ha : a = true) (hb : b = true) : (a && b) = true := by rw [ha, hb]; rfl
theorem closed_of {P : Program} {f : FuncId} {fn : Func} {s : ChangeSpec} {c : OpenClaim} (h0 : (c.wf (OpenSpec.ofChange s) : Bool) = true) (h1 : (laidOutB P : Bool) = true) (h2 : (mapsRowed P : Bool) = true) (h3 : (fn.params.all (P.readableRec ·) : Bool) = true) (h4 : (namedTie P c.named s.vars : Bool) = true) (h5 : ((c.stops == []) : Bool) = true) (h6 : ((P.stops == []) : Bool) = true) (h7 : ((c.knobs == []) : Bool) = true) (h8 : ((P.stopKnobs == []) : Bool) = true) (h9 : ((c.inPlace == P.inPlace f) : Bool) = true) (h10 : ((c.unfollowed == P.unfollowed f) : Bool) = true) (h11 : ((c.recurses == P.recurses f) : Bool) = true) (h12 : ((c.named == P.varsNamed f) : Bool) = true) (h13 : ((c.maps == (fn.params.toList ++ s.plain.varTypes P).any (P.mapsRec ·)) : Bool) = true) (h14 : ((c.ifaces == (fn.params.toList ++ s.plain.varTypes P).any (P.ifacesRec ·)) : Bool) = true) (h15 : ((c.mapsOut == P.mapsAmong fn.resultTypes.toList) : Bool) = true) (h16 : ((c.loops == (fn.params.toList ++ s.plain.varTypes P).any (P.loopsFrom ·)) : Bool) = true) (h17 : ((c.wideKeys == (fn.params.toList ++ s.plain.varTypes P ++ fn.resultTypes.toList).any (P.wideKeysFrom ·)) : Bool) = true) (h18 : (s.vars.all (P.varReadable ·) : Bool) = true) (h19 : (fn.resultTypes.all (fun t => P.readableRec t && decide (t < P.types.size)) : Bool) = true) (h20 : ((c.ifacesOut == fn.resultTypes.toList.any (P.ifacesRec ·)) : Bool) = true) (h21 : ((c.loopsOut == fn.resultTypes.toList.any (P.loopsFrom ·)) : Bool) = true) (h22 : ((c.plainKeys == P.plainKeys) : Bool) = true) (h23 : (c.shortTexts.isNone : Bool) = true) (h24 : (P.stopsHeard : Bool) = true) (h25 : (P.mayEnter : Bool) = true) (h26 : ((c.lifted == P.liftsFinal) : Bool) = true) (h27 : ((P.make == some c.make) : Bool) = true) (h28 : ((c.kinds == (if c.domain.isEmpty then [] else fn.params.toList.map fun t => match P.underlying t with | some (.int k) => some k | _ => none)) : Bool) = true) (h29 : ((c.pinned == c.pinnedBy) : Bool) = true) (h30 : ((c.veiled == (fn.params.toList ++ s.plain.varTypes P ++ fn.resultTypes.toList).any (P.veiledRec ·)) : Bool) = true) (h31 : (c.veiledFits P fn.params.toList (fn.params.toList ++ s.plain.varTypes P ++ fn.resultTypes.toList) : Bool) = true) : joinedFacts P f fn s c = true := by
  unfold joinedFacts
  exact (and_two (and_two (and_two (and_two (and_two (and_two (and_two (and_two (and_two (and_two (and_two (and_two (and_two (and_two (and_two (and_two (and_two (and_two (and_two (and_two (and_two (and_two (and_two (and_two (and_two (and_two (and_two (and_two (and_two (and_two (and_two h0 h1) h2) h3) h4) h5) h6) h7) h8) h9) h10) h11) h12) h13) h14) h15) h16) h17) h18) h19) h20) h21) h22) h23) h24) h25) h26) h27) h28) h29) h30) h31)
theorem closed : joinedFacts Tryz.pinned.checked.prog 5 Tryz.f5 Rows.dangerSplittingSpec Rows.dangerSplittingRow = true := closed_of fact0 fact1 fact2 fact3 fact4 fact5 fact6 fact7 fact8 fact9 fact10 fact11 fact12 fact13 fact14 fact15 fact16 fact17 fact18 fact19 fact20 fact21 fact22 fact23 fact24 fact25 fact26 fact27 fact28 fact29 fact30 fact31
end Go.Proofs.YtkjlcbfjllpcnaaGreat.dangerSplitting
