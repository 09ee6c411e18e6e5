/- For every ballot, question and mark the law TermGrants answers true: plain lists and numbers. (The first part is L2's text: one file for both, for the claim's number of files.) -/
import Derived.Test.YthhdfefobblmkaaPx12
import Derived.Test.YthhdfefobblmkaaPx19
import Derived.Test.YthhdfefobblmkaaPx9
import Derived.Test.YthhdfefobblmkaaPx17
import Derived.Test.YthhdfefobblmkaaPx13
import Derived.Test.YthhdfefobblmkaaPx4
import Derived.Test.YthhdfefobblmkaaPx31
import Derived.Test.YthhdfefobblmkaaL0
namespace Go.Proofs.Ythhdfefobblmkaa.Plain
open Go.RowKit Go.Proofs.Ythhdfefobblmkaa.P Go.Proofs.YthhdfefobblmkaaW.PrintWords Go.Proofs.YthhdfefobblmkaaG
set_option linter.unusedSimpArgs false
set_option linter.unusedVariables false
def markB (a b : Int) : Bool := decide (0 ≤ a ∧ a ≤ 1000000) && (decide (0 ≤ b ∧ b ≤ 1000000) && ((a == 0) == (b == 0)))
def lessB (a b c d : Int) : Bool := if b = d then decide (a < c) else decide (b < d)
theorem less_f (a b c d : Int) : term_Less.f a b c d = some (lessB a b c d) := by
  unfold term_Less.f lessB
  split <;> rfl
theorem refLess_f (a b c d : Int) : rialtoref07_Less.f a b c d = some (lessB a b c d) := by
  unfold rialtoref07_Less.f lessB
  by_cases h : b = d
  · rw [if_neg (by omega), if_pos h, if_pos h]
  · rw [if_neg h, if_neg h]
    by_cases h2 : b < d
    · rw [if_pos h2, decide_eq_true h2]
    · rw [if_neg h2, decide_eq_false h2]
theorem mark_f (a b : Int) : term_isMark.f a b = some (markB a b) := by
  unfold term_isMark.f markB
  rw [within_f, within_f]
  simp only [Option.bind_some]
  cases decide (0 ≤ a ∧ a ≤ 1000000) <;> cases decide (0 ≤ b ∧ b ≤ 1000000) <;> simp
theorem refMark_f (a b : Int) : rialtoref07_Mark.f a b = some (markB a b) := by
  unfold rialtoref07_Mark.f markB
  rw [refWithin_f, refWithin_f]
  simp only [Option.bind_some]
  cases decide (0 ≤ a ∧ a ≤ 1000000) <;> cases decide (0 ≤ b ∧ b ≤ 1000000) <;> simp
def grantS (t v r : Int) (l : List Int) (a q m n s u : Int) : Int × Int × Int × List Int × Bool × Int :=
  if fineB t v r l = true then (if (1 ≤ a ∧ a ≤ 7) ∧ (1 ≤ q ∧ q ≤ 1000000) ∧ markB m n = true ∧ markB s u = true then
    (if (heardS t v r l q).1 = q ∧ (heardS t v r l q).2.2.1 = 1 ∧ ((heardS t v r l q).2.1 = 0 ∨ (heardS t v r l q).2.1 = a) ∧ lessB m n s u = false then ((heardS t v r l q).1, a, (heardS t v r l q).2.2.1, (heardS t v r l q).2.2.2, true, 0) else ((heardS t v r l q).1, (heardS t v r l q).2.1, (heardS t v r l q).2.2.1, (heardS t v r l q).2.2.2, false, 0))
    else (0, 0, 0, [], false, 1)) else (0, 0, 0, [], false, 70)
theorem heard_ge (t v r : Int) (l : List Int) (q : Int) : (heardS t v r l q).1 ≥ q := by
  unfold heardS
  split <;> simp <;> omega
theorem grant_ev (t v r : Int) (l : List Int) (a q m n s u : Int) (hl : l.length < 17592186044416) : Ev (fun k => term_Grant.f k t v r l a q m n s u) (grantS t v r l a q m n s u) := by
  unfold term_Grant.f grantS
  refine Ev.bind (fine_ev t v r l (by omega)) ?_
  by_cases hf : fineB t v r l = true
  rotate_left
  · refine Ev.neg hf ?_; rw [if_neg hf]; exact Ev.now _
  refine Ev.pos hf ?_
  rw [if_pos hf]
  have hno : ∀ b, b = true → Ev (fun k => term_Grant.j0 k b t v r l a q m n s u) (0, 0, 0, [], false, 1) := fun b hb => by
    subst hb
    exact Ev.step (fun k => by simp only [term_Grant.j0]; rfl) (Ev.pos (by simp) (Ev.now _))
  refine Ev.bind0 (within_f _ _ _) ?_
  by_cases h1 : 1 ≤ a ∧ a ≤ 7
  rotate_left
  · refine Ev.neg (by simpa using h1) ?_
    rw [if_neg (fun h => h1 h.1)]; exact hno _ rfl
  refine Ev.pos (by simpa using h1) (Ev.bind0 (within_f _ _ _) ?_)
  by_cases h2 : 1 ≤ q ∧ q ≤ 1000000
  rotate_left
  · refine Ev.neg (by simpa using h2) ?_
    rw [if_neg (fun h => h2 h.2.1)]; exact hno _ rfl
  refine Ev.pos (by simpa using h2) (Ev.bind0 (mark_f _ _) ?_)
  by_cases h3 : markB m n = true
  rotate_left
  · refine Ev.neg h3 ?_
    rw [if_neg (fun h => h3 h.2.2.1)]; exact hno _ rfl
  refine Ev.pos h3 (Ev.bind0 (mark_f _ _) ?_)
  by_cases h4 : markB s u = true
  rotate_left
  · rw [if_neg (fun h => h4 h.2.2.2)]; exact hno _ (by simp [h4])
  rw [if_pos ⟨h1, h2, h3, h4⟩, h4]
  refine Ev.step (fun k => by simp only [term_Grant.j0]; rfl) (Ev.neg (by simp) (Ev.bind0 (heard_f t v r l q hl) ?_))
  have hge := heard_ge t v r l q
  generalize (heardS t v r l q) = h at hge ⊢
  obtain ⟨x, y, z, w⟩ := h
  simp only at hge ⊢
  have hj2 : ∀ b, Ev (fun k => term_Grant.j2 k b a q m n x y z w) (if b = true then (x, y, z, w, false, 0) else (x, a, z, w, true, 0)) := fun b => by
    refine Ev.step (fun k => by simp only [term_Grant.j2]; rfl) ?_
    by_cases hb : b = true
    · refine Ev.pos hb ?_; rw [if_pos hb]; exact Ev.now _
    · refine Ev.neg hb ?_; rw [if_neg hb]; exact Ev.now _
  have hj1 : ∀ b, b = decide (y = 0 ∨ y = a) → Ev (fun k => term_Grant.j1 k b a q m n s u x y z w) (if x = q ∧ z = 1 ∧ (y = 0 ∨ y = a) ∧ lessB m n s u = false then (x, a, z, w, true, 0) else (x, y, z, w, false, 0)) := fun b hb => by
    refine Ev.step (fun k => by simp only [term_Grant.j1]; rfl) ?_
    by_cases g1 : x > q
    · refine Ev.pos g1 ?_
      rw [if_neg (by omega)]; simpa using hj2 true
    refine Ev.neg g1 ?_
    by_cases g2 : z = 1
    rotate_left
    · refine Ev.neg g2 ?_
      rw [if_neg (fun h => g2 h.2.1)]; simpa using hj2 true
    refine Ev.pos g2 ?_
    by_cases g3 : y = 0 ∨ y = a
    rotate_left
    · refine Ev.neg (by rw [hb]; simpa using g3) ?_
      rw [if_neg (fun h => g3 h.2.2.1)]; simpa using hj2 true
    refine Ev.pos (by rw [hb]; simpa using g3) (Ev.bind0 (less_f _ _ _ _) ?_)
    cases hless : lessB m n s u with
    | true => rw [if_neg (by simp)]; simpa using hj2 true
    | false => rw [if_pos ⟨by omega, g2, g3, rfl⟩]; simpa using hj2 false
  by_cases hy : y = 0
  · exact Ev.pos hy (hj1 _ (by simp [hy]))
  · exact Ev.neg hy (hj1 _ (by rw [Bool.eq_iff_iff]; simp [hy]))
theorem refGrant_ev (t v r : Int) (l : List Int) (a q m n s u : Int) (hl : l.length < 17592186044416) : Ev (fun k => rialtoref07_Grant.f k t v r l a q m n s u) (grantS t v r l a q m n s u) := by
  unfold rialtoref07_Grant.f grantS
  refine Ev.bind (may_ev t v r l (by omega)) ?_
  by_cases hf : fineB t v r l = true
  rotate_left
  · refine Ev.neg hf ?_; rw [if_neg hf]; exact Ev.now _
  refine Ev.pos hf ?_
  rw [if_pos hf]
  have hno : ∀ b, b = true → Ev (fun k => rialtoref07_Grant.j0 k b t v r l a q m n s u) (0, 0, 0, [], false, 1) := fun b hb => by
    subst hb
    exact Ev.step (fun k => by simp only [rialtoref07_Grant.j0]; rfl) (Ev.pos (by simp) (Ev.now _))
  refine Ev.bind0 (refWithin_f _ _ _) ?_
  by_cases h1 : 1 ≤ a ∧ a ≤ 7
  rotate_left
  · refine Ev.neg (by simpa using h1) ?_
    rw [if_neg (fun h => h1 h.1)]; exact hno _ rfl
  refine Ev.pos (by simpa using h1) (Ev.bind0 (refWithin_f _ _ _) ?_)
  by_cases h2 : 1 ≤ q ∧ q ≤ 1000000
  rotate_left
  · refine Ev.neg (by simpa using h2) ?_
    rw [if_neg (fun h => h2 h.2.1)]; exact hno _ rfl
  refine Ev.pos (by simpa using h2) (Ev.bind0 (refMark_f _ _) ?_)
  by_cases h3 : markB m n = true
  rotate_left
  · refine Ev.neg h3 ?_
    rw [if_neg (fun h => h3 h.2.2.1)]; exact hno _ rfl
  refine Ev.pos h3 (Ev.bind0 (refMark_f _ _) ?_)
  by_cases h4 : markB s u = true
  rotate_left
  · rw [if_neg (fun h => h4 h.2.2.2)]; exact hno _ (by simp [h4])
  rw [if_pos ⟨h1, h2, h3, h4⟩, h4]
  refine Ev.step (fun k => by simp only [rialtoref07_Grant.j0]; rfl) (Ev.neg (by simp) (Ev.bind0 (refHeard_f t v r l q hl) ?_))
  generalize (heardS t v r l q) = h
  obtain ⟨x, y, z, w⟩ := h
  simp only
  have hj1 : ∀ b, Ev (fun k => rialtoref07_Grant.j1 k b a q m n x y z w) (if b = true then (x, y, z, w, false, 0) else (x, a, z, w, true, 0)) := fun b => by
    refine Ev.step (fun k => by simp only [rialtoref07_Grant.j1]; rfl) ?_
    by_cases hb : b = true
    · refine Ev.pos hb ?_; rw [if_pos hb]; exact Ev.now _
    · refine Ev.neg hb ?_; rw [if_neg hb]; exact Ev.now _
  have hl' : x = q → z = 1 → (y = 0 ∨ y = a) → Ev (fun k => rialtoref07_Grant.j1 k (lessB m n s u) a q m n x y z w) (if x = q ∧ z = 1 ∧ (y = 0 ∨ y = a) ∧ lessB m n s u = false then (x, a, z, w, true, 0) else (x, y, z, w, false, 0)) := fun g1 g2 g3 => by
    have := hj1 (lessB m n s u)
    cases hless : lessB m n s u with
    | true => rw [hless] at this; rw [if_neg (by simp)]; simpa using this
    | false => rw [hless] at this; rw [if_pos ⟨g1, g2, g3, rfl⟩]; simpa using this
  by_cases g1 : x = q
  rotate_left
  · refine Ev.neg g1 ?_
    rw [if_neg (fun h => g1 h.1)]; simpa using hj1 true
  refine Ev.pos g1 ?_
  by_cases g2 : z = 1
  rotate_left
  · refine Ev.neg g2 ?_
    rw [if_neg (fun h => g2 h.2.1)]; simpa using hj1 true
  refine Ev.pos g2 ?_
  by_cases g3 : y = 0
  · exact Ev.pos g3 (Ev.bind0 (refLess_f _ _ _ _) (hl' g1 g2 (.inl g3)))
  refine Ev.neg g3 ?_
  by_cases g4 : y = a
  · exact Ev.pos g4 (Ev.bind0 (refLess_f _ _ _ _) (hl' g1 g2 (.inr g4)))
  · refine Ev.neg g4 ?_
    rw [if_neg (fun h => by rcases h.2.2.1 with e | e; exact g3 e; exact g4 e)]; simpa using hj1 true
theorem grant_len (t v r : Int) (l : List Int) (a q m n s u : Int) (hl : l.length < 17592186044416) : (grantS t v r l a q m n s u).2.2.2.1.length ≤ 9223372036854775807 := by
  have hh : (heardS t v r l q).2.2.2.length < 17592186044416 := by
    unfold heardS
    split
    · simp
    · exact hl
  unfold grantS
  split
  · split
    · split
      · simp only; omega
      · simp only; omega
    · simp
  · simp
end Go.Proofs.Ythhdfefobblmkaa.Plain
namespace Go.Proofs.Ythhdfefobblmkaa.Pure
open Go.RowKit Go.Proofs.Ythhdfefobblmkaa.P Go.Proofs.YthhdfefobblmkaaW.PrintWords Go.Proofs.YthhdfefobblmkaaG Go.Proofs.Ythhdfefobblmkaa.Plain
set_option linter.unusedSimpArgs false
theorem TermGrants : rialtolaw07_TermGrants.Pure := by
  intro x y z hB hy hz
  refine Ev.rounds (g := fun k => rialtolaw07_TermGrants.f k x.f0.f0 x.f0.f1 x.f1 x.f2 y.f0 y.f1 y.f2.f0 y.f2.f1 z.f0 z.f1) ?_
  have hl : x.f2.length < 17592186044416 := by
    obtain ⟨_, _, h, _⟩ := hB
    omega
  generalize x.f0.f0 = t at *
  generalize x.f0.f1 = v at *
  generalize x.f1 = r at *
  generalize x.f2 = l at *
  generalize y.f0 = a at *
  generalize y.f1 = q at *
  generalize y.f2.f0 = m at *
  generalize y.f2.f1 = n at *
  generalize z.f0 = s at *
  generalize z.f1 = u at *
  unfold rialtolaw07_TermGrants.f
  have hc := grant_len t v r l a q m n s u hl
  refine Ev.bind0 (copy_f t v r l hl) ?_
  refine Ev.bind (grant_ev t v r l a q m n s u hl) ?_
  refine Ev.bind (refGrant_ev t v r l a q m n s u hl) ?_
  obtain ⟨z1, hz1⟩ := spoil_ev (grantS t v r l a q m n s u).1 (grantS t v r l a q m n s u).2.1 (grantS t v r l a q m n s u).2.2.1 (grantS t v r l a q m n s u).2.2.2.1 hc
  refine Ev.bind hz1 ?_
  refine Ev.bind (same_ev _ _ _ _ hc) ?_
  refine Ev.pos rfl ?_
  refine Ev.pos rfl ?_
  refine Ev.bind (same_ev _ _ _ _ (show l.length ≤ 9223372036854775807 by omega)) ?_
  refine Ev.pos rfl ?_
  refine Ev.bind0 (less_f _ _ _ _) ?_
  refine Ev.pos (refLess_f _ _ _ _) ?_
  refine Ev.bind0 (less_f _ _ _ _) ?_
  refine Ev.pos (refLess_f _ _ _ _) ?_
  refine Ev.bind live_ev ?_
  exact Ev.pos rfl (Ev.now _)
end Go.Proofs.Ythhdfefobblmkaa.Pure
