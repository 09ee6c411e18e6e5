/- For every ballot and two numbers the law TermBegins answers true: plain lists and numbers. -/
import Derived.Test.YthhdfefobblmkaaPx41
import Derived.Test.YthhdfefobblmkaaPx29
import Derived.Test.YthhdfefobblmkaaPx38
import Derived.Test.YthhdfefobblmkaaPx39
import Derived.Test.YthhdfefobblmkaaPx40
import Derived.Test.YthhdfefobblmkaaPx27
import Derived.Test.YthhdfefobblmkaaL0
namespace Go.Proofs.Ythhdfefobblmkaa.Pure
open Go.RowKit Go.Proofs.Ythhdfefobblmkaa.P Go.Proofs.YthhdfefobblmkaaW.PrintWords Go.Proofs.YthhdfefobblmkaaG Go.Proofs.Ythhdfefobblmkaa.Plain
set_option linter.unusedSimpArgs false
def beginS (t v r : Int) (l : List Int) (me n : Int) : Int × Int × Int × List Int × Int :=
  if fineB t v r l = true then (if (1 ≤ n ∧ n ≤ 7) ∧ (1 ≤ me ∧ me ≤ n) then (if t = 1000000 then (0, 0, 0, [], 2) else (t + 1, me, (if n = 1 then 3 else 2), [me], 0)) else (0, 0, 0, [], 1)) else (0, 0, 0, [], 70)
def hearS (t v r : Int) (l : List Int) (q : Int) : Int × Int × Int × List Int × Int :=
  if fineB t v r l = true then (if 1 ≤ q ∧ q ≤ 1000000 then ((heardS t v r l q).1, (heardS t v r l q).2.1, (heardS t v r l q).2.2.1, (heardS t v r l q).2.2.2, 0) else (0, 0, 0, [], 1)) else (0, 0, 0, [], 70)
theorem fine_t {t v r : Int} {l : List Int} (h : fineB t v r l = true) : 0 ≤ t ∧ t ≤ 1000000 := by
  unfold fineB at h
  simp only [Bool.and_eq_true, decide_eq_true_eq] at h
  exact h.1
theorem begin_ev (t v r : Int) (l : List Int) (me n : Int) (hl : l.length ≤ 9223372036854775807) : Ev (fun k => term_Begin.f k t v r l me n) (beginS t v r l me n) := by
  unfold term_Begin.f beginS
  refine Ev.bind (fine_ev t v r l hl) ?_
  by_cases hf : fineB t v r l = true
  rotate_left
  · refine Ev.neg hf ?_; rw [if_neg hf]; exact Ev.now _
  refine Ev.pos hf ?_
  rw [if_pos hf]
  have hno : ∀ b, b = true → Ev (fun k => term_Begin.j0 k me n b t v r l) (0, 0, 0, [], 1) := fun b hb => by
    subst hb
    exact Ev.step (fun k => by simp only [term_Begin.j0]; rfl) (Ev.pos (by simp) (Ev.now _))
  refine Ev.bind0 (within_f _ _ _) ?_
  by_cases h1 : 1 ≤ n ∧ n ≤ 7
  rotate_left
  · refine Ev.neg (by simpa using h1) ?_
    rw [if_neg (fun h => h1 h.1)]; exact hno _ rfl
  refine Ev.pos (by simpa using h1) (Ev.bind0 (within_f _ _ _) ?_)
  by_cases h2 : 1 ≤ me ∧ me ≤ n
  rotate_left
  · rw [if_neg (fun h => h2 h.2)]
    exact hno _ (by simp [h2])
  rw [if_pos ⟨h1, h2⟩]
  have hb : (!decide (1 ≤ me ∧ me ≤ n)) = false := by simp [h2]
  rw [hb]
  refine Ev.step (fun k => by simp only [term_Begin.j0]; rfl) (Ev.neg (by simp) ?_)
  by_cases h3 : t = 1000000
  · refine Ev.pos h3 ?_; rw [if_pos h3]; exact Ev.now _
  refine Ev.neg h3 ?_
  rw [if_neg h3]
  have ht := fine_t hf
  have hw : wrap64 (t + 1) = t + 1 := w64 (by omega) (by omega)
  have hlead : term_lead.f (wrap64 (t + 1)) me 2 [me] n = some (t + 1, me, (if n = 1 then 3 else 2), [me]) := by
    unfold term_lead.f
    have hd : wrap64 (Int.tdiv n 2) = n / 2 := by
      rw [Int.tdiv_eq_ediv_of_nonneg (by omega), w64 (by omega) (by omega)]
    rw [hw, hd]
    by_cases h4 : n = 1
    · subst h4; rfl
    · rw [if_neg h4, if_neg (by simp only [List.length_cons, List.length_nil]; omega)]
  exact Ev.bind0 hlead (Ev.now _)
theorem refBegin_ev (t v r : Int) (l : List Int) (me n : Int) (hl : l.length ≤ 9223372036854775807) : Ev (fun k => rialtoref07_Begin.f k t v r l me n) (beginS t v r l me n) := by
  unfold rialtoref07_Begin.f beginS
  refine Ev.bind (may_ev t v r l hl) ?_
  by_cases hf : fineB t v r l = true
  rotate_left
  · refine Ev.neg hf ?_; rw [if_neg hf]; exact Ev.now _
  refine Ev.pos hf ?_
  rw [if_pos hf]
  have ht := fine_t hf
  have hw : wrap64 (t + 1) = t + 1 := w64 (by omega) (by omega)
  rw [hw]
  by_cases h1 : (1 ≤ n ∧ n ≤ 7) ∧ (1 ≤ me ∧ me ≤ n)
  · refine Ev.pos h1 ?_
    rw [if_pos h1]
    by_cases h3 : t = 1000000
    · refine Ev.pos h3 ?_; rw [if_pos h3]; exact Ev.now _
    · refine Ev.neg h3 ?_; rw [if_neg h3]; exact Ev.now _
  · refine Ev.neg h1 ?_
    rw [if_neg h1]; exact Ev.now _
theorem hear_ev (t v r : Int) (l : List Int) (q : Int) (hl : l.length < 17592186044416) : Ev (fun k => term_Hear.f k t v r l q) (hearS t v r l q) := by
  unfold term_Hear.f hearS
  refine Ev.bind (fine_ev t v r l (by omega)) ?_
  by_cases hf : fineB t v r l = true
  rotate_left
  · refine Ev.neg hf ?_; rw [if_neg hf]; exact Ev.now _
  refine Ev.pos hf (Ev.bind0 (within_f _ _ _) ?_)
  rw [if_pos hf]
  by_cases h1 : 1 ≤ q ∧ q ≤ 1000000
  · refine Ev.pos (by simpa using h1) (Ev.bind0 (heard_f t v r l q hl) ?_)
    rw [if_pos h1]; exact Ev.now _
  · refine Ev.neg (by simpa using h1) ?_
    rw [if_neg h1]; exact Ev.now _
theorem refHear_ev (t v r : Int) (l : List Int) (q : Int) (hl : l.length < 17592186044416) : Ev (fun k => rialtoref07_Hear.f k t v r l q) (hearS t v r l q) := by
  unfold rialtoref07_Hear.f hearS
  refine Ev.bind (may_ev t v r l (by omega)) ?_
  by_cases hf : fineB t v r l = true
  rotate_left
  · refine Ev.neg hf ?_; rw [if_neg hf]; exact Ev.now _
  refine Ev.pos hf (Ev.bind0 (refWithin_f _ _ _) ?_)
  rw [if_pos hf]
  by_cases h1 : 1 ≤ q ∧ q ≤ 1000000
  · refine Ev.pos (by simpa using h1) (Ev.bind0 (refHeard_f t v r l q hl) ?_)
    rw [if_pos h1]; exact Ev.now _
  · refine Ev.neg (by simpa using h1) ?_
    rw [if_neg h1]; exact Ev.now _
theorem begin_len (t v r : Int) (l : List Int) (me n : Int) : (beginS t v r l me n).2.2.2.1.length ≤ 1 := by
  unfold beginS
  split
  · split
    · split <;> simp
    · simp
  · simp
theorem hear_len (t v r : Int) (l : List Int) (q : Int) (hl : l.length < 17592186044416) : (hearS t v r l q).2.2.2.1.length < 17592186044416 := by
  unfold hearS heardS
  split
  · split
    · split
      · simp
      · exact hl
    · simp
  · simp
theorem TermBegins : rialtolaw07_TermBegins.Pure := by
  intro x me n hB hme hn
  refine Ev.rounds (g := fun k => rialtolaw07_TermBegins.f k x.f0.f0 x.f0.f1 x.f1 x.f2 me n) ?_
  have hl : x.f2.length < 17592186044416 := by
    obtain ⟨_, _, h, _⟩ := hB
    omega
  generalize x.f0.f0 = t at *
  generalize x.f0.f1 = v at *
  generalize x.f1 = r at *
  generalize x.f2 = l at *
  unfold rialtolaw07_TermBegins.f
  refine Ev.bind0 (copy_f t v r l hl) ?_
  refine Ev.bind (begin_ev t v r l me n (by omega)) (Ev.bind (refBegin_ev t v r l me n (by omega)) (Ev.bind (hear_ev t v r l n hl) (Ev.bind (refHear_ev t v r l n hl) ?_)))
  have h1 := begin_len t v r l me n
  have h2 := hear_len t v r l n hl
  obtain ⟨z1, hz1⟩ := spoil_ev (beginS t v r l me n).1 (beginS t v r l me n).2.1 (beginS t v r l me n).2.2.1 (beginS t v r l me n).2.2.2.1 (by omega)
  obtain ⟨z2, hz2⟩ := spoil_ev (hearS t v r l n).1 (hearS t v r l n).2.1 (hearS t v r l n).2.2.1 (hearS t v r l n).2.2.2.1 (by omega)
  refine Ev.bind hz1 (Ev.bind hz2 ?_)
  exact Ev.bind (same_ev _ _ _ _ (by omega)) (Ev.pos rfl (Ev.pos rfl (Ev.bind (same_ev _ _ _ _ (by omega)) (Ev.pos rfl (Ev.pos rfl (Ev.bind (same_ev _ _ _ _ (show l.length ≤ 9223372036854775807 by omega)) (Ev.pos rfl (Ev.bind live_ev (Ev.pos rfl (Ev.now _))))))))))
end Go.Proofs.Ythhdfefobblmkaa.Pure
