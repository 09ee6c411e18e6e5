/- For every three marks the law TermOrder answers true: plain numbers. -/
import Derived.Test.YthhdfefobblmkaaPx37
import Derived.Test.YthhdfefobblmkaaPx30
import Derived.Test.YthhdfefobblmkaaPx4
import Derived.Test.YthhdfefobblmkaaG2
namespace Go.Proofs.Ythhdfefobblmkaa.Pure
open Go.RowKit Go.Proofs.Ythhdfefobblmkaa.P Go.Proofs.YthhdfefobblmkaaW.PrintWords Go.Proofs.YthhdfefobblmkaaG
set_option linter.unusedSimpArgs false
set_option maxRecDepth 100000 in
theorem live_ev0 : Ev (fun k => rialtolaw07_live.f k) true := Ev.of (k := 24) rialtolaw07_live.mono (by kernel_rfl)
def ltB (a b c d : Int) : Bool := if b = d then decide (a < c) else decide (b < d)
theorem less_f (a b c d : Int) : term_Less.f a b c d = some (ltB a b c d) := by
  unfold term_Less.f ltB
  split <;> rfl
theorem TermOrder : rialtolaw07_TermOrder.Pure := by
  intro x y z hx hy hz
  refine Ev.rounds (g := fun k => rialtolaw07_TermOrder.f k x.f0 x.f1 y.f0 y.f1 z.f0 z.f1) ?_
  obtain ⟨a, b⟩ := x
  obtain ⟨c, d⟩ := y
  obtain ⟨e, f⟩ := z
  simp only
  unfold rialtolaw07_TermOrder.f
  have hj : ∀ v w, w = false → v = ltB a b c d → Ev (fun k => rialtolaw07_TermOrder.j0 k v w a b c d e f) true := fun v w hw hv => by
    subst hw
    subst hv
    refine Ev.step (fun k => by simp only [rialtolaw07_TermOrder.j0]; rfl) (Ev.neg (by simp) ?_)
    by_cases h1 : ltB a b c d = true
    rotate_left
    · exact Ev.neg h1 (Ev.bind live_ev0 (Ev.now _))
    refine Ev.pos h1 (Ev.bind0 (less_f _ _ _ _) ?_)
    by_cases h2 : ltB c d e f = true
    rotate_left
    · exact Ev.neg h2 (Ev.bind live_ev0 (Ev.now _))
    refine Ev.pos h2 (Ev.bind0 (less_f _ _ _ _) (Ev.pos ?_ (Ev.bind live_ev0 (Ev.now _))))
    unfold ltB at h1 h2 ⊢
    split at h1 <;> split at h2 <;> split <;> simp only [decide_eq_true_eq] at h1 h2 ⊢ <;> omega
  refine Ev.bind0 (less_f _ _ _ _) (Ev.bind0 (less_f _ _ _ _) ?_)
  have hne : (!(a == c) || (!(b == d))) = (ltB a b c d || ltB c d a b) := by
    unfold ltB
    by_cases q1 : b = d
    · by_cases q2 : a = c
      · simp [q1, q2]
      · have q3 : a < c ∨ c < a := by omega
        have : (a == c) = false := by simp [q2]
        rcases q3 with q3 | q3 <;> simp [q1, q2, q3]
    · have q2 : ¬ d = b := fun h => q1 h.symm
      have q3 : b < d ∨ d < b := by omega
      rcases q3 with q3 | q3 <;> simp [q1, q2, q3]
  have hnb : ¬ (ltB a b c d = true ∧ ltB c d a b = true) := by
    unfold ltB
    rintro ⟨h1, h2⟩
    by_cases q1 : b = d
    · have q2 : d = b := q1.symm
      simp [q1] at h1 h2
      omega
    · have q2 : ¬ d = b := fun h => q1 h.symm
      simp [q1, q2] at h1 h2
      omega
  rw [hne]
  by_cases h1 : ltB a b c d = true
  · refine Ev.pos h1 ?_
    by_cases h2 : ltB c d a b = true
    · exact absurd ⟨h1, h2⟩ hnb
    · exact Ev.neg h2 (hj _ _ (by simp [h1]) rfl)
  · refine Ev.neg h1 (hj _ _ ?_ rfl)
    simp [h1]
end Go.Proofs.Ythhdfefobblmkaa.Pure
