/- For every map, place and number, the law ShardmapAgain answers true: plain lists and numbers. -/
import Derived.Test.YthflfekhanjlnaaPx21
import Derived.Test.YthflfekhanjlnaaL0
namespace Go.Proofs.Ythflfekhanjlnaa.Pure
open Go.RowKit Go.Proofs.Ythflfekhanjlnaa.P Go.Proofs.YthflfekhanjlnaaW.PrintWords Go.Proofs.YthflfekhanjlnaaG Go.Proofs.Ythflfekhanjlnaa.Plain
set_option linter.unusedSimpArgs false
theorem ShardmapAgain : rialtolaw20_ShardmapAgain.Pure := by
  intro x p g hB hp hg0
  obtain ⟨_, hl2, _⟩ := hB
  refine Ev.rounds (g := fun k => rialtolaw20_ShardmapAgain.f k x p.f0.f0 p.f0.f1 p.f1 p.f2 g) ?_
  unfold rialtolaw20_ShardmapAgain.f
  refine Ev.bind (learn_ev x p hl2) ?_
  by_cases h1 : fineB x = true ∧ goodB p = true
  rotate_left
  · have e : learnS x p = ([], 200) := if_neg h1
    rw [e]
    exact Ev.neg (by simp) (Ev.pos (by simp) (Ev.bind live_ev (Ev.now _)))
  obtain ⟨hf, hg⟩ := h1
  have e : learnS x p = (learnL x p, 0) := if_pos ⟨hf, hg⟩
  have hlen : (x.length : Int) ≤ 35 := by have := ok_len x 0 hf (by omega); omega
  have hlp := learn_len x p
  have hf1 := learn_fine hf hg
  have e1 : learnS (learnL x p) p = (learnL x p, 0) := by
    have := learn_again x p
    unfold learnS
    rw [if_pos ⟨hf1, hg⟩, this]
  rw [e]
  refine Ev.pos rfl (Ev.bind (learn_ev (learnL x p) p (by omega)) ?_)
  rw [e1]
  refine Ev.pos rfl (Ev.bind (same_ev (learnL x p) (learnL x p) (by omega)) ?_)
  refine Ev.step (fun k => by simp only [rialtolaw20_ShardmapAgain.j0]; rfl) ?_
  refine Ev.neg (by simp) (Ev.bind (owner_ev (learnL x p) p.f0 g (by omega)) ?_)
  by_cases ho : (ownerS (learnL x p) p.f0 g).2.2.2.2 = 0
  rotate_left
  · exact Ev.neg ho (Ev.bind live_ev (Ev.now _))
  refine Ev.pos ho (Ev.pos ?_ (Ev.bind live_ev (Ev.now _)))
  have hat := at_learn x 0 p (kc p.f0) hf
  rw [if_pos rfl] at hat
  unfold ownerS at ho ⊢
  rw [if_pos hf1] at ho ⊢
  by_cases h2 : (homeS p.f0 g).2 = 0
  rotate_left
  · rw [if_neg h2] at ho; exact absurd ho h2
  rw [if_pos h2, hat]
  cases h3 : atL x (kc p.f0) with
  | none => exact Int.le_refl _
  | some y =>
    simp only
    by_cases q : y.f2 < p.f2
    · rw [if_pos q]; exact Int.le_refl _
    · rw [if_neg q]; simp only; omega
end Go.Proofs.Ythflfekhanjlnaa.Pure
