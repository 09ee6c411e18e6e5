/- For every map and two places, the law ShardmapOrder answers true: plain lists and numbers. -/
import Derived.Test.YthflfekhanjlnaaPx20
import Derived.Test.YthflfekhanjlnaaL0
namespace Go.Proofs.Ythflfekhanjlnaa.Pure
open Go.RowKit Go.Proofs.Ythflfekhanjlnaa.P Go.Proofs.YthflfekhanjlnaaW.PrintWords Go.Proofs.YthflfekhanjlnaaG Go.Proofs.Ythflfekhanjlnaa.Plain
set_option linter.unusedSimpArgs false
theorem ShardmapOrder : rialtolaw20_ShardmapOrder.Pure := by
  intro x p q hB hp hq
  obtain ⟨_, hl2, _⟩ := hB
  refine Ev.rounds (g := fun k => rialtolaw20_ShardmapOrder.f k x p.f0.f0 p.f0.f1 p.f1 p.f2 q.f0.f0 q.f0.f1 q.f1 q.f2) ?_
  unfold rialtolaw20_ShardmapOrder.f
  refine Ev.bind (learn_ev x p hl2) ?_
  by_cases h1 : fineB x = true ∧ goodB p = true
  rotate_left
  · have e : learnS x p = ([], 200) := if_neg h1
    rw [e]
    exact Ev.neg (by simp) (Ev.bind live_ev (Ev.now _))
  obtain ⟨hf, hg⟩ := h1
  have e : learnS x p = (learnL x p, 0) := if_pos ⟨hf, hg⟩
  have hlen : (x.length : Int) ≤ 35 := by have := ok_len x 0 hf (by omega); omega
  have hlp := learn_len x p
  have hlq := learn_len x q
  rw [e]
  refine Ev.pos rfl (Ev.bind (learn_ev _ q (by show (learnL x p).length ≤ _; omega)) (Ev.bind (learn_ev x q hl2) ?_))
  have hf1 := learn_fine hf hg
  by_cases hgq : goodB q = true
  rotate_left
  · have e1 : learnS (learnL x p) q = ([], 200) := if_neg (fun h => hgq h.2)
    have e2 : learnS x q = ([], 200) := if_neg (fun h => hgq h.2)
    show Ev _ true
    simp only [e1, e2]
    refine Ev.neg (by simp) (Ev.step (fun k => by simp only [rialtolaw20_ShardmapOrder.j0]; rfl) ?_)
    exact Ev.pos (by simp) (Ev.pos (by simp) (Ev.bind live_ev (Ev.now _)))
  have e1 : learnS (learnL x p) q = (learnL (learnL x p) q, 0) := if_pos ⟨hf1, hgq⟩
  have e2 : learnS x q = (learnL x q, 0) := if_pos ⟨hf, hgq⟩
  have e3 : learnS (learnL x q) p = (learnL (learnL x q) p, 0) := if_pos ⟨learn_fine hf hgq, hg⟩
  simp only [e1, e2]
  refine Ev.pos (by simp) (Ev.step (fun k => by simp only [rialtolaw20_ShardmapOrder.j0]; rfl) ?_)
  refine Ev.neg (by simp) (Ev.bind (learn_ev (learnL x q) p (by omega)) ?_)
  rw [e3]
  have hl3 := learn_len (learnL x p) q
  refine Ev.pos rfl (Ev.bind (same_ev _ _ (by omega)) ?_)
  by_cases hs : learnL (learnL x p) q = learnL (learnL x q) p
  · exact Ev.pos (by simp [hs]) (Ev.bind live_ev (Ev.now _))
  · refine Ev.neg (by simpa using hs) ?_
    have hk : kc p.f0 = kc q.f0 ∧ p.f2 = q.f2 := by
      rcases Classical.em (kc p.f0 = kc q.f0 ∧ p.f2 = q.f2) with h | h
      · exact h
      · exact absurd (learn_order x p q h) hs
    have hkk := kc_inj (good_of hg).1 (good_of hgq).1 hk.1
    refine Ev.pos (by simp [hkk]) (Ev.pos hk.2 (Ev.bind live_ev (Ev.now _)))
end Go.Proofs.Ythflfekhanjlnaa.Pure
