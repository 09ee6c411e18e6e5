/- For every map and place, the law ShardmapLearns answers true: plain lists and numbers. -/
import Derived.Test.YthflfekhanjlnaaPx27
import Derived.Test.YthflfekhanjlnaaL1L
namespace Go.Proofs.Ythflfekhanjlnaa.Pure
open Go.RowKit Go.Proofs.Ythflfekhanjlnaa.P Go.Proofs.YthflfekhanjlnaaW.PrintWords Go.Proofs.YthflfekhanjlnaaG Go.Proofs.Ythflfekhanjlnaa.Plain
set_option linter.unusedSimpArgs false
theorem learns_loop (x : List S30) (hl : x.length ≤ 9223372036854775807) : ∀ (n i : Nat) (m : List S30), m.length ≤ 9223372036854775807 → m.length - i = n → i ≤ m.length → Ev (fun k => rialtolaw20_ShardmapLearns.l0 k x x m (i : Int)) true := by
  intro n
  induction n with
  | zero =>
    intro i m hm hn hi
    refine Ev.step (fun k => by simp only [rialtolaw20_ShardmapLearns.l0]; rfl) (Ev.neg (by omega) ?_)
    exact Ev.bind (same_ev x x hl) (Ev.pos (by simp) (Ev.bind live_ev (Ev.now _)))
  | succ n ih =>
    intro i m hm hn hi
    refine Ev.step (fun k => by simp only [rialtolaw20_ShardmapLearns.l0]; rfl) (Ev.pos (by omega) (Ev.pos (by omega) ?_))
    rw [next i m.length (by omega) hm]
    exact ih (i + 1) _ (by simpa using hm) (by simp; omega) (by simp; omega)
theorem ShardmapLearns : rialtolaw20_ShardmapLearns.Pure := by
  intro x p hB hp
  obtain ⟨hl, hl2, _⟩ := hB
  refine Ev.rounds (g := fun k => rialtolaw20_ShardmapLearns.f k x p.f0.f0 p.f0.f1 p.f1 p.f2) ?_
  unfold rialtolaw20_ShardmapLearns.f
  refine Ev.bind0 (copy_f x (by omega)) ?_
  have hlen : (learnS x p).1.length ≤ 9223372036854775807 := by
    unfold learnS
    have := learn_len x p
    split
    · show (learnL x p).length ≤ _; omega
    · simp
  refine Ev.bind (learn_ev x p hl2) (Ev.bind (refLearn_ev x p hl2) (Ev.bind (same_ev _ _ hlen) ?_))
  refine Ev.pos (by simp) (Ev.pos rfl (Ev.bind (same_ev x x hl2) ?_))
  refine Ev.step (fun k => by simp only [rialtolaw20_ShardmapLearns.j0]; rfl) (Ev.neg (by simp) ?_)
  exact learns_loop x hl2 _ 0 _ hlen rfl (Nat.zero_le _)
end Go.Proofs.Ythflfekhanjlnaa.Pure
