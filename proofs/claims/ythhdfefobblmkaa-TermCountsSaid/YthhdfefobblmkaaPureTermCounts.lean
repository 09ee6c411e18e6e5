/- For every ballot and answer the law TermCounts answers true: plain lists and numbers. -/
import Derived.Test.YthhdfefobblmkaaPx34
import Derived.Test.YthhdfefobblmkaaL1
namespace Go.Proofs.Ythhdfefobblmkaa.Pure
open Go.RowKit Go.Proofs.Ythhdfefobblmkaa.P Go.Proofs.YthhdfefobblmkaaW.PrintWords Go.Proofs.YthhdfefobblmkaaG Go.Proofs.Ythhdfefobblmkaa.Plain
set_option linter.unusedSimpArgs false
theorem TermCounts : rialtolaw07_TermCounts.Pure := by
  intro x y hB hy
  refine Ev.rounds (g := fun k => rialtolaw07_TermCounts.f k x.f0.f0 x.f0.f1 x.f1 x.f2 y.f0 y.f1 y.f2 y.f3) ?_
  have hl : x.f2.length < 17592186044416 := by
    obtain ⟨_, _, h, _⟩ := hB
    omega
  generalize x.f0.f0 = t at *
  generalize x.f0.f1 = v at *
  generalize x.f1 = r at *
  generalize x.f2 = l at *
  unfold rialtolaw07_TermCounts.f
  have hc := count_len t v r l y.f0 y.f1 y.f3 y.f2 hl
  refine Ev.bind0 (copy_f t v r l hl) ?_
  refine Ev.bind (count_ev t v r l y.f0 y.f1 y.f3 y.f2 hl) ?_
  refine Ev.bind (refCount_ev t v r l y.f0 y.f1 y.f3 y.f2 hl) ?_
  refine Ev.bind (same_ev _ _ _ _ hc) ?_
  refine Ev.pos rfl ?_
  refine Ev.pos rfl ?_
  refine Ev.bind (same_ev _ _ _ _ (show l.length ≤ 9223372036854775807 by omega)) ?_
  refine Ev.step (fun k => by simp only [rialtolaw07_TermCounts.j0]; rfl) ?_
  refine Ev.neg (by simp) ?_
  obtain ⟨z, hz⟩ := spoil_ev (countS t v r l y.f0 y.f1 y.f3 y.f2).1 (countS t v r l y.f0 y.f1 y.f3 y.f2).2.1 (countS t v r l y.f0 y.f1 y.f3 y.f2).2.2.1 (countS t v r l y.f0 y.f1 y.f3 y.f2).2.2.2.1 hc
  refine Ev.bind hz ?_
  refine Ev.bind (same_ev _ _ _ _ (show l.length ≤ 9223372036854775807 by omega)) ?_
  refine Ev.pos rfl ?_
  exact Ev.bind live_ev (Ev.now _)
end Go.Proofs.Ythhdfefobblmkaa.Pure
