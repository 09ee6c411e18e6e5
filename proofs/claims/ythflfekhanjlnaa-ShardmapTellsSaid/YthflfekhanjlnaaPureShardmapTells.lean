/- For every map, key and number, the law ShardmapTells answers true: plain lists and numbers. -/
import Derived.Test.YthflfekhanjlnaaPx25
import Derived.Test.YthflfekhanjlnaaL1
namespace Go.Proofs.Ythflfekhanjlnaa.Pure
open Go.RowKit Go.Proofs.Ythflfekhanjlnaa.P Go.Proofs.YthflfekhanjlnaaW.PrintWords Go.Proofs.YthflfekhanjlnaaG Go.Proofs.Ythflfekhanjlnaa.Plain
set_option linter.unusedSimpArgs false
theorem ShardmapTells : rialtolaw20_ShardmapTells.Pure := by
  intro x a g hB ha hg
  obtain ⟨hl, hl2, _⟩ := hB
  refine Ev.rounds (g := fun k => rialtolaw20_ShardmapTells.f k x a.f0 a.f1 g) ?_
  unfold rialtolaw20_ShardmapTells.f
  refine Ev.bind0 (copy_f x (by omega)) ?_
  refine Ev.bind (home_ev a.f0 a.f1 g) (Ev.bind (refHome_ev a.f0 a.f1 g) (Ev.bind (owner_ev x a g hl2) (Ev.bind (refOwner_ev x a g hl2) ?_)))
  refine Ev.pos rfl (Ev.pos rfl (Ev.pos (by simp) (Ev.pos rfl (Ev.bind (same_ev x x hl2) (Ev.pos (by simp) (Ev.bind live_ev (Ev.now _)))))))
end Go.Proofs.Ythflfekhanjlnaa.Pure
