/- For every account and asset, the law LedgerReads answers true: plain lists and numbers. -/
import Derived.Test.YthblegfihenflaaPx14
import Derived.Test.YthblegfihenflaaL2
namespace Go.Proofs.Ythblegfihenflaa.Pure
open Go.RowKit Go.Proofs.Ythblegfihenflaa.P Go.Proofs.YthblegfihenflaaW.PrintWords Go.Proofs.YthblegfihenflaaG Go.Proofs.Ythblegfihenflaa.Plain
theorem LedgerReads : rialtolaw12_LedgerReads.Pure := by
  intro x a hB ha
  obtain ⟨⟨hl, hl2, _⟩, _⟩ := hB
  refine Ev.rounds (g := fun k => rialtolaw12_LedgerReads.f k x.f0 x.f1 a) ?_
  unfold rialtolaw12_LedgerReads.f
  refine Ev.bind0 (copy_f x.f0 x.f1 (by omega)) ?_
  refine Ev.bind (check_ev x.f0 x.f1 hl2) (Ev.bind (rcheck_ev x.f0 x.f1 hl2) (Ev.pos rfl (Ev.bind (bal_ev x.f0 x.f1 a hl2) (Ev.bind (rbal_ev x.f0 x.f1 a hl2) (Ev.pos rfl (Ev.bind (same2_ev x.f0 x.f0 x.f1 x.f1 hl2) ?_))))))
  refine Ev.pos (by simp) (Ev.bind live_ev (Ev.now _))
end Go.Proofs.Ythblegfihenflaa.Pure
