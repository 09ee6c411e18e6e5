/- For any accounts, the law LedgerTotals answers true: plain lists and numbers. -/
import Derived.Test.YthblegfihenflaaPx19
import Derived.Test.YthblegfihenflaaL5
namespace Go.Proofs.Ythblegfihenflaa.Pure
open Go.RowKit Go.Proofs.Ythblegfihenflaa.P Go.Proofs.YthblegfihenflaaW.PrintWords Go.Proofs.YthblegfihenflaaG Go.Proofs.Ythblegfihenflaa.Plain
set_option linter.unusedSimpArgs false
theorem LedgerTotals : rialtolaw12_LedgerTotals.Pure := by
  intro l ⟨_, _, hB⟩
  have hl : ∀ y ∈ l, y.f0.length ≤ 9223372036854775807 := fun y hy => (hB y hy).1.2.1
  refine Ev.rounds (g := fun k => rialtolaw12_LedgerTotals.f k l) ?_
  unfold rialtolaw12_LedgerTotals.f
  refine Ev.bind (total_ev l hl) (Ev.bind (rtotal_ev l hl) (Ev.bind (same_ev _ _ ?_) ?_))
  · have h : ∀ (s : List Int) (j : Nat), (tot_out s j).length ≤ j := fun s j => by
      induction j with
      | zero => exact Nat.le_refl _
      | succ j ih =>
        simp only [tot_out]
        split
        · simp only [List.length_cons]; omega
        · omega
    unfold totS
    split
    · simp
    split
    · exact Nat.le_trans (h _ 4) (by omega)
    · simp
  · exact Ev.pos (by simp) (Ev.pos rfl (Ev.bind live_ev (Ev.now _)))
end Go.Proofs.Ythblegfihenflaa.Pure
