/- For every account, asset and number, the law LedgerBack answers true: plain lists and numbers. -/
import Derived.Test.YthblegfihenflaaPx20
import Derived.Test.YthblegfihenflaaL3
namespace Go.Proofs.Ythblegfihenflaa.Pure
open Go.RowKit Go.Proofs.Ythblegfihenflaa.P Go.Proofs.YthblegfihenflaaW.PrintWords Go.Proofs.YthblegfihenflaaG Go.Proofs.Ythblegfihenflaa.Plain
set_option linter.unusedSimpArgs false
theorem LedgerBack : rialtolaw12_LedgerBack.Pure := by
  intro x a n hB ha hn
  obtain ⟨⟨hl, hl2, _⟩, hc⟩ := hB
  refine Ev.rounds (g := fun k => rialtolaw12_LedgerBack.f k x.f0 x.f1 a n) ?_
  unfold rialtolaw12_LedgerBack.f
  have hcl := credit_len x.f0 x.f1 a n
  refine Ev.bind (credit_ev x.f0 x.f1 a n hl2) ?_
  by_cases e0 : (creditS x.f0 x.f1 a n).2.2 = 0
  rotate_left
  · refine Ev.neg e0 (Ev.pos ?_ (Ev.bind live_ev (Ev.now _)))
    rw [credit_no e0]; rfl
  refine Ev.pos e0 ?_
  obtain ⟨A1, B1, C1, D1, E1⟩ := credit_yes e0
  obtain ⟨ho, h4, hc0, hc1⟩ := okA_len A1
  obtain ⟨ha0, ha3, hn1, hnM⟩ := args_ok B1
  have hbb := bal_bd a ho
  rw [E1] at hcl ⊢
  refine Ev.bind (debit_ev _ _ a n (by simp only at hcl ⊢; omega)) ?_
  have hv : balL x.f0 a + n ≠ 0 := by omega
  have eb := bal_set x.f0 (-1) a a (balL x.f0 a + n) ho (by omega)
  rw [if_pos rfl] at eb
  have hok2 : okL (-1) (setL x.f0 a (balL x.f0 a + n)) = true := ok_set x.f0 (-1) a _ ho (by omega) ha3 (by omega) (by omega)
  have hA2 : okA (setL x.f0 a (balL x.f0 a + n)) (x.f1 + 1) = true := by
    unfold okA
    rw [hok2]
    simp; omega
  by_cases hcc : x.f1 + 1 = 1000000000
  · have ed : debitS (setL x.f0 a (balL x.f0 a + n)) (x.f1 + 1) a n = ([], 0, 122) := by
      unfold debitS
      rw [if_pos hA2, if_pos B1, eb, if_neg (by omega), if_pos hcc]
    simp only [ed]
    exact Ev.neg (by omega) (Ev.pos (by simp) (Ev.pos hcc (Ev.bind live_ev (Ev.now _))))
  · have ed : debitS (setL x.f0 a (balL x.f0 a + n)) (x.f1 + 1) a n = (x.f0, x.f1 + 1 + 1, 0) := by
      unfold debitS
      rw [if_pos hA2, if_pos B1, eb, if_neg (by omega), if_neg hcc, show balL x.f0 a + n - n = balL x.f0 a from by omega, set_back x.f0 (-1) a _ ho hv]
    simp only [ed]
    refine Ev.pos (by simp) (Ev.bind (same_ev _ _ hl2) (Ev.pos (by simp) (Ev.pos ?_ ?_)))
    · rw [w64 (by omega) (by omega)]; omega
    · refine Ev.bind (bal_ev _ _ a (by simp only at hcl ⊢; omega)) (Ev.bind (bal_ev _ _ a hl2) (Ev.pos ?_ (Ev.bind live_ev (Ev.now _))))
      have hMX : MX = 9007199254740992 := rfl
      rw [eb, w64 (by omega) (by omega)]
end Go.Proofs.Ythblegfihenflaa.Pure
