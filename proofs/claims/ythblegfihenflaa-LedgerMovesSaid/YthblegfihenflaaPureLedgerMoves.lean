/- For every account, asset and number, the law LedgerMoves answers true: plain lists and numbers. -/
import Derived.Test.YthblegfihenflaaPx15
import Derived.Test.YthblegfihenflaaL2
namespace Go.Proofs.Ythblegfihenflaa.Pure
open Go.RowKit Go.Proofs.Ythblegfihenflaa.P Go.Proofs.YthblegfihenflaaW.PrintWords Go.Proofs.YthblegfihenflaaG Go.Proofs.Ythblegfihenflaa.Plain
theorem set_len : ∀ (l : List S31) (a n : Int), (setL l a n).length ≤ l.length + 1
  | [], a, n => by unfold setL; split <;> simp
  | x :: xs, a, n => by
    unfold setL
    have := set_len xs a n
    split
    · simp; omega
    · split
      · split <;> simp <;> omega
      · split <;> simp
theorem credit_len (l : List S31) (c a n : Int) : (creditS l c a n).1.length ≤ 5 := by
  unfold creditS
  by_cases hA : okA l c = true
  · obtain ⟨_, h4, _⟩ := okA_len hA
    have := set_len l a (balL l a + n)
    simp only [hA, if_true]
    split
    · split
      · simp
      · split
        · simp
        · show (setL l a (balL l a + n)).length ≤ 5
          omega
    · simp
  · simp [hA]
theorem debit_len (l : List S31) (c a n : Int) : (debitS l c a n).1.length ≤ 5 := by
  unfold debitS
  by_cases hA : okA l c = true
  · obtain ⟨_, h4, _⟩ := okA_len hA
    have := set_len l a (balL l a - n)
    simp only [hA, if_true]
    split
    · split
      · simp
      · split
        · simp
        · show (setL l a (balL l a - n)).length ≤ 5
          omega
    · simp
  · simp [hA]
theorem spoil1 (l o : List S31) (c d e : Int) (ho : o.length ≤ 9223372036854775807) (hlo : o = l) (hcd : d = c) : ∀ (m j : Nat) (q : List S31), m = q.length - j → j ≤ q.length → q.length ≤ 9223372036854775807 →
    Ev (fun k => rialtolaw12_LedgerMoves.l1 k (j : Int) l c o d q e) true := by
  intro m
  induction m with
  | zero =>
    intro j q hm hj hq
    refine Ev.step (fun k => by simp only [rialtolaw12_LedgerMoves.l1]; rfl) (Ev.neg (by omega) ?_)
    refine Ev.bind (same2_ev o l d c ho) (Ev.pos (by simp [hlo, hcd]) (Ev.bind live_ev (Ev.now _)))
  | succ m ih =>
    intro j q hm hj hq
    refine Ev.step (fun k => by simp only [rialtolaw12_LedgerMoves.l1]; rfl) (Ev.pos (by omega) (Ev.pos (by omega) ?_))
    rw [next j q.length (by omega) hq]
    exact ih (j + 1) _ (by rw [List.length_set]; omega) (by rw [List.length_set]; omega) (by rw [List.length_set]; omega)
theorem spoil0 (l o p : List S31) (c d e e2 : Int) (ho : o.length ≤ 9223372036854775807) (hlo : o = l) (hcd : d = c) (hp : p.length ≤ 9223372036854775807) : ∀ (m j : Nat) (q : List S31), m = q.length - j → j ≤ q.length → q.length ≤ 9223372036854775807 →
    Ev (fun k => rialtolaw12_LedgerMoves.l0 k (j : Int) l c o d q e p e2) true := by
  intro m
  induction m with
  | zero =>
    intro j q hm hj hq
    refine Ev.step (fun k => by simp only [rialtolaw12_LedgerMoves.l0]; rfl) (Ev.neg (by omega) ?_)
    exact spoil1 l o c d e2 ho hlo hcd _ 0 p rfl (Nat.zero_le _) hp
  | succ m ih =>
    intro j q hm hj hq
    refine Ev.step (fun k => by simp only [rialtolaw12_LedgerMoves.l0]; rfl) (Ev.pos (by omega) (Ev.pos (by omega) ?_))
    rw [next j q.length (by omega) hq]
    exact ih (j + 1) _ (by rw [List.length_set]; omega) (by rw [List.length_set]; omega) (by rw [List.length_set]; omega)
theorem LedgerMoves : rialtolaw12_LedgerMoves.Pure := by
  intro x a n hB ha hn
  obtain ⟨⟨hl, hl2, _⟩, _⟩ := hB
  have hcl := credit_len x.f0 x.f1 a n
  have hdl := debit_len x.f0 x.f1 a n
  refine Ev.rounds (g := fun k => rialtolaw12_LedgerMoves.f k x.f0 x.f1 a n) ?_
  unfold rialtolaw12_LedgerMoves.f
  refine Ev.bind0 (copy_f x.f0 x.f1 (by omega)) ?_
  refine Ev.bind (credit_ev x.f0 x.f1 a n hl2) (Ev.bind (debit_ev x.f0 x.f1 a n hl2) (Ev.bind (rcredit_ev x.f0 x.f1 a n hl2) (Ev.bind (rdebit_ev x.f0 x.f1 a n hl2) ?_)))
  refine Ev.bind (same2_ev _ _ _ _ (by omega)) (Ev.pos (by simp) (Ev.pos rfl ?_))
  refine Ev.bind (same2_ev _ _ _ _ (by omega)) (Ev.pos (by simp) (Ev.pos rfl ?_))
  refine Ev.bind (same2_ev _ _ _ _ (by omega)) ?_
  refine Ev.step (fun k => by simp only [rialtolaw12_LedgerMoves.j0]; rfl) (Ev.neg (by simp) ?_)
  exact spoil0 x.f0 x.f0 _ x.f1 x.f1 _ _ hl2 rfl rfl (by omega) _ 0 _ rfl (Nat.zero_le _) (by omega)
end Go.Proofs.Ythblegfihenflaa.Pure
