/- For any two accounts, what goes from one to the other changes nothing of all: the law LedgerKeeps answers true: plain lists and numbers. -/
import Derived.Test.YthblegfihenflaaPx15
import Derived.Test.YthblegfihenflaaL3
import Derived.Test.YthblegfihenflaaL5
namespace Go.Proofs.Ythblegfihenflaa.Pure
open Go.RowKit Go.Proofs.Ythblegfihenflaa.P Go.Proofs.YthblegfihenflaaW.PrintWords Go.Proofs.YthblegfihenflaaG Go.Proofs.Ythblegfihenflaa.Plain
set_option linter.unusedSimpArgs false
theorem keeps_sum {l m : List S31} {c d a n : Int} (hd : (debitS l c a n).2.2 = 0) (hc : (creditS m d a n).2.2 = 0) :
    totS [⟨l, c⟩, ⟨m, d⟩] = totS [⟨(debitS l c a n).1, (debitS l c a n).2.1⟩, ⟨(creditS m d a n).1, (creditS m d a n).2.1⟩] ∧ (totS [⟨l, c⟩, ⟨m, d⟩]).2 = 0 ∧ (totS [⟨l, c⟩, ⟨m, d⟩]).1.length ≤ 9223372036854775807 := by
  obtain ⟨h1, h2, h3, h4, h5⟩ := debit_yes hd
  obtain ⟨g1, g2, g3, g4, g5⟩ := credit_yes hc
  obtain ⟨a0, a3, n1, nM⟩ := args_ok h2
  obtain ⟨o1, o2, o3, o4⟩ := okA_len h1
  obtain ⟨p1, p2, p3, p4⟩ := okA_len g1
  have b1 := bal_bd a o1
  have b2 := bal_bd a p1
  have k1 : okL (-1) (setL l a (balL l a - n)) = true := ok_set l (-1) a _ o1 (by omega) a3 (by omega) (by omega)
  have k2 : okL (-1) (setL m a (balL m a + n)) = true := ok_set m (-1) a _ p1 (by omega) a3 (by omega) (by omega)
  have e1 : okA (setL l a (balL l a - n)) (c + 1) = true := by unfold okA; rw [k1]; simp; omega
  have e2 : okA (setL m a (balL m a + n)) (d + 1) = true := by unfold okA; rw [k2]; simp; omega
  have s : ∀ b, sumB [⟨setL l a (balL l a - n), c + 1⟩, ⟨setL m a (balL m a + n), d + 1⟩] b = sumB [⟨l, c⟩, ⟨m, d⟩] b := fun b => by
    simp only [sumB]
    rw [bal_set l (-1) a b _ o1 (by omega), bal_set m (-1) a b _ p1 (by omega)]
    by_cases hb : b = a
    · subst hb; rw [if_pos rfl, if_pos rfl]; omega
    · rw [if_neg hb, if_neg hb]
  have t1 : totS [⟨l, c⟩, ⟨m, d⟩] = (tot_out [sumB [⟨l, c⟩, ⟨m, d⟩] 0, sumB [⟨l, c⟩, ⟨m, d⟩] 1, sumB [⟨l, c⟩, ⟨m, d⟩] 2, sumB [⟨l, c⟩, ⟨m, d⟩] 3] 4, 0) := by
    unfold totS
    rw [if_neg (by simp), if_pos (by simp [allOk, h1, g1])]
  have t2 : totS [⟨setL l a (balL l a - n), c + 1⟩, ⟨setL m a (balL m a + n), d + 1⟩] = totS [⟨l, c⟩, ⟨m, d⟩] := by
    rw [t1]
    unfold totS
    rw [if_neg (by simp), if_pos (by simp [allOk, e1, e2]), s, s, s, s]
  have hlen : ∀ (s : List Int) (j : Nat), (tot_out s j).length ≤ j := fun s j => by
    induction j with
    | zero => exact Nat.le_refl _
    | succ j ih =>
      simp only [tot_out]
      split
      · simp only [List.length_cons]; omega
      · omega
  refine ⟨?_, by rw [t1], ?_⟩
  · rw [h5, g5]; exact t2.symm
  · rw [t1]; exact Nat.le_trans (hlen _ 4) (by omega)
theorem LedgerKeeps : rialtolaw12_LedgerKeeps.Pure := by
  rintro ⟨⟨l, c⟩, ⟨m, d⟩, a, n⟩ ⟨⟨⟨hl0, hl, _⟩, hc⟩, ⟨⟨hm0, hm, _⟩, hd⟩, ha, hn⟩
  simp only at *
  refine Ev.rounds (g := fun k => rialtolaw12_LedgerKeeps.f k l c m d a n) ?_
  unfold rialtolaw12_LedgerKeeps.f
  refine Ev.bind (debit_ev l c a n hl) (Ev.bind (credit_ev m d a n hm) ?_)
  by_cases h : (debitS l c a n).2.2 = 0 ∧ (creditS m d a n).2.2 = 0
  · refine Ev.pos h ?_
    obtain ⟨e1, e2, e3⟩ := keeps_sum h.1 h.2
    refine Ev.bind (total_ev _ ?_) (Ev.bind (total_ev _ ?_) ?_)
    · intro y hy
      simp only [List.mem_cons, List.not_mem_nil, or_false] at hy
      rcases hy with rfl | rfl
      · exact hl
      · exact hm
    · intro y hy
      simp only [List.mem_cons, List.not_mem_nil, or_false] at hy
      rcases hy with rfl | rfl
      · exact Nat.le_trans (debit_len l c a n) (by omega)
      · exact Nat.le_trans (credit_len m d a n) (by omega)
    · refine Ev.pos e2 (Ev.pos (by rw [← e1]; exact e2) (Ev.bind (same_ev _ _ e3) (Ev.pos (by rw [← e1]; simp) live_ev)))
  · exact Ev.neg h live_ev
end Go.Proofs.Ythblegfihenflaa.Pure
