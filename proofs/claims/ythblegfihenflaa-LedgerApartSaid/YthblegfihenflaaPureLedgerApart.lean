/- For every account and two things that come into it, the law LedgerApart answers true: plain lists and numbers. -/
import Derived.Test.YthblegfihenflaaPx21
import Derived.Test.YthblegfihenflaaPx2
import Derived.Test.YthblegfihenflaaL3
namespace Go.Proofs.Ythblegfihenflaa.Pure
open Go.RowKit Go.Proofs.Ythblegfihenflaa.P Go.Proofs.YthblegfihenflaaW.PrintWords Go.Proofs.YthblegfihenflaaG Go.Proofs.Ythblegfihenflaa.Plain
set_option linter.unusedSimpArgs false
theorem same2_ev' (l m : List S31) (c d : Int) (hl : l.length ≤ 9223372036854775807) (h1 : c = d) (h2 : l = m) : Ev (fun k => rialtoref12_Same.f k l c m d) true := by
  unfold rialtoref12_Same.f
  refine Ev.pos h1 (Ev.bind (same_ev l m hl) ?_)
  rw [decide_eq_true h2]; exact Ev.now _
/-- the second of two credits -/
theorem second {l : List S31} {c a b m n : Int} (h : (creditS l c a m).2.2 = 0) (k : (creditS l c b n).2.2 = 0) (hab : a ≠ b) :
    creditS (creditS l c a m).1 (creditS l c a m).2.1 b n = if c + 1 = 1000000000 then ([], 0, 122) else (setL (setL l a (balL l a + m)) b (balL l b + n), c + 1 + 1, 0) := by
  obtain ⟨A1, B1, C1, D1, E1⟩ := credit_yes h
  obtain ⟨A2, B2, C2, D2, E2⟩ := credit_yes k
  obtain ⟨ho, h4, hc0, hc1⟩ := okA_len A1
  obtain ⟨ha0, ha3, hn1, hnM⟩ := args_ok B1
  have hbb := bal_bd a ho
  rw [E1]
  have eb := bal_set l (-1) a b (balL l a + m) ho (by omega)
  rw [if_neg (fun h => hab h.symm)] at eb
  have hok2 : okL (-1) (setL l a (balL l a + m)) = true := ok_set l (-1) a _ ho (by omega) ha3 (by omega) (by omega)
  have hA2 : okA (setL l a (balL l a + m)) (c + 1) = true := by
    unfold okA
    rw [hok2]
    simp; omega
  unfold creditS
  show (if okA (setL l a (balL l a + m)) (c + 1) = true then _ else _) = _
  rw [if_pos hA2, if_pos B2, eb, if_neg (by omega)]
theorem LedgerApart : rialtolaw12_LedgerApart.Pure := by
  intro x hB
  obtain ⟨⟨⟨hl, hl2, _⟩, hc⟩, _⟩ := hB
  refine Ev.rounds (g := fun k => rialtolaw12_LedgerApart.f k x.f0.f0 x.f0.f1 x.f1.f0 x.f1.f1 x.f2.f0 x.f2.f1) ?_
  generalize x.f0.f0 = l at *
  generalize x.f0.f1 = c at *
  generalize x.f1.f0 = a at *
  generalize x.f1.f1 = b at *
  generalize x.f2.f0 = m at *
  generalize x.f2.f1 = n at *
  unfold rialtolaw12_LedgerApart.f
  refine Ev.bind (credit_ev l c a m hl2) (Ev.bind (credit_ev l c b n hl2) ?_)
  have hend : ∀ b' p q r s t u, b' = true → Ev (fun k => rialtolaw12_LedgerApart.j0 k b' p q r s t u (creditS l c a m).1 (creditS l c a m).2.1 (creditS l c b n).1 (creditS l c b n).2.1) true := fun b' p q r s t u hb => by
    subst hb
    refine Ev.step (fun k => by simp only [rialtolaw12_LedgerApart.j0]; rfl) ?_
    exact Ev.pos (by simp) (Ev.bind live_ev (Ev.now _))
  by_cases e0 : (creditS l c a m).2.2 = 0
  rotate_left
  · exact Ev.neg e0 (hend _ _ _ _ _ _ _ rfl)
  refine Ev.pos e0 ?_
  by_cases e1 : (creditS l c b n).2.2 = 0
  rotate_left
  · exact Ev.neg e1 (hend _ _ _ _ _ _ _ rfl)
  refine Ev.pos e1 ?_
  by_cases hab : a = b
  · exact hend _ _ _ _ _ _ _ (by simp [hab])
  have l1 := credit_len l c a m
  have l2 := credit_len l c b n
  refine Ev.step (fun k => by simp only [rialtolaw12_LedgerApart.j0]; rfl) (Ev.neg (by simp [hab]) ?_)
  refine Ev.bind (credit_ev _ _ b n (by omega)) (Ev.bind (credit_ev _ _ a m (by omega)) ?_)
  rw [second e0 e1 hab, second e1 e0 (fun h => hab h.symm)]
  by_cases hcc : c + 1 = 1000000000
  · simp only [hcc, if_true]
    exact Ev.bind (same2_ev' _ _ _ _ (by simp) rfl rfl) (Ev.pos rfl (Ev.bind live_ev (Ev.now _)))
  · simp only [hcc, if_false]
    obtain ⟨A1, B1, C1, D1, E1⟩ := credit_yes e0
    obtain ⟨A2, B2, C2, D2, E2⟩ := credit_yes e1
    obtain ⟨ho, h4, hc0, hc1⟩ := okA_len A1
    obtain ⟨_, _, hm1, _⟩ := args_ok B1
    obtain ⟨_, _, hn1, _⟩ := args_ok B2
    have b1 := bal_bd a ho
    have b2 := bal_bd b ho
    have s1 := set_len l a (balL l a + m)
    have s2 := set_len (setL l a (balL l a + m)) b (balL l b + n)
    refine Ev.bind (same2_ev' _ _ _ _ (by omega) rfl ?_) (Ev.pos rfl (Ev.bind live_ev (Ev.now _)))
    exact set_apart l (-1) a b _ _ ho hab (by omega) (by omega)
end Go.Proofs.Ythblegfihenflaa.Pure
