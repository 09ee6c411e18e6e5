/- For every account, asset and number, the law LedgerParts answers true: plain lists and numbers. -/
import Derived.Test.YthblegfihenflaaPx19
import Derived.Test.YthblegfihenflaaL3
namespace Go.Proofs.Ythblegfihenflaa.Pure
open Go.RowKit Go.Proofs.Ythblegfihenflaa.P Go.Proofs.YthblegfihenflaaW.PrintWords Go.Proofs.YthblegfihenflaaG Go.Proofs.Ythblegfihenflaa.Plain
set_option linter.unusedSimpArgs false
theorem LedgerParts : rialtolaw12_LedgerParts.Pure := by
  intro x a n hB ha hn
  obtain ⟨⟨hl, hl2, _⟩, hc⟩ := hB
  refine Ev.rounds (g := fun k => rialtolaw12_LedgerParts.f k x.f0 x.f1 a n) ?_
  unfold rialtolaw12_LedgerParts.f
  have hend : ∀ b, b = true → Ev (fun k => rialtolaw12_LedgerParts.j0 k a n b x.f0 x.f1) true := fun b hb => by
    subst hb
    refine Ev.step (fun k => by simp only [rialtolaw12_LedgerParts.j0]; rfl) ?_
    exact Ev.pos (by simp) (Ev.bind live_ev (Ev.now _))
  by_cases h1 : n < 2
  · exact Ev.pos h1 (hend true rfl)
  refine Ev.neg h1 ?_
  by_cases h2 : n > 1000000000
  · simp only [h2, decide_true]; exact hend true rfl
  simp only [h2, decide_false]
  refine Ev.step (fun k => by simp only [rialtolaw12_LedgerParts.j0]; rfl) (Ev.neg (by simp) ?_)
  have hcl1 := credit_len x.f0 x.f1 a 1
  have hw : wrap64 (n - 1) = n - 1 := w64 (by omega) (by omega)
  refine Ev.bind (credit_ev x.f0 x.f1 a n hl2) (Ev.bind (credit_ev x.f0 x.f1 a 1 hl2) ?_)
  rw [hw]
  refine Ev.bind (credit_ev _ _ a (n - 1) (by omega)) ?_
  have hj : ∀ b l c m d, (b = true ∨ l = m ∧ d = wrap64 (c + 1)) → l.length ≤ 9223372036854775807 → Ev (fun k => rialtolaw12_LedgerParts.j1 k b l c m d) true := fun b l c m d hb hlen => by
    refine Ev.step (fun k => by simp only [rialtolaw12_LedgerParts.j1]; rfl) ?_
    cases b with
    | true => exact Ev.pos rfl (Ev.bind live_ev (Ev.now _))
    | false =>
      obtain ⟨e1, e2⟩ := hb.resolve_left (by simp)
      refine Ev.neg (by simp) (Ev.bind (same_ev l m hlen) (Ev.pos (by simp [e1]) (Ev.pos e2 (Ev.bind live_ev (Ev.now _)))))
  have hcl := credit_len x.f0 x.f1 a n
  by_cases e0 : (creditS x.f0 x.f1 a n).2.2 = 0
  rotate_left
  · exact Ev.neg e0 (hj _ _ _ _ _ (.inl rfl) (by omega))
  refine Ev.pos e0 ?_
  by_cases e1 : (creditS x.f0 x.f1 a 1).2.2 = 0
  rotate_left
  · exact Ev.neg e1 (hj _ _ _ _ _ (.inl rfl) (by omega))
  refine Ev.pos e1 (hj _ _ _ _ _ ?_ (by omega))
  by_cases e2 : (creditS (creditS x.f0 x.f1 a 1).1 (creditS x.f0 x.f1 a 1).2.1 a (n - 1)).2.2 = 0
  rotate_left
  · exact .inl (by simpa using e2)
  refine .inr ?_
  obtain ⟨A1, B1, C1, D1, E1⟩ := credit_yes e0
  obtain ⟨A2, B2, C2, D2, E2⟩ := credit_yes e1
  obtain ⟨A3, B3, C3, D3, E3⟩ := credit_yes e2
  obtain ⟨ho, h4, hc0, hc1⟩ := okA_len A1
  obtain ⟨ha0, ha3, _, _⟩ := args_ok B1
  rw [E3, E1, E2]
  have hbb := bal_bd a ho
  have es := set_set x.f0 (-1) a (balL x.f0 a + 1) (balL x.f0 a + n) ho (by omega)
  have eb := bal_set x.f0 (-1) a a (balL x.f0 a + 1) ho (by omega)
  rw [if_pos rfl] at eb
  refine ⟨?_, ?_⟩
  · show setL x.f0 a (balL x.f0 a + n) = setL (setL x.f0 a (balL x.f0 a + 1)) a (balL (setL x.f0 a (balL x.f0 a + 1)) a + (n - 1))
    rw [eb, show balL x.f0 a + 1 + (n - 1) = balL x.f0 a + n from by omega, es]
  · show x.f1 + 1 + 1 = wrap64 (x.f1 + 1 + 1)
    rw [w64 (by omega) (by omega)]
end Go.Proofs.Ythblegfihenflaa.Pure
