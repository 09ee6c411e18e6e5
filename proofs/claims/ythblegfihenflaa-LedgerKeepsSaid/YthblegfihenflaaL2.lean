/- Plain laws of accounts: the document's own functions come to the same. -/
import Derived.Test.YthblegfihenflaaPx18
import Derived.Test.YthblegfihenflaaPx19
import Derived.Test.YthblegfihenflaaPx21
import Derived.Test.YthblegfihenflaaPx17
import Derived.Test.YthblegfihenflaaPx16
import Derived.Test.YthblegfihenflaaL1
namespace Go.Proofs.Ythblegfihenflaa.Plain
open Go.RowKit Go.Proofs.Ythblegfihenflaa.P Go.Proofs.YthblegfihenflaaW.PrintWords Go.Proofs.YthblegfihenflaaG
set_option linter.unusedSimpArgs false
set_option linter.unusedVariables false

/-- the document's walk: behind the first element, each against the one ahead of it -/
theorem amounts_loop (l : List S31) (hl : l.length ≤ 9223372036854775807) : ∀ (r : List S31) (i : Nat) (last : Int), l.drop i = r → i ≤ l.length → (i = 0 → last = -1) → (0 < i → ∃ x, l[i - 1]? = some x ∧ x.f0 = last ∧ 0 ≤ last) →
    Ev (fun k => rialtoref12_Amounts.l0 k l (i : Int)) (okL last r) := by
  intro r
  induction r with
  | nil =>
    intro i last h hi _ _
    obtain rfl := drop_nil h hi
    exact Ev.step (fun k => by simp only [rialtoref12_Amounts.l0]; rfl) (Ev.neg (by omega) (Ev.now _))
  | cons x xs ih =>
    intro i last h hi hz hp
    obtain ⟨hx, hil, hd⟩ := rd_at h
    have hprev : 0 < i → rd_T31 l (wrap64 ((i : Int) - 1)) = (l[i - 1]?).getD z31 ∧ 0 ≤ wrap64 ((i : Int) - 1) ∧ wrap64 ((i : Int) - 1) < (l.length : Int) := fun h0 => by
      have e : wrap64 ((i : Int) - 1) = ((i - 1 : Nat) : Int) := by rw [w64 (by omega) (by omega)]; omega
      rw [e]
      refine ⟨?_, by omega, by omega⟩
      unfold rd_T31
      rw [Int.toNat_natCast, List.getD_eq_getElem?_getD]
    refine Ev.step (fun k => by simp only [rialtoref12_Amounts.l0]; rfl) ?_
    rw [hx, next i l.length hil hl]
    refine Ev.pos (by omega) (Ev.pos (by omega) ?_)
    have hlast : -1 ≤ last := by
      by_cases h0 : i = 0
      · rw [hz h0]; omega
      · obtain ⟨_, _, _, h⟩ := hp (by omega); omega
    by_cases h1 : x.f0 < 0
    · have e : okL last (x :: xs) = false := by simp [okL]; omega
      rw [e]; exact Ev.pos h1 (Ev.now _)
    refine Ev.neg h1 ?_
    by_cases h2 : x.f0 > 3
    · have e : okL last (x :: xs) = false := by simp [okL]; omega
      rw [e]; exact Ev.pos h2 (Ev.now _)
    refine Ev.neg h2 ?_
    by_cases h3 : x.f1 < 1
    · have e : okL last (x :: xs) = false := by simp [okL]; omega
      rw [e]; exact Ev.pos h3 (Ev.now _)
    refine Ev.neg h3 ?_
    by_cases h4 : x.f1 > 9007199254740992
    · have e : okL last (x :: xs) = false := by simp [okL, MX]; omega
      rw [e]; exact Ev.pos h4 (Ev.now _)
    refine Ev.neg h4 ?_
    have hgo : last < x.f0 → Ev (fun k => rialtoref12_Amounts.l0 k l ((i + 1 : Nat) : Int)) (okL last (x :: xs)) := fun hlt => by
      have e : okL last (x :: xs) = okL x.f0 xs := by
        simp only [okL]
        rw [decide_eq_true (by unfold MX; omega)]; rfl
      rw [e]
      refine ih (i + 1) x.f0 hd (by omega) (by omega) (fun _ => ⟨x, ?_, rfl, by omega⟩)
      rw [Nat.add_sub_cancel, rd_get hil, hx]
    by_cases h0 : i = 0
    · refine Ev.neg (by omega) (hgo ?_)
      rw [hz h0]; omega
    · obtain ⟨q, hq, hql, hq0⟩ := hp (by omega)
      obtain ⟨e1, e2, e3⟩ := hprev (by omega)
      rw [hq] at e1
      refine Ev.pos (by omega) (Ev.pos e2 (Ev.pos e3 ?_))
      rw [e1]
      simp only [Option.getD_some, hql]
      by_cases h5 : last ≥ x.f0
      · have e : okL last (x :: xs) = false := by simp [okL]; omega
        rw [e]; exact Ev.pos h5 (Ev.now _)
      · exact Ev.neg h5 (hgo (by omega))
theorem amounts_ev (l : List S31) (hl : l.length ≤ 9223372036854775807) : Ev (fun k => rialtoref12_Amounts.f k l) (okL (-1) l) :=
  amounts_loop l hl l 0 (-1) rfl (Nat.zero_le _) (fun _ => rfl) (fun h => absurd h (by omega))
theorem rcheck_ev (l : List S31) (c : Int) (hl : l.length ≤ 9223372036854775807) : Ev (fun k => rialtoref12_Check.f k l c) (if okA l c = true then 0 else 120) := by
  unfold rialtoref12_Check.f
  refine Ev.bind (amounts_ev l hl) ?_
  unfold okA
  cases okL (-1) l with
  | false => simp only [Bool.false_and]; exact Ev.neg (by simp) (Ev.now _)
  | true =>
    refine Ev.pos rfl ?_
    simp only [Bool.true_and, decide_eq_true_eq]
    by_cases h0 : c < 0
    · have e : ¬ (0 ≤ c ∧ c ≤ 1000000000) := by omega
      simp only [e, if_false]; exact Ev.pos h0 (Ev.now _)
    · refine Ev.neg h0 ?_
      by_cases h1 : c > 1000000000
      · have e : ¬ (0 ≤ c ∧ c ≤ 1000000000) := by omega
        simp only [e, if_false]; exact Ev.pos h1 (Ev.now _)
      · have e : (0 ≤ c ∧ c ≤ 1000000000) := by omega
        simp only [e, if_true, and_self]; exact Ev.neg h1 (Ev.now _)
theorem rbal_loop (l : List S31) (a c : Int) (hl : l.length ≤ 9223372036854775807) : ∀ (r : List S31) (i : Nat), l.drop i = r → i ≤ l.length → Ev (fun k => rialtoref12_Balance.l0 k a (i : Int) l c) (balL r a) := by
  intro r
  induction r with
  | nil =>
    intro i h hi
    obtain rfl := drop_nil h hi
    exact Ev.step (fun k => by simp only [rialtoref12_Balance.l0]; rfl) (Ev.neg (by omega) (Ev.now _))
  | cons x xs ih =>
    intro i h hi
    obtain ⟨hx, hil, hd⟩ := rd_at h
    refine Ev.step (fun k => by simp only [rialtoref12_Balance.l0]; rfl) ?_
    rw [hx, next i l.length hil hl]
    refine Ev.pos (by omega) (Ev.pos (by omega) ?_)
    unfold balL
    by_cases h1 : x.f0 = a
    · rw [if_pos h1]; exact Ev.pos h1 (Ev.now _)
    · rw [if_neg h1]; exact Ev.neg h1 (ih (i + 1) hd (by omega))
theorem rbal_ev (l : List S31) (c a : Int) (hl : l.length ≤ 9223372036854775807) : Ev (fun k => rialtoref12_Balance.f k l c a) (balL l a) := rbal_loop l a c hl l 0 rfl (Nat.zero_le _)
theorem same2_ev (l m : List S31) (c d : Int) (hl : l.length ≤ 9223372036854775807) : Ev (fun k => rialtoref12_Same.f k l c m d) (decide (c = d ∧ l = m)) := by
  unfold rialtoref12_Same.f
  by_cases h : c = d
  · refine Ev.pos h (Ev.bind (same_ev l m hl) ?_)
    have : decide (c = d ∧ l = m) = decide (l = m) := by simp [h]
    rw [this]; exact Ev.now _
  · refine Ev.neg h ?_
    have : decide (c = d ∧ l = m) = false := by simp [h]
    rw [this]; exact Ev.now _
theorem copy_f (l : List S31) (c : Int) (h : l.length < 8796093022208) : rialtoref12_Copy.f l c = some (l, c) := by
  unfold rialtoref12_Copy.f
  simp [h]
end Go.Proofs.Ythblegfihenflaa.Plain
