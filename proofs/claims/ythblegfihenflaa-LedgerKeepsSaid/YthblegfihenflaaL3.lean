/- Plain laws of accounts: what a credit or a debit that is taken leaves: again an account that may be, its balances. -/
import Derived.Test.YthblegfihenflaaL1
namespace Go.Proofs.Ythblegfihenflaa.Plain
open Go.RowKit Go.Proofs.Ythblegfihenflaa.P Go.Proofs.YthblegfihenflaaW.PrintWords Go.Proofs.YthblegfihenflaaG
set_option linter.unusedSimpArgs false
set_option linter.unusedVariables false
theorem set_len : ∀ (l : List S31) (a n : Int), (setL l a n).length ≤ l.length + 1
  | [], a, n => by unfold setL; split <;> simp
  | x :: xs, a, n => by
    unfold setL
    have := set_len xs a n
    split
    · simp; omega
    · split
      · split <;> simp <;> omega
      · split <;> simp
theorem credit_len (l : List S31) (c a n : Int) : (creditS l c a n).1.length ≤ 5 := by
  unfold creditS
  by_cases hA : okA l c = true
  · obtain ⟨_, h4, _⟩ := okA_len hA
    have := set_len l a (balL l a + n)
    simp only [hA, if_true]
    split
    · split
      · simp
      · split
        · simp
        · show (setL l a (balL l a + n)).length ≤ 5
          omega
    · simp
  · simp [hA]
theorem debit_len (l : List S31) (c a n : Int) : (debitS l c a n).1.length ≤ 5 := by
  unfold debitS
  by_cases hA : okA l c = true
  · obtain ⟨_, h4, _⟩ := okA_len hA
    have := set_len l a (balL l a - n)
    simp only [hA, if_true]
    split
    · split
      · simp
      · split
        · simp
        · show (setL l a (balL l a - n)).length ≤ 5
          omega
    · simp
  · simp [hA]
theorem credit_yes {l : List S31} {c a n : Int} (h : (creditS l c a n).2.2 = 0) : okA l c = true ∧ argsOk a n = true ∧ balL l a ≤ MX - n ∧ c ≠ 1000000000 ∧ creditS l c a n = (setL l a (balL l a + n), c + 1, 0) := by
  unfold creditS at h ⊢
  by_cases hA : okA l c = true
  rotate_left
  · rw [if_neg hA] at h; simp at h
  rw [if_pos hA] at h ⊢
  by_cases hB : argsOk a n = true
  rotate_left
  · rw [if_neg hB] at h; simp at h
  rw [if_pos hB] at h ⊢
  by_cases h1 : balL l a > MX - n
  · rw [if_pos h1] at h; simp at h
  rw [if_neg h1] at h ⊢
  by_cases h2 : c = 1000000000
  · rw [if_pos h2] at h; simp at h
  rw [if_neg h2]
  exact ⟨hA, hB, by omega, h2, rfl⟩
theorem credit_no {l : List S31} {c a n : Int} (h : (creditS l c a n).2.2 ≠ 0) : (creditS l c a n).1 = [] := by
  unfold creditS at h ⊢
  by_cases hA : okA l c = true
  rotate_left
  · rw [if_neg hA]
  rw [if_pos hA] at h ⊢
  by_cases hB : argsOk a n = true
  rotate_left
  · rw [if_neg hB]
  rw [if_pos hB] at h ⊢
  by_cases h1 : balL l a > MX - n
  · rw [if_pos h1]
  rw [if_neg h1] at h ⊢
  by_cases h2 : c = 1000000000
  · rw [if_pos h2]
  rw [if_neg h2] at h
  simp at h
theorem debit_yes {l : List S31} {c a n : Int} (h : (debitS l c a n).2.2 = 0) : okA l c = true ∧ argsOk a n = true ∧ n ≤ balL l a ∧ c ≠ 1000000000 ∧ debitS l c a n = (setL l a (balL l a - n), c + 1, 0) := by
  unfold debitS at h ⊢
  by_cases hA : okA l c = true
  rotate_left
  · rw [if_neg hA] at h; simp at h
  rw [if_pos hA] at h ⊢
  by_cases hB : argsOk a n = true
  rotate_left
  · rw [if_neg hB] at h; simp at h
  rw [if_pos hB] at h ⊢
  by_cases h1 : balL l a < n
  · rw [if_pos h1] at h; simp at h
  rw [if_neg h1] at h ⊢
  by_cases h2 : c = 1000000000
  · rw [if_pos h2] at h; simp at h
  rw [if_neg h2]
  exact ⟨hA, hB, by omega, h2, rfl⟩

theorem ok_mono : ∀ (l : List S31) (x y : Int), okL x l = true → y ≤ x → okL y l = true
  | [], _, _, _, _ => rfl
  | z :: zs, x, y, h, hxy => by
    simp only [okL, Bool.and_eq_true, decide_eq_true_eq] at h ⊢
    exact ⟨by omega, h.2⟩
theorem ok_set : ∀ (l : List S31) (last a n : Int), okL last l = true → last < a → a ≤ 3 → 0 ≤ n → n ≤ MX → okL last (setL l a n) = true
  | [], last, a, n, _, h1, h2, h3, h4 => by
    unfold setL
    split
    · rfl
    · simp [okL]; omega
  | x :: xs, last, a, n, h, h1, h2, h3, h4 => by
    obtain ⟨ht, hx⟩ := ok_tail h
    unfold setL
    split
    · simp only [okL, Bool.and_eq_true, decide_eq_true_eq]
      exact ⟨hx, ok_set xs x.f0 a n ht (by assumption) h2 h3 h4⟩
    · split
      · split
        · exact ok_mono xs x.f0 last ht (by omega)
        · simp only [okL, Bool.and_eq_true, decide_eq_true_eq]
          exact ⟨by omega, ok_mono xs x.f0 a ht (by omega)⟩
      · split
        · exact h
        · simp only [okL, Bool.and_eq_true, decide_eq_true_eq]
          exact ⟨by omega, by omega, ht⟩
theorem bal_gt : ∀ (l : List S31) (last a : Int), okL last l = true → a ≤ last → balL l a = 0
  | [], _, _, _, _ => rfl
  | x :: xs, last, a, h, h1 => by
    obtain ⟨ht, hx⟩ := ok_tail h
    unfold balL
    rw [if_neg (by omega), bal_gt xs x.f0 a ht (by omega)]
theorem bal_set : ∀ (l : List S31) (last a b n : Int), okL last l = true → 0 ≤ n → balL (setL l a n) b = if b = a then n else balL l b
  | [], last, a, b, n, _, h0 => by
    unfold setL
    by_cases hb : b = a
    · subst hb
      split <;> simp [balL] <;> omega
    · have : ¬ a = b := fun h => hb h.symm
      split <;> simp [balL, hb, this]
  | x :: xs, last, a, b, n, h, h0 => by
    obtain ⟨ht, hx⟩ := ok_tail h
    have ih := bal_set xs x.f0 a b n ht h0
    unfold setL
    by_cases h1 : x.f0 < a
    · rw [if_pos h1]
      unfold balL
      rw [ih]
      by_cases h2 : x.f0 = b
      · rw [if_pos h2, if_neg (by omega), if_pos h2]
      · rw [if_neg h2, if_neg h2]
    · rw [if_neg h1]
      by_cases h2 : x.f0 = a
      · rw [if_pos h2]
        by_cases hn : n = 0
        · rw [if_pos hn]
          by_cases hb : b = a
          · rw [if_pos hb, bal_gt xs x.f0 b ht (by omega), hn]
          · rw [if_neg hb]
            conv => rhs; unfold balL
            rw [if_neg (by omega)]
        · rw [if_neg hn]
          conv => lhs; unfold balL
          by_cases hb : b = a
          · rw [if_pos hb.symm, if_pos hb]
          · rw [if_neg (fun h => hb h.symm), if_neg hb]
            conv => rhs; unfold balL
            rw [if_neg (by omega)]
      · rw [if_neg h2]
        by_cases hn : n = 0
        · rw [if_pos hn]
          by_cases hb : b = a
          · rw [if_pos hb]
            unfold balL
            rw [if_neg (by omega), bal_gt xs x.f0 b ht (by omega), hn]
          · rw [if_neg hb]
        · rw [if_neg hn]
          conv => lhs; unfold balL
          by_cases hb : b = a
          · rw [if_pos hb.symm, if_pos hb]
          · rw [if_neg (fun h => hb h.symm), if_neg hb]
/-- two sets of one asset -/
theorem set_set : ∀ (l : List S31) (last a m n : Int), okL last l = true → m ≠ 0 → setL (setL l a m) a n = setL l a n
  | [], last, a, m, n, _, hm => by
    simp [setL, hm]
  | x :: xs, last, a, m, n, h, hm => by
    obtain ⟨ht, hx⟩ := ok_tail h
    by_cases h1 : x.f0 < a
    · simp [setL, h1, set_set xs x.f0 a m n ht hm]
    · by_cases h2 : x.f0 = a
      · simp [setL, h2, hm]
      · simp [setL, h1, h2, hm]
/-- what was set comes back -/
theorem set_back : ∀ (l : List S31) (last a m : Int), okL last l = true → m ≠ 0 → setL (setL l a m) a (balL l a) = l
  | [], last, a, m, _, hm => by simp [setL, hm, balL]
  | x :: xs, last, a, m, h, hm => by
    obtain ⟨ht, hx⟩ := ok_tail h
    by_cases h1 : x.f0 < a
    · have h2 : ¬ x.f0 = a := by omega
      have ih := set_back xs x.f0 a m ht hm
      simp only [setL, h1, if_true, balL, h2, if_false, ih]
    · by_cases h2 : x.f0 = a
      · have h3 : x.f1 ≠ 0 := by omega
        cases x
        simp only at h2 h3 ⊢
        simp [setL, h2, hm, balL, h3]
      · have h3 : balL xs a = 0 := bal_gt xs x.f0 a ht (by omega)
        simp [setL, h1, h2, hm, balL, h3]
/-- two unlike assets, in either order -/
theorem set_apart : ∀ (l : List S31) (last a b m n : Int), okL last l = true → a ≠ b → m ≠ 0 → n ≠ 0 → setL (setL l a m) b n = setL (setL l b n) a m := by
  intro l
  induction l with
  | nil =>
    intro last a b m n h hab hm hn
    have hba : ¬ b = a := fun h => hab h.symm
    by_cases h1 : a < b
    · have h2 : ¬ b < a := by omega
      simp [setL, hm, hn, h1, h2, hab, hba]
    · have h2 : b < a := by omega
      simp [setL, hm, hn, h1, h2, hab, hba]
  | cons x xs ih =>
    intro last a b m n h hab hm hn
    obtain ⟨ht, hx⟩ := ok_tail h
    have ih := ih x.f0 a b m n ht hab hm hn
    have hba : ¬ b = a := fun h => hab h.symm
    by_cases h1 : x.f0 < a <;> by_cases h2 : x.f0 < b
    · simp [setL, h1, h2, ih]
    · have h3 : b < a := by omega
      have h4 : ¬ a < b := by omega
      by_cases h5 : x.f0 = b
      · simp [setL, h1, h2, h3, h5, hn]
      · simp [setL, h1, h2, h3, h5, hn]
    · have h3 : a < b := by omega
      have h4 : ¬ b < a := by omega
      by_cases h5 : x.f0 = a
      · simp [setL, h1, h2, h3, h5, hm]
      · simp [setL, h1, h2, h3, h5, hm]
    · by_cases h5 : x.f0 = a <;> by_cases h6 : x.f0 = b
      · omega
      · have h3 : a < b ∨ b < a := by omega
        rcases h3 with h3 | h3
        · omega
        · have h4 : ¬ a < b := by omega
          simp [setL, h1, h2, h3, h4, h5, h6, hm, hn, hab, hba]
      · have h3 : a < b ∨ b < a := by omega
        rcases h3 with h3 | h3
        · have h4 : ¬ b < a := by omega
          simp [setL, h1, h2, h3, h4, h5, h6, hm, hn, hab, hba]
        · omega
      · have h3 : a < b ∨ b < a := by omega
        rcases h3 with h3 | h3
        · have h4 : ¬ b < a := by omega
          simp [setL, h1, h2, h3, h4, h5, h6, hm, hn, hab, hba]
        · have h4 : ¬ a < b := by omega
          simp [setL, h1, h2, h3, h4, h5, h6, hm, hn, hab, hba]
end Go.Proofs.Ythblegfihenflaa.Plain
