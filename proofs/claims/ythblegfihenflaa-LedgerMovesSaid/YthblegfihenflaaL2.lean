/- Plain laws of accounts: the document's own functions come to the same. -/
import Derived.Test.YthblegfihenflaaPx9
import Derived.Test.YthblegfihenflaaPx10
import Derived.Test.YthblegfihenflaaPx11
import Derived.Test.YthblegfihenflaaPx12
import Derived.Test.YthblegfihenflaaPx13
import Derived.Test.YthblegfihenflaaPx14
import Derived.Test.YthblegfihenflaaPx2
import Derived.Test.YthblegfihenflaaL1
namespace Go.Proofs.Ythblegfihenflaa.Plain
open Go.RowKit Go.Proofs.Ythblegfihenflaa.P Go.Proofs.YthblegfihenflaaW.PrintWords Go.Proofs.YthblegfihenflaaG
set_option linter.unusedVariables false

/-- the document's walk: behind the first element, each against the one ahead of it -/
theorem amounts_loop (l : List S31) (hl : l.length ≤ 9223372036854775807) : ∀ (r : List S31) (i : Nat) (last : Int), l.drop i = r → i ≤ l.length → (i = 0 → last = -1) → (0 < i → ∃ x, l[i - 1]? = some x ∧ x.f0 = last ∧ 0 ≤ last) →
    Ev (fun k => rialtoref12_Amounts.l0 k l (i : Int)) (okL last r) := by
  intro r
  induction r with
  | nil =>
    intro i last h hi _ _
    obtain rfl := drop_nil h hi
    exact Ev.step (fun k => by simp only [rialtoref12_Amounts.l0]; rfl) (Ev.neg (by omega) (Ev.now _))
  | cons x xs ih =>
    intro i last h hi hz hp
    obtain ⟨hx, hil, hd⟩ := rd_at h
    have hprev : 0 < i → rd_T31 l (wrap64 ((i : Int) - 1)) = (l[i - 1]?).getD z31 ∧ 0 ≤ wrap64 ((i : Int) - 1) ∧ wrap64 ((i : Int) - 1) < (l.length : Int) := fun h0 => by
      have e : wrap64 ((i : Int) - 1) = ((i - 1 : Nat) : Int) := by rw [w64 (by omega) (by omega)]; omega
      rw [e]
      refine ⟨?_, by omega, by omega⟩
      unfold rd_T31
      rw [Int.toNat_natCast, List.getD_eq_getElem?_getD]
    refine Ev.step (fun k => by simp only [rialtoref12_Amounts.l0]; rfl) ?_
    rw [hx, next i l.length hil hl]
    refine Ev.pos (by omega) (Ev.pos (by omega) ?_)
    have hlast : -1 ≤ last := by
      by_cases h0 : i = 0
      · rw [hz h0]; omega
      · obtain ⟨_, _, _, h⟩ := hp (by omega); omega
    by_cases h1 : x.f0 < 0
    · have e : okL last (x :: xs) = false := by simp [okL]; omega
      rw [e]; exact Ev.pos h1 (Ev.now _)
    refine Ev.neg h1 ?_
    by_cases h2 : x.f0 > 3
    · have e : okL last (x :: xs) = false := by simp [okL]; omega
      rw [e]; exact Ev.pos h2 (Ev.now _)
    refine Ev.neg h2 ?_
    by_cases h3 : x.f1 < 1
    · have e : okL last (x :: xs) = false := by simp [okL]; omega
      rw [e]; exact Ev.pos h3 (Ev.now _)
    refine Ev.neg h3 ?_
    by_cases h4 : x.f1 > 9007199254740992
    · have e : okL last (x :: xs) = false := by simp [okL, MX]; omega
      rw [e]; exact Ev.pos h4 (Ev.now _)
    refine Ev.neg h4 ?_
    have hgo : last < x.f0 → Ev (fun k => rialtoref12_Amounts.l0 k l ((i + 1 : Nat) : Int)) (okL last (x :: xs)) := fun hlt => by
      have e : okL last (x :: xs) = okL x.f0 xs := by
        simp only [okL]
        rw [decide_eq_true (by unfold MX; omega)]; rfl
      rw [e]
      refine ih (i + 1) x.f0 hd (by omega) (by omega) (fun _ => ⟨x, ?_, rfl, by omega⟩)
      rw [Nat.add_sub_cancel, rd_get hil, hx]
    by_cases h0 : i = 0
    · refine Ev.neg (by omega) (hgo ?_)
      rw [hz h0]; omega
    · obtain ⟨q, hq, hql, hq0⟩ := hp (by omega)
      obtain ⟨e1, e2, e3⟩ := hprev (by omega)
      rw [hq] at e1
      refine Ev.pos (by omega) (Ev.pos e2 (Ev.pos e3 ?_))
      rw [e1]
      simp only [Option.getD_some, hql]
      by_cases h5 : last ≥ x.f0
      · have e : okL last (x :: xs) = false := by simp [okL]; omega
        rw [e]; exact Ev.pos h5 (Ev.now _)
      · exact Ev.neg h5 (hgo (by omega))
theorem amounts_ev (l : List S31) (hl : l.length ≤ 9223372036854775807) : Ev (fun k => rialtoref12_Amounts.f k l) (okL (-1) l) :=
  amounts_loop l hl l 0 (-1) rfl (Nat.zero_le _) (fun _ => rfl) (fun h => absurd h (by omega))
theorem rcheck_ev (l : List S31) (c : Int) (hl : l.length ≤ 9223372036854775807) : Ev (fun k => rialtoref12_Check.f k l c) (if okA l c = true then 0 else 120) := by
  unfold rialtoref12_Check.f
  refine Ev.bind (amounts_ev l hl) ?_
  unfold okA
  cases okL (-1) l with
  | false => simp only [Bool.false_and]; exact Ev.neg (by simp) (Ev.now _)
  | true =>
    refine Ev.pos rfl ?_
    simp only [Bool.true_and, decide_eq_true_eq]
    by_cases h0 : c < 0
    · have e : ¬ (0 ≤ c ∧ c ≤ 1000000000) := by omega
      simp only [e, if_false]; exact Ev.pos h0 (Ev.now _)
    · refine Ev.neg h0 ?_
      by_cases h1 : c > 1000000000
      · have e : ¬ (0 ≤ c ∧ c ≤ 1000000000) := by omega
        simp only [e, if_false]; exact Ev.pos h1 (Ev.now _)
      · have e : (0 ≤ c ∧ c ≤ 1000000000) := by omega
        simp only [e, if_true, and_self]; exact Ev.neg h1 (Ev.now _)
theorem rbal_loop (l : List S31) (a c : Int) (hl : l.length ≤ 9223372036854775807) : ∀ (r : List S31) (i : Nat), l.drop i = r → i ≤ l.length → Ev (fun k => rialtoref12_Balance.l0 k a (i : Int) l c) (balL r a) := by
  intro r
  induction r with
  | nil =>
    intro i h hi
    obtain rfl := drop_nil h hi
    exact Ev.step (fun k => by simp only [rialtoref12_Balance.l0]; rfl) (Ev.neg (by omega) (Ev.now _))
  | cons x xs ih =>
    intro i h hi
    obtain ⟨hx, hil, hd⟩ := rd_at h
    refine Ev.step (fun k => by simp only [rialtoref12_Balance.l0]; rfl) ?_
    rw [hx, next i l.length hil hl]
    refine Ev.pos (by omega) (Ev.pos (by omega) ?_)
    unfold balL
    by_cases h1 : x.f0 = a
    · rw [if_pos h1]; exact Ev.pos h1 (Ev.now _)
    · rw [if_neg h1]; exact Ev.neg h1 (ih (i + 1) hd (by omega))
theorem rbal_ev (l : List S31) (c a : Int) (hl : l.length ≤ 9223372036854775807) : Ev (fun k => rialtoref12_Balance.f k l c a) (balL l a) := rbal_loop l a c hl l 0 rfl (Nat.zero_le _)
theorem same2_ev (l m : List S31) (c d : Int) (hl : l.length ≤ 9223372036854775807) : Ev (fun k => rialtoref12_Same.f k l c m d) (decide (c = d ∧ l = m)) := by
  unfold rialtoref12_Same.f
  by_cases h : c = d
  · refine Ev.pos h (Ev.bind (same_ev l m hl) ?_)
    have : decide (c = d ∧ l = m) = decide (l = m) := by simp [h]
    rw [this]; exact Ev.now _
  · refine Ev.neg h ?_
    have : decide (c = d ∧ l = m) = false := by simp [h]
    rw [this]; exact Ev.now _
theorem copy_f (l : List S31) (c : Int) (h : l.length < 8796093022208) : rialtoref12_Copy.f l c = some (l, c) := by
  unfold rialtoref12_Copy.f
  simp [h]

/-- the document's Set, as it goes -/
def goSet (a n : Int) : Bool → List S31 → List S31
  | put, [] => if put = true then [] else [⟨a, n⟩]
  | put, x :: xs => (if put = false ∧ x.f0 ≥ a then [⟨a, n⟩] else []) ++ (if x.f0 = a then [] else [x]) ++ goSet a n (put || decide (x.f0 ≥ a)) xs
theorem set_loop (l : List S31) (a n : Int) (h4 : l.length ≤ 4) : ∀ (r : List S31) (i : Nat) (acc : List S31) (put : Bool), l.drop i = r → i ≤ l.length → acc.length ≤ i + put.toNat →
    Ev (fun k => rialtoref12_Set.l0 k l a n acc put (i : Int)) (acc ++ goSet a n put r) := by
  intro r
  induction r with
  | nil =>
    intro i acc put h hi ha
    obtain rfl := drop_nil h hi
    refine Ev.step (fun k => by simp only [rialtoref12_Set.l0]; rfl) (Ev.neg (by omega) ?_)
    have hpt : put.toNat ≤ 1 := by cases put <;> simp
    cases put with
    | true => refine Ev.pos rfl ?_; simp only [goSet, if_true, List.append_nil]; exact Ev.now _
    | false => refine Ev.neg (by simp) (Ev.pos (by simp at ha; omega) ?_); simp only [goSet]; exact Ev.now _
  | cons x xs ih =>
    intro i acc put h hi ha
    obtain ⟨hx, hil, hd⟩ := rd_at h
    have hnx := next i l.length hil (by omega)
    have hbt : ∀ b : Bool, b.toNat ≤ 1 := fun b => by cases b <;> simp
    have go : ∀ (b : Bool) (acc' : List S31), acc'.length ≤ i + b.toNat → b = put → Ev (fun k => rialtoref12_Set.j1 k l a n acc' b (i : Int) false) (acc' ++ ((if x.f0 = a then [] else [x]) ++ goSet a n b xs)) := fun b acc' ha' hb => by
      refine Ev.step (fun k => by simp only [rialtoref12_Set.j1]; rfl) (Ev.neg (by simp) (Ev.pos (by omega) (Ev.pos (by omega) ?_)))
      rw [hx, hnx]
      have := hbt b
      by_cases he : x.f0 = a
      · refine Ev.pos he ?_
        rw [if_pos he, List.nil_append]
        exact ih (i + 1) acc' b hd (by omega) (by omega)
      · refine Ev.neg he (Ev.pos (by omega) ?_)
        rw [if_neg he, ← List.append_assoc]
        exact ih (i + 1) (acc' ++ [x]) b hd (by omega) (by simp; omega)
    refine Ev.step (fun k => by simp only [rialtoref12_Set.l0]; rfl) (Ev.pos (by omega) ?_)
    cases put with
    | true =>
      refine Ev.pos rfl ?_
      simp only [goSet, Bool.true_or, List.append_assoc]
      simpa using go true acc ha rfl
    | false =>
      refine Ev.neg (by simp) (Ev.pos (by omega) ?_)
      rw [hx]
      by_cases hge : x.f0 ≥ a
      · simp only [hge, decide_true]
        refine Ev.step (fun k => by simp only [rialtoref12_Set.j1]; rfl) ?_; refine Ev.pos (by simp) (Ev.pos (by simp at ha; omega) ?_)
        simp only [Option.bind_some, hx, hnx]
        refine Ev.pos (by omega) (Ev.pos (by omega) ?_)
        simp only [goSet, hge, Bool.false_or, decide_true, and_self, if_true, List.append_assoc]
        by_cases he : x.f0 = a
        · refine Ev.pos he ?_
          rw [if_pos he, List.nil_append, ← List.append_assoc]
          exact ih (i + 1) (acc ++ [⟨a, n⟩]) true hd (by omega) (by rw [List.length_append, List.length_singleton]; simp at ha ⊢; omega)
        · refine Ev.neg he (Ev.pos (by simp at ha ⊢; omega) ?_)
          rw [if_neg he]
          show Ev (fun k => rialtoref12_Set.l0 k l a n (acc ++ ([⟨a, n⟩] ++ [x])) true ((i + 1 : Nat) : Int)) (acc ++ ([⟨a, n⟩] ++ ([x] ++ goSet a n true xs)))
          rw [← List.append_assoc, ← List.append_assoc, ← List.append_assoc]
          exact ih (i + 1) (acc ++ [⟨a, n⟩] ++ [x]) true hd (by omega) (by rw [List.length_append, List.length_append, List.length_singleton, List.length_singleton]; simp at ha ⊢; omega)
      · simp only [hge, decide_false]
        simp only [goSet, hge, Bool.false_or, decide_false, and_false, if_false, List.nil_append]
        exact go false acc ha rfl
theorem goSet_put : ∀ (l : List S31) (last a n : Int), okL last l = true → a ≤ last → goSet a n true l = l
  | [], _, a, n, _, _ => by simp [goSet]
  | x :: xs, last, a, n, h, hlt => by
    obtain ⟨h1, h2⟩ := ok_tail h
    have : ¬ x.f0 = a := by omega
    simp [goSet, this, goSet_put xs x.f0 a n h1 (by omega)]
theorem goSet_eq : ∀ (l : List S31) (last a n : Int), okL last l = true → n ≠ 0 → goSet a n false l = setL l a n
  | [], _, a, n, _, hn => by simp [goSet, setL, hn]
  | x :: xs, last, a, n, h, hn => by
    obtain ⟨h1, h2⟩ := ok_tail h
    unfold goSet setL
    by_cases h3 : x.f0 < a
    · have e1 : ¬ x.f0 ≥ a := by omega
      have e2 : ¬ x.f0 = a := by omega
      simp [e1, e2, h3, goSet_eq xs x.f0 a n h1 hn]
    · have e1 : x.f0 ≥ a := by omega
      by_cases h4 : x.f0 = a
      · simp [h4, hn, goSet_put xs x.f0 a n h1 (by omega)]
      · simp [h3, h4, e1, hn, goSet_put xs x.f0 a n h1 (by omega)]
theorem goSet_zero : ∀ (l : List S31) (last a : Int), okL last l = true → goSet a 0 true l = setL l a 0
  | [], _, a, _ => by simp [goSet, setL]
  | x :: xs, last, a, h => by
    obtain ⟨h1, h2⟩ := ok_tail h
    unfold goSet setL
    by_cases h3 : x.f0 < a
    · have e2 : ¬ x.f0 = a := by omega
      simp [e2, h3, goSet_zero xs x.f0 a h1]
    · by_cases h4 : x.f0 = a
      · simp [h4, goSet_put xs x.f0 a 0 h1 (by omega)]
      · simp [h3, h4, goSet_put xs x.f0 a 0 h1 (by omega)]
theorem rset_ev (l : List S31) (a n : Int) (ho : okL (-1) l = true) (h4 : l.length ≤ 4) : Ev (fun k => rialtoref12_Set.f k l a n) (setL l a n) := by
  unfold rialtoref12_Set.f
  have h := set_loop l a n h4 l 0 [] (n == 0) rfl (Nat.zero_le _) (by simp)
  by_cases hn : n = 0
  · subst hn
    have e : goSet a 0 ((0 : Int) == 0) l = setL l a 0 := goSet_zero l (-1) a ho
    rw [List.nil_append, e] at h
    exact h
  · have e : (n == 0) = false := by simpa using hn
    rw [e, List.nil_append, goSet_eq l (-1) a n ho hn] at h
    rw [e]
    exact h

def movesS (l : List S31) (c a n sign : Int) : List S31 × Int × Int :=
  if okA l c = true then (if argsOk a n = true then (if sign < 0 ∧ balL l a < n then ([], 0, 121) else if balL l a + sign * n > MX ∨ c = 1000000000 then ([], 0, 122) else (setL l a (balL l a + sign * n), c + 1, 0)) else ([], 0, 1)) else ([], 0, 120)
theorem moves_ev (l : List S31) (c a n sign : Int) (hl : l.length ≤ 9223372036854775807) (hs : sign = 1 ∨ sign = -1) : Ev (fun k => rialtoref12_moves.f k l c a n sign) (movesS l c a n sign) := by
  unfold rialtoref12_moves.f movesS
  refine Ev.bind (rcheck_ev l c hl) ?_
  by_cases hA : okA l c = true
  rotate_left
  · simp only [hA]
    exact Ev.neg (by simp) (Ev.now _)
  have hbad : argsOk a n = false → Ev (fun k => rialtoref12_moves.j0 k a n sign true l c) (if argsOk a n = true then (if sign < 0 ∧ balL l a < n then ([], 0, 121) else if balL l a + sign * n > MX ∨ c = 1000000000 then ([], 0, 122) else (setL l a (balL l a + sign * n), c + 1, 0)) else ([], 0, 1)) := fun hB => by
    simp only [hB]
    refine Ev.step (fun k => by simp only [rialtoref12_moves.j0]; rfl) ?_; exact Ev.pos (by simp) (Ev.now _)
  simp only [hA, if_true]
  by_cases h1 : a < 0
  · exact Ev.pos h1 (hbad (by simp [argsOk]; omega))
  refine Ev.neg h1 ?_
  by_cases h2 : a > 3
  · exact Ev.pos h2 (hbad (by simp [argsOk]; omega))
  refine Ev.neg h2 ?_
  by_cases h3 : n < 1
  · exact Ev.pos h3 (hbad (by simp [argsOk]; omega))
  refine Ev.neg h3 ?_
  by_cases h5 : n > 9007199254740992
  · simp only [h5, decide_true]
    exact hbad (by simp [argsOk, MX]; omega)
  simp only [h5, decide_false]
  have hB : argsOk a n = true := by simp [argsOk, MX]; omega
  simp only [hB, if_true]
  obtain ⟨ho, h4, hc0, hc1⟩ := okA_len hA
  have hbb := bal_bd a ho
  unfold MX at hbb ⊢
  have hw1 : wrap64 (sign * n) = sign * n := by rcases hs with rfl | rfl <;> exact w64 (by omega) (by omega)
  have hw2 : wrap64 (balL l a + sign * n) = balL l a + sign * n := by rcases hs with rfl | rfl <;> exact w64 (by omega) (by omega)
  refine Ev.step (fun k => by simp only [rialtoref12_moves.j0]; rfl) (Ev.neg (by simp) ?_)
  refine Ev.bind (rbal_ev l c a (by omega)) ?_
  have hend : ¬ (sign < 0 ∧ balL l a < n) → Ev (fun k => rialtoref12_moves.j1 k a n sign (balL l a) false l c) (if sign < 0 ∧ balL l a < n then ([], 0, 121) else if balL l a + sign * n > 9007199254740992 ∨ c = 1000000000 then ([], 0, 122) else (setL l a (balL l a + sign * n), c + 1, 0)) := fun hno => by
    simp only [if_neg hno]
    refine Ev.step (fun k => by simp only [rialtoref12_moves.j1]; rfl) (Ev.neg (by simp) ?_)
    rw [hw1, hw2]
    by_cases h6 : balL l a + sign * n > 9007199254740992
    · simp only [h6, true_or, if_true]; exact Ev.now _
    · simp only [h6, false_or, if_false]
      by_cases h7 : c = 1000000000
      · simp only [h7, if_true]; exact Ev.now _
      · simp only [h7, if_false]
        refine Ev.bind (rset_ev l a _ ho h4) ?_
        rw [w64 (i := c + 1) (by omega) (by omega)]
        exact Ev.now _
  by_cases hsg : sign < 0
  · refine Ev.pos hsg ?_
    by_cases hlt : balL l a < n
    · simp only [hlt, decide_true, hsg, and_self, if_true]
      refine Ev.step (fun k => by simp only [rialtoref12_moves.j1]; rfl) ?_; exact Ev.pos (by simp) (Ev.now _)
    · simp only [hlt, decide_false]
      have := hend (by omega)
      simpa only [hlt, and_false, if_false] using this
  · exact Ev.neg hsg (hend (by omega))
theorem rcredit_ev (l : List S31) (c a n : Int) (hl : l.length ≤ 9223372036854775807) : Ev (fun k => rialtoref12_Credit.f k l c a n) (creditS l c a n) := by
  unfold rialtoref12_Credit.f
  refine Ev.bind (moves_ev l c a n 1 hl (.inl rfl)) ?_
  have e : movesS l c a n 1 = creditS l c a n := by
    unfold movesS creditS
    by_cases hA : okA l c = true
    · by_cases hB : argsOk a n = true
      · obtain ⟨ho, _⟩ := okA_len hA
        obtain ⟨ha0, ha3, hn1, hnM⟩ := args_ok hB
        simp only [hA, hB, if_true, Int.one_mul]
        have e0 : ¬ ((1 : Int) < 0 ∧ balL l a < n) := by omega
        rw [if_neg e0]
        by_cases h6 : balL l a > MX - n
        · rw [if_pos (Or.inl (by omega)), if_pos h6]
        · by_cases h7 : c = 1000000000
          · rw [if_pos (Or.inr h7), if_neg h6, if_pos h7]
          · rw [if_neg (by omega), if_neg h6, if_neg h7]
      · simp only [hA, hB, if_true]; rfl
    · simp only [hA]; rfl
  rw [e]
  exact Ev.now _
theorem rdebit_ev (l : List S31) (c a n : Int) (hl : l.length ≤ 9223372036854775807) : Ev (fun k => rialtoref12_Debit.f k l c a n) (debitS l c a n) := by
  unfold rialtoref12_Debit.f
  refine Ev.bind (moves_ev l c a n (-1) hl (.inr rfl)) ?_
  have e : movesS l c a n (-1) = debitS l c a n := by
    unfold movesS debitS
    by_cases hA : okA l c = true
    · by_cases hB : argsOk a n = true
      · obtain ⟨ho, _⟩ := okA_len hA
        obtain ⟨ha0, ha3, hn1, hnM⟩ := args_ok hB
        have hbb := bal_bd a ho
        simp only [hA, hB, if_true]
        by_cases h5 : balL l a < n
        · rw [if_pos ⟨by omega, h5⟩, if_pos h5]
        · rw [if_neg (by omega), if_neg h5]
          have em : balL l a + -1 * n = balL l a - n := by omega
          rw [em]
          by_cases h7 : c = 1000000000
          · rw [if_pos (Or.inr h7), if_pos h7]
          · rw [if_neg (by omega), if_neg h7]
      · simp only [hA, hB, if_true]; rfl
    · simp only [hA]; rfl
  rw [e]
  exact Ev.now _
end Go.Proofs.Ythblegfihenflaa.Plain
