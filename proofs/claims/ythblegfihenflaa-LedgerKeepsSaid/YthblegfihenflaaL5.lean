/- Plain laws of accounts: what accounts have in all, by the program's and the document's way. -/
import Derived.Test.YthblegfihenflaaPx2
import Derived.Test.YthblegfihenflaaPx19
import Derived.Test.YthblegfihenflaaPx21
import Derived.Test.YthblegfihenflaaPx23
import Derived.Test.YthblegfihenflaaPx14
import Derived.Test.YthblegfihenflaaL2
namespace Go.Proofs.Ythblegfihenflaa.Plain
open Go.RowKit Go.Proofs.Ythblegfihenflaa.P Go.Proofs.YthblegfihenflaaW.PrintWords Go.Proofs.YthblegfihenflaaG
set_option linter.unusedSimpArgs false
set_option linter.unusedVariables false

theorem bal_gt' : ∀ (l : List S31) (last a : Int), okL last l = true → a ≤ last → balL l a = 0
  | [], _, _, _, _ => rfl
  | x :: xs, last, a, h, ha => by
    obtain ⟨h1, h2, _⟩ := ok_tail h
    unfold balL
    rw [if_neg (by omega)]
    exact bal_gt' xs x.f0 a h1 (by omega)
theorem balL_cons (x : S31) (xs : List S31) (a : Int) : balL (x :: xs) a = if x.f0 = a then x.f1 else balL xs a := rfl
theorem getD_set (s : List Int) (i j : Nat) (v : Int) (hi : i < s.length) : (s.set i v).getD j 0 = if i = j then v else s.getD j 0 := by
  simp only [List.getD_eq_getElem?_getD, List.getElem?_set]
  split
  · next h => subst h; simp [hi]
  · rfl
theorem add_ok (M : Int) (hM : M + MX ≤ 9223372036854775807) : ∀ (l : List S31) (last : Int) (s : List Int), okL last l = true → -1 ≤ last → s.length = 4 →
    (∀ a : Nat, a < 4 → last < (a : Int) → 0 ≤ s.getD a 0 ∧ s.getD a 0 ≤ M) →
    ∃ s', tot_add l s = some s' ∧ s'.length = 4 ∧ ∀ a : Nat, a < 4 → s'.getD a 0 = s.getD a 0 + balL l a
  | [], last, s, _, _, h4, _ => ⟨s, rfl, h4, fun a _ => by simp [balL]⟩
  | x :: xs, last, s, h, h1, h4, hb => by
    obtain ⟨ht, hx1, hx2, hx3, hx4⟩ := ok_tail h
    obtain ⟨i, hi⟩ : ∃ i : Nat, (i : Int) = x.f0 := ⟨x.f0.toNat, by omega⟩
    have hi4 : i < 4 := by omega
    have hit : x.f0.toNat = i := by omega
    obtain ⟨b0, b1⟩ := hb i hi4 (by omega)
    have hw : wrap64 (s.getD i 0 + x.f1) = s.getD i 0 + x.f1 := w64 (by omega) (by omega)
    obtain ⟨s', e, e4, eb⟩ := add_ok M hM xs x.f0 (s.set i (s.getD i 0 + x.f1)) ht (by omega) (by rw [List.length_set]; exact h4) (fun a ha hla => by
      rw [getD_set _ _ _ _ (by omega), if_neg (by omega)]
      exact hb a ha (by omega))
    refine ⟨s', ?_, e4, fun a ha => ?_⟩
    · simp only [tot_add]
      rw [if_pos (by omega), hit, hw]
      exact e
    · rw [eb a ha, getD_set _ _ _ _ (by omega), balL_cons]
      by_cases hia : i = a
      · subst hia
        rw [if_pos rfl, if_pos (by omega), bal_gt' xs x.f0 _ ht (by omega)]
        omega
      · rw [if_neg hia, if_neg (by omega)]
def sumB : List S24 → Int → Int
  | [], _ => 0
  | x :: xs, a => balL x.f0 a + sumB xs a
def allOk : List S24 → Bool
  | [] => true
  | x :: xs => okA x.f0 x.f1 && allOk xs
theorem bal_bd' {l : List S31} (a : Int) (ho : okL (-1) l = true) : 0 ≤ balL l a ∧ balL l a ≤ MX := bal_bd a ho
theorem tot_ev : ∀ (l : List S24) (i : Nat) (s : List Int), (∀ y ∈ l, y.f0.length ≤ 9223372036854775807) → i + l.length ≤ 1000 → s.length = 4 → (∀ a : Nat, a < 4 → 0 ≤ s.getD a 0 ∧ s.getD a 0 ≤ (i : Int) * MX) →
    ∃ s' : List Int, Ev (fun k => tot_l k l s) (if allOk l = true then (tot_out s' 4, 0) else ([], 120)) ∧ (allOk l = true → s'.length = 4 ∧ ∀ a : Nat, a < 4 → s'.getD a 0 = s.getD a 0 + sumB l a)
  | [], i, s, _, _, h4, _ => ⟨s, Ev.now _, fun _ => ⟨h4, fun a _ => by simp [sumB]⟩⟩
  | x :: xs, i, s, hl, hi, h4, hb => by
    by_cases hx : okA x.f0 x.f1 = true
    · have ho : okL (-1) x.f0 = true := (okA_len hx).1
      simp only [List.length_cons] at hi
      obtain ⟨s1, e1, e4, eb⟩ := add_ok ((i : Int) * MX) (by unfold MX; omega) x.f0 (-1) s ho (by omega) h4 (fun a ha _ => hb a ha)
      obtain ⟨s', ev, hs⟩ := tot_ev xs (i + 1) s1 (fun y hy => hl y (List.mem_cons_of_mem _ hy)) (by omega) e4 (fun a ha => by
        have := hb a ha
        have := bal_bd' (a : Int) ho
        rw [eb a ha]
        push_cast
        unfold MX at *
        omega)
      refine ⟨s', ?_, fun h => ?_⟩
      · simp only [tot_l, allOk, hx, Bool.true_and]
        refine Ev.bind (check_ev x.f0 x.f1 (hl x List.mem_cons_self)) ?_
        rw [if_pos hx]
        refine Ev.pos rfl ?_
        exact Ev.bind0 e1 ev
      · simp only [allOk, hx, Bool.true_and] at h
        obtain ⟨h1, h2⟩ := hs h
        refine ⟨h1, fun a ha => ?_⟩
        rw [h2 a ha, eb a ha]
        simp only [sumB]
        omega
    · refine ⟨s, ?_, fun h => by simp [allOk, hx] at h⟩
      simp only [tot_l, allOk, hx, Bool.false_and]
      refine Ev.bind (check_ev x.f0 x.f1 (hl x List.mem_cons_self)) ?_
      rw [if_neg hx]
      exact Ev.neg (by omega) (Ev.now _)
def totS (l : List S24) : List S31 × Int := if (l.length : Int) > 1000 then ([], 120) else if allOk l = true then (tot_out [sumB l 0, sumB l 1, sumB l 2, sumB l 3] 4, 0) else ([], 120)
theorem total_ev (l : List S24) (hl : ∀ y ∈ l, y.f0.length ≤ 9223372036854775807) : Ev (fun k => ledger_Total.f k l) (totS l) := by
  unfold ledger_Total.f totS
  by_cases h : (l.length : Int) > 1000
  · rw [if_pos h]; exact Ev.pos h (Ev.now _)
  rw [if_neg h]
  refine Ev.neg h ?_
  obtain ⟨s', ev, hs⟩ := tot_ev l 0 [0, 0, 0, 0] hl (by omega) rfl (fun a ha => by
    obtain rfl | rfl | rfl | rfl : a = 0 ∨ a = 1 ∨ a = 2 ∨ a = 3 := by omega
    all_goals simp)
  by_cases ha : allOk l = true
  · rw [if_pos ha] at ev ⊢
    obtain ⟨h4, hb⟩ := hs ha
    have e : s' = [sumB l 0, sumB l 1, sumB l 2, sumB l 3] := by
      match s', h4 with
      | [a, b, c, d], _ =>
        have q0 := hb 0 (by omega); have q1 := hb 1 (by omega); have q2 := hb 2 (by omega); have q3 := hb 3 (by omega)
        simp at q0 q1 q2 q3
        rw [q0, q1, q2, q3]
    rw [e] at ev
    exact ev
  · rw [if_neg ha] at ev ⊢
    exact ev
theorem rd24_at {l : List S24} {i : Nat} {x : S24} {xs : List S24} (h : l.drop i = x :: xs) : rd_T24 l (i : Int) = x ∧ i < l.length ∧ l.drop (i + 1) = xs := by
  have hi : i < l.length := by
    rcases Nat.lt_or_ge i l.length with h' | h'
    · exact h'
    · rw [List.drop_eq_nil_of_le h'] at h; cases h
  rw [List.drop_eq_getElem_cons hi] at h
  injection h with h1 h2
  refine ⟨?_, hi, h2⟩
  unfold rd_T24
  rw [Int.toNat_natCast, List.getD_eq_getElem?_getD, List.getElem?_eq_getElem hi]
  exact h1
theorem drop24_nil {l : List S24} {i : Nat} (h : l.drop i = []) (hi : i ≤ l.length) : i = l.length := by
  have := List.length_drop (l := l) (i := i)
  rw [h] at this
  simp at this
  omega
theorem sum_bd : ∀ (l : List S24) (a : Int), allOk l = true → 0 ≤ sumB l a ∧ sumB l a ≤ (l.length : Int) * MX
  | [], a, _ => by simp [sumB]
  | x :: xs, a, h => by
    simp only [allOk, Bool.and_eq_true] at h
    have h1 := sum_bd xs a h.2
    have h2 := bal_bd' a (okA_len h.1).1
    simp only [sumB, List.length_cons]
    push_cast
    unfold MX at *
    omega
theorem rt2_ev (l : List S24) (out : List S31) (a : Int) (hl : ∀ y ∈ l, y.f0.length ≤ 9223372036854775807) (hn : l.length ≤ 1000) (r : List S31 × Int)
    (hout : Ev (fun k => if sumB l a > 0 then (if out.length < 8796093022208 then rialtoref12_Total.l1 k l (out ++ [(⟨a, sumB l a⟩ : S31)]) (wrap64 (a + 1)) else none) else rialtoref12_Total.l1 k l out (wrap64 (a + 1))) r) :
    ∀ (t : List S24) (i : Nat) (n : Int), l.drop i = t → i ≤ l.length → allOk t = true → n + sumB t a = sumB l a → 0 ≤ n → n ≤ (i : Int) * MX → Ev (fun k => rialtoref12_Total.l2 k l out a n (i : Int)) r := by
  intro t
  induction t with
  | nil =>
    intro i n h hi _ hs h0 h1
    obtain rfl := drop24_nil h hi
    refine Ev.step (fun k => by simp only [rialtoref12_Total.l2]; rfl) ?_
    refine Ev.neg (by omega) ?_
    simp only [sumB, Int.add_zero] at hs
    rw [hs]
    exact hout
  | cons x xs ih =>
    intro i n h hi ho hs h0 h1
    obtain ⟨hx, hil, hd⟩ := rd24_at h
    have hm : x ∈ l := List.mem_of_mem_drop (h ▸ List.mem_cons_self)
    simp only [allOk, Bool.and_eq_true] at ho
    have hb := bal_bd' a (okA_len ho.1).1
    refine Ev.step (fun k => by simp only [rialtoref12_Total.l2]; rfl) ?_
    rw [hx, next i l.length hil (by omega)]
    refine Ev.pos (by omega) (Ev.pos (by omega) (Ev.bind (rbal_ev x.f0 x.f1 a (hl x hm)) ?_))
    simp only [sumB] at hs
    have hw : wrap64 (n + balL x.f0 a) = n + balL x.f0 a := by
      refine w64 (by omega) ?_
      unfold MX at *
      omega
    rw [hw]
    refine ih (i + 1) (n + balL x.f0 a) hd (by omega) ho.2 (by omega) (by omega) ?_
    push_cast
    unfold MX at *
    omega
theorem rt1_ev (l : List S24) (hl : ∀ y ∈ l, y.f0.length ≤ 9223372036854775807) (hn : l.length ≤ 1000) (ho : allOk l = true) : ∀ (j : Nat) (out : List S31), j ≤ 4 → out.length ≤ 4 - j →
    Ev (fun k => rialtoref12_Total.l1 k l out ((4 - j : Nat) : Int)) (out ++ tot_out [sumB l 0, sumB l 1, sumB l 2, sumB l 3] j, 0)
  | 0, out, _, _ => by
    refine Ev.step (fun k => by simp only [rialtoref12_Total.l1]; rfl) ?_
    rw [tot_out, List.append_nil]
    exact Ev.neg (by omega) (Ev.now _)
  | j + 1, out, hj, hlen => by
    refine Ev.step (fun k => by simp only [rialtoref12_Total.l1]; rfl) ?_
    refine Ev.pos (by omega) ?_
    obtain ⟨a, ha⟩ : ∃ a : Nat, a = 4 - (j + 1) := ⟨_, rfl⟩
    have ea : (4 - j : Nat) = a + 1 := by omega
    have hg : [sumB l 0, sumB l 1, sumB l 2, sumB l 3].getD a 0 = sumB l (a : Int) := by
      obtain rfl | rfl | rfl | rfl : a = 0 ∨ a = 1 ∨ a = 2 ∨ a = 3 := by omega
      all_goals rfl
    rw [← ha]
    have hwa : wrap64 ((a : Int) + 1) = ((4 - j : Nat) : Int) := by rw [w64 (by omega) (by omega), ea]; omega
    refine rt2_ev l out (a : Int) hl hn _ ?_ l 0 0 rfl (Nat.zero_le _) ho (by omega) (by omega) (by omega)
    rw [hwa, tot_out, ← ha, hg]
    by_cases hp : sumB l (a : Int) > 0
    · rw [if_pos (show 0 < sumB l (a : Int) from hp)]
      refine Ev.pos hp (Ev.pos (by omega) ?_)
      have := rt1_ev l hl hn ho j (out ++ [⟨(a : Int), sumB l (a : Int)⟩]) (by omega) (by rw [List.length_append]; simp; omega)
      rw [List.append_assoc] at this
      exact this
    · rw [if_neg (show ¬ 0 < sumB l (a : Int) from hp)]
      exact Ev.neg hp (rt1_ev l hl hn ho j out (by omega) (by omega))
theorem rt0_ev (l : List S24) (hl : ∀ y ∈ l, y.f0.length ≤ 9223372036854775807) (hn : l.length ≤ 1000) (r : List S31 × Int) (hout : allOk l = true → Ev (fun k => rialtoref12_Total.l1 k l [] 0) r) : ∀ (t : List S24) (i : Nat), l.drop i = t → i ≤ l.length → (allOk t = true → allOk l = true) →
    Ev (fun k => rialtoref12_Total.l0 k l (i : Int)) (if allOk t = true then r else ([], 120)) := by
  intro t
  induction t with
  | nil =>
    intro i h hi hal
    obtain rfl := drop24_nil h hi
    refine Ev.step (fun k => by simp only [rialtoref12_Total.l0]; rfl) ?_
    rw [show (if allOk [] = true then r else ([], 120)) = r from if_pos rfl]
    exact Ev.neg (by omega) (hout (hal rfl))
  | cons x xs ih =>
    intro i h hi hal
    obtain ⟨hx, hil, hd⟩ := rd24_at h
    have hm : x ∈ l := List.mem_of_mem_drop (h ▸ List.mem_cons_self)
    refine Ev.step (fun k => by simp only [rialtoref12_Total.l0]; rfl) ?_
    rw [hx, next i l.length hil (by omega)]
    refine Ev.pos (by omega) (Ev.pos (by omega) (Ev.bind (rcheck_ev x.f0 x.f1 (hl x hm)) ?_))
    by_cases hx1 : okA x.f0 x.f1 = true
    · rw [if_pos hx1]
      rw [show allOk (x :: xs) = allOk xs by simp [allOk, hx1]]
      refine Ev.pos rfl (ih (i + 1) hd (by omega) (fun h => hal (by simp only [allOk, hx1, Bool.true_and]; exact h)))
    · rw [if_neg hx1]
      rw [show allOk (x :: xs) = false by simp [allOk, hx1]]
      exact Ev.neg (by omega) (Ev.now _)
theorem rtotal_ev (l : List S24) (hl : ∀ y ∈ l, y.f0.length ≤ 9223372036854775807) : Ev (fun k => rialtoref12_Total.f k l) (totS l) := by
  unfold rialtoref12_Total.f totS
  by_cases h : (l.length : Int) > 1000
  · rw [if_pos h]; exact Ev.pos h (Ev.now _)
  rw [if_neg h]
  refine Ev.neg h ?_
  exact rt0_ev l hl (by omega) _ (fun ho => rt1_ev l hl (by omega) ho 4 [] (Nat.le_refl _) (Nat.le_refl _)) l 0 rfl (Nat.zero_le _) (fun h => h)
end Go.Proofs.Ythblegfihenflaa.Plain
