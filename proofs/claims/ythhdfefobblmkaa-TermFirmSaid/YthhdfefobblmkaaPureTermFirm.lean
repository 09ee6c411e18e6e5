/- For every list of steps the law TermFirm answers true. (Written by closure.py out of L0, L1, L2 and src/TermFirm.) -/
import Derived.Test.YthhdfefobblmkaaPx23
import Derived.Test.YthhdfefobblmkaaPx22
import Derived.Test.YthhdfefobblmkaaPx42
import Derived.Test.YthhdfefobblmkaaPx30
import Derived.Test.YthhdfefobblmkaaPx25
import Derived.Test.YthhdfefobblmkaaPx10
import Derived.Test.YthhdfefobblmkaaPx6
import Derived.Test.YthhdfefobblmkaaPx5
import Derived.Test.YthhdfefobblmkaaPx26
import Derived.Test.YthhdfefobblmkaaPx24
import Derived.Test.YthhdfefobblmkaaPx29
import Derived.Test.YthhdfefobblmkaaPx28
import Derived.Test.YthhdfefobblmkaaPx12
import Derived.Test.YthhdfefobblmkaaPx39
import Derived.Test.YthhdfefobblmkaaPx4
import Derived.Test.YthhdfefobblmkaaPx8
import Derived.Test.YthhdfefobblmkaaPx11
import Derived.Test.YthhdfefobblmkaaPx7
import Derived.Test.YthhdfefobblmkaaPx9
import Derived.Test.YthhdfefobblmkaaPx27
import Derived.Test.YthhdfefobblmkaaG2
namespace Go.Proofs.Ythhdfefobblmkaa.Plain
open Go.RowKit Go.Proofs.Ythhdfefobblmkaa.P Go.Proofs.YthhdfefobblmkaaW.PrintWords Go.Proofs.YthhdfefobblmkaaG
set_option linter.unusedVariables false
set_option linter.unusedSimpArgs false
theorem rd_at {l : List Int} {i : Nat} {x : Int} {xs : List Int} (h : l.drop i = x :: xs) : rd l (i : Int) = x ∧ i < l.length ∧ l.drop (i + 1) = xs := by
  have hi : i < l.length := by
    rcases Nat.lt_or_ge i l.length with h' | h'
    · exact h'
    · rw [List.drop_eq_nil_of_le h'] at h; cases h
  rw [List.drop_eq_getElem_cons hi] at h
  injection h with h1 h2
  refine ⟨?_, hi, h2⟩
  unfold rd
  rw [Int.toNat_natCast, List.getD_eq_getElem?_getD, List.getElem?_eq_getElem hi]
  exact h1
theorem rd_get {l : List Int} {i : Nat} (h : i < l.length) : l[i]? = some (rd l (i : Int)) := by
  unfold rd
  rw [Int.toNat_natCast, List.getD_eq_getElem?_getD, List.getElem?_eq_getElem h]; rfl
theorem drop_nil {l : List Int} {i : Nat} (h : l.drop i = []) (hi : i ≤ l.length) : i = l.length := by
  have := List.length_drop (l := l) (i := i)
  rw [h] at this
  simp at this
  omega
theorem next (i : Nat) (n : Nat) (h : i < n) (hn : n ≤ 9223372036854775807) : wrap64 ((i : Int) + 1) = ((i + 1 : Nat) : Int) := by
  rw [w64 (by omega) (by omega)]; omega
theorem within_f (a b c : Int) : term_within.f a b c = some (decide (b ≤ a ∧ a ≤ c)) := by
  unfold term_within.f
  by_cases h : b ≤ a <;> simp [h]
def okN (last : Int) : List Int → Bool
  | [] => true
  | x :: xs => decide (1 ≤ x ∧ x ≤ 7) && decide (last < x) && okN x xs
theorem okN_tail {last x : Int} {xs : List Int} (h : okN last (x :: xs) = true) : okN x xs = true ∧ last < x ∧ 1 ≤ x ∧ x ≤ 7 := by
  simp only [okN, Bool.and_eq_true, decide_eq_true_eq] at h
  exact ⟨h.2, h.1.2, h.1.1⟩
theorem okN_gt : ∀ (l : List Int) (last : Int), okN last l = true → ∀ x ∈ l, last < x ∧ 1 ≤ x ∧ x ≤ 7
  | [], _, _, x, hx => by cases hx
  | y :: ys, last, h, x, hx => by
    obtain ⟨h1, h2⟩ := okN_tail h
    rcases List.mem_cons.1 hx with rfl | hx
    · exact h2
    · have := okN_gt ys _ h1 x hx
      exact ⟨by omega, this.2⟩
theorem okN_len : ∀ (l : List Int) (last : Int), okN last l = true → last ≤ 7 → (l.length : Int) ≤ 7 - last
  | [], last, _, h3 => by simp; omega
  | x :: xs, last, h, h3 => by
    obtain ⟨h1, h2, h4, h5⟩ := okN_tail h
    have := okN_len xs _ h1 (by omega)
    simp only [List.length_cons]
    omega
def standsB (t v : Int) (l : List Int) : Bool := okN 0 l && (decide (t > 0) && (decide (v > 0) && decide (v ∈ l)))
theorem index_loop (l : List Int) (v : Int) (hl : l.length ≤ 9223372036854775807) : ∀ (r : List Int) (i : Nat), l.drop i = r → i ≤ l.length → ∃ z, Ev (fun k => slices_Index_int_int.l0 k l v (l.length : Int) (i : Int)) z ∧ (z ≥ 0 ↔ v ∈ r) := by
  intro r
  induction r with
  | nil =>
    intro i h hi
    obtain rfl := drop_nil h hi
    exact ⟨-1, Ev.step (fun k => by simp only [slices_Index_int_int.l0]; rfl) (Ev.neg (by omega) (Ev.now _)), by simp⟩
  | cons x xs ih =>
    intro i h hi
    obtain ⟨hx, hil, hd⟩ := rd_at h
    by_cases h1 : v = x
    · refine ⟨i, Ev.step (fun k => by simp only [slices_Index_int_int.l0]; rfl) ?_, by simp [h1]⟩
      rw [hx]
      exact Ev.pos (by omega) (Ev.pos (by omega) (Ev.pos (by omega) (Ev.pos h1 (Ev.now _))))
    · obtain ⟨z, hz, hm⟩ := ih (i + 1) hd (by omega)
      refine ⟨z, Ev.step (fun k => by simp only [slices_Index_int_int.l0]; rfl) ?_, by simp [h1, hm]⟩
      rw [hx, next i l.length hil hl]
      exact Ev.pos (by omega) (Ev.pos (by omega) (Ev.pos (by omega) (Ev.neg h1 hz)))
theorem contains_ev (l : List Int) (v : Int) (hl : l.length ≤ 9223372036854775807) : Ev (fun k => slices_Contains_int_int.f k l v) (decide (v ∈ l)) := by
  obtain ⟨z, hz, hm⟩ := index_loop l v hl l 0 rfl (Nat.zero_le _)
  unfold slices_Contains_int_int.f slices_Index_int_int.f
  refine Ev.bind hz ?_
  have : decide (v ∈ l) = decide (z ≥ 0) := by simp only [hm]
  rw [this]; exact Ev.now _
theorem stands_loop (l : List Int) (t v a : Int) (hl : l.length ≤ 9223372036854775807) : ∀ (r : List Int) (i : Nat) (last : Int), l.drop i = r → i ≤ l.length → (i = 0 → last = 0) → (0 < i → l[i - 1]? = some last) →
    Ev (fun k => term_ballot_stands.l0 k l (l.length : Int) (i : Int) t v a l) (okN last r && (decide (t > 0) && (decide (v > 0) && decide (v ∈ l)))) := by
  intro r
  induction r with
  | nil =>
    intro i last h hi _ _
    obtain rfl := drop_nil h hi
    refine Ev.step (fun k => by simp only [term_ballot_stands.l0]; rfl) (Ev.neg (by omega) ?_)
    by_cases h1 : t > 0
    rotate_left
    · rw [show (okN last [] && (decide (t > 0) && (decide (v > 0) && decide (v ∈ l)))) = false by simp [h1]]; exact Ev.neg h1 (Ev.now _)
    by_cases h2 : v > 0
    rotate_left
    · rw [show (okN last [] && (decide (t > 0) && (decide (v > 0) && decide (v ∈ l)))) = false by simp [h2]]; exact Ev.pos h1 (Ev.neg h2 (Ev.now _))
    rw [show (okN last [] && (decide (t > 0) && (decide (v > 0) && decide (v ∈ l)))) = decide (v ∈ l) by simp [okN, h1, h2]]
    exact Ev.pos h1 (Ev.pos h2 (Ev.bind (contains_ev l v hl) (Ev.now _)))
  | cons x xs ih =>
    intro i last h hi hz hp
    obtain ⟨hx, hil, hd⟩ := rd_at h
    have hno : ∀ b w, b = true → w = false → Ev (fun k => term_ballot_stands.j1 k l (l.length : Int) (i : Int) b t v a l) w := fun b w hb hw => by
      subst hb; subst hw
      exact Ev.step (fun k => by simp only [term_ballot_stands.j1]; rfl) (Ev.pos (by simp) (Ev.now _))
    refine Ev.step (fun k => by simp only [term_ballot_stands.l0]; rfl) ?_
    refine Ev.pos (by omega) (Ev.pos (by omega) (Ev.pos (by omega) ?_))
    rw [hx]
    refine Ev.bind0 (within_f _ _ _) ?_
    by_cases h1 : 1 ≤ x ∧ x ≤ 7
    rotate_left
    · refine Ev.neg (by simpa using h1) (hno _ _ rfl ?_)
      simp only [okN, h1, decide_false, Bool.false_and]
    refine Ev.pos (by simpa using h1) ?_
    have hgo : ∀ b, b = false → last < x → Ev (fun k => term_ballot_stands.j1 k l (l.length : Int) (i : Int) b t v a l) (okN last (x :: xs) && (decide (t > 0) && (decide (v > 0) && decide (v ∈ l)))) := fun b hb hlt => by
      subst hb
      have e : okN last (x :: xs) = okN x xs := by simp [okN, h1, hlt]
      rw [e]
      refine Ev.step (fun k => by simp only [term_ballot_stands.j1]; rfl) (Ev.neg (by simp) ?_)
      rw [next i l.length hil hl]
      refine ih (i + 1) x hd (by omega) (by omega) (fun _ => ?_)
      rw [Nat.add_sub_cancel, rd_get hil, hx]
    by_cases h0 : i = 0
    · exact Ev.neg (by omega) (hgo _ rfl (by rw [hz h0]; omega))
    · have hq := hp (by omega)
      have e : wrap64 ((i : Int) - 1) = ((i - 1 : Nat) : Int) := by rw [w64 (by omega) (by omega)]; omega
      have er : rd l (wrap64 ((i : Int) - 1)) = last := by
        rw [e]
        unfold rd
        rw [Int.toNat_natCast, List.getD_eq_getElem?_getD, hq]; rfl
      refine Ev.pos (by omega) ?_
      rw [er, e]
      refine Ev.pos (by omega) (Ev.pos (by omega) ?_)
      by_cases h4 : last < x
      · exact hgo _ (by simp; omega) h4
      · exact hno _ _ (by simp; omega) (by simp [okN, h4])
theorem stands_ev (l : List Int) (t v a : Int) (hl : l.length ≤ 9223372036854775807) : Ev (fun k => term_ballot_stands.f k t v a l) (standsB t v l) :=
  stands_loop l t v a hl l 0 0 rfl (Nat.zero_le _) (fun _ => rfl) (fun h => absurd h (by omega))
def fineB (t v r : Int) (l : List Int) : Bool :=
  decide (0 ≤ t ∧ t ≤ 1000000) && (decide (0 ≤ v ∧ v ≤ 7) && (decide (t > 0 ∨ v = 0) && (decide (1 ≤ r ∧ r ≤ 3) && (if r = 1 then decide (l.length = 0) else standsB t v l))))
theorem fine_ev (t v r : Int) (l : List Int) (hl : l.length ≤ 9223372036854775807) : Ev (fun k => term_ballot_fine.f k t v r l) (fineB t v r l) := by
  unfold term_ballot_fine.f fineB
  refine Ev.bind (stands_ev l t v r hl) (Ev.bind (stands_ev l t v r hl) (Ev.bind0 (within_f _ _ _) ?_))
  by_cases h1 : 0 ≤ t ∧ t ≤ 1000000
  rotate_left
  · simp only [h1, decide_false, Bool.false_and]; exact Ev.neg (by simp) (Ev.now _)
  simp only [h1, decide_true, Bool.true_and, and_self]
  refine Ev.pos (by simp) (Ev.bind0 (within_f _ _ _) ?_)
  by_cases h2 : 0 ≤ v ∧ v ≤ 7
  rotate_left
  · simp only [h2, decide_false, Bool.false_and]; exact Ev.neg (by simp) (Ev.now _)
  simp only [h2, decide_true, Bool.true_and, and_self]
  refine Ev.pos (by simp) ?_
  have hrole : Ev (fun k => (term_within.f r 1 3).bind fun t117 => (if t117 = true then (if r = 0 then (some false) else (if r = 1 then (some ((l.length : Int) == 0)) else (if r = 2 then (some (standsB t v l)) else (if r = 3 then (some (standsB t v l)) else (none))))) else (some false)))
      (decide (1 ≤ r ∧ r ≤ 3) && (if r = 1 then decide (l.length = 0) else standsB t v l)) := by
    refine Ev.bind0 (within_f _ _ _) ?_
    by_cases h3 : 1 ≤ r ∧ r ≤ 3
    rotate_left
    · simp only [h3, decide_false, Bool.false_and]; exact Ev.neg (by simp) (Ev.now _)
    simp only [h3, decide_true, Bool.true_and, and_self]
    refine Ev.pos (by simp) (Ev.neg (by omega) ?_)
    by_cases h4 : r = 1
    · have : (if r = 1 then decide (l.length = 0) else standsB t v l) = ((l.length : Int) == 0) := by
        rw [if_pos h4, Bool.eq_iff_iff]; simp
      rw [this]
      exact Ev.pos h4 (Ev.now _)
    · rw [show (if r = 1 then decide (l.length = 0) else standsB t v l) = standsB t v l from if_neg h4]
      refine Ev.neg h4 ?_
      by_cases h5 : r = 2
      · exact Ev.pos h5 (Ev.now _)
      · exact Ev.neg h5 (Ev.pos (by omega) (Ev.now _))
  by_cases h3 : t > 0
  · have : decide (t > 0 ∨ v = 0) = true := by simp [h3]
    rw [this, Bool.true_and]
    exact Ev.pos h3 hrole
  · refine Ev.neg h3 ?_
    by_cases h4 : v = 0
    · have : decide (t > 0 ∨ v = 0) = true := by simp [h4]
      rw [this, Bool.true_and]
      exact Ev.pos h4 hrole
    · have : decide (t > 0 ∨ v = 0) = false := by simp [h4]; omega
      rw [this, Bool.false_and]
      exact Ev.neg h4 (Ev.now _)
def heardS (t v r : Int) (l : List Int) (q : Int) : Int × Int × Int × List Int := if q > t then (q, 0, 1, []) else (t, v, r, l)
theorem heard_f (t v r : Int) (l : List Int) (q : Int) (hl : l.length < 17592186044416) : term_ballot_heard.f t v r l q = some (heardS t v r l q) := by
  unfold term_ballot_heard.f heardS slices_Clone_int_int.f
  by_cases h : q > t
  · simp [h]
  · simp [h, hl]
theorem live_ev : Ev (fun k => rialtolaw07_live.f k) true := Ev.of (k := 24) rialtolaw07_live.mono (by kernel_rfl)
/-- how many stand below a -/
def posN : List Int → Int → Nat
  | [], _ => 0
  | x :: xs, a => if x < a then posN xs a + 1 else 0
def insN : List Int → Int → List Int
  | [], a => [a]
  | x :: xs, a => if x < a then x :: insN xs a else if x = a then x :: xs else a :: x :: xs
theorem posN_le : ∀ (l : List Int) (a : Int), posN l a ≤ l.length
  | [], _ => Nat.le_refl _
  | x :: xs, a => by
    unfold posN
    split
    · have := posN_le xs a; simp; omega
    · simp
theorem posN_lt : ∀ (l : List Int) (last a : Int), okN last l = true → ∀ i x, l[i]? = some x → (x < a ↔ i < posN l a)
  | [], _, _, _, i, x, h => by simp at h
  | y :: ys, last, a, ho, i, x, h => by
    obtain ⟨h1, h2, _⟩ := okN_tail ho
    unfold posN
    cases i with
    | zero =>
      simp at h
      subst h
      by_cases hy : y < a
      · rw [if_pos hy]; simp [hy]
      · rw [if_neg hy]; simp [hy]
    | succ i =>
      simp at h
      have hm := okN_gt ys y h1 x (List.mem_of_getElem? h)
      by_cases hy : y < a
      · rw [if_pos hy]
        have := posN_lt ys y a h1 i x h
        omega
      · rw [if_neg hy]; omega
theorem mem_pos : ∀ (l : List Int) (last a : Int), okN last l = true → (a ∈ l ↔ l[posN l a]? = some a)
  | [], _, _, _ => by simp [posN]
  | y :: ys, last, a, ho => by
    obtain ⟨h1, h2, _⟩ := okN_tail ho
    unfold posN
    by_cases hy : y < a
    · rw [if_pos hy]
      have := mem_pos ys y a h1
      simp only [List.mem_cons, List.getElem?_cons_succ]
      rw [← this]
      constructor
      · rintro (h | h)
        · omega
        · exact h
      · exact .inr
    · rw [if_neg hy]
      simp only [List.mem_cons, List.getElem?_cons_zero, Option.some.injEq]
      constructor
      · rintro (h | h)
        · exact h.symm
        · have := okN_gt ys y h1 a h; omega
      · intro h; exact .inl h.symm
theorem ins_eq : ∀ (l : List Int) (last a : Int), okN last l = true → ¬ a ∈ l → insN l a = l.take (posN l a) ++ [a] ++ l.drop (posN l a)
  | [], _, _, _, _ => rfl
  | y :: ys, last, a, ho, hn => by
    obtain ⟨h1, h2, _⟩ := okN_tail ho
    simp only [List.mem_cons, not_or] at hn
    unfold insN posN
    by_cases hy : y < a
    · rw [if_pos hy, if_pos hy, ins_eq ys y a h1 hn.2]; simp
    · rw [if_neg hy, if_neg hy, if_neg (fun e => hn.1 e.symm)]; simp
theorem ins_mem : ∀ (l : List Int) (last a : Int), okN last l = true → a ∈ l → insN l a = l
  | [], _, _, _, h => by cases h
  | y :: ys, last, a, ho, hm => by
    obtain ⟨h1, h2, _⟩ := okN_tail ho
    unfold insN
    by_cases hy : y < a
    · rw [if_pos hy]
      rcases List.mem_cons.1 hm with h | h
      · omega
      · rw [ins_mem ys y a h1 h]
    · rw [if_neg hy]
      rcases List.mem_cons.1 hm with h | h
      · rw [if_pos h.symm]
      · have := okN_gt ys y h1 a h; omega
theorem search_loop (l : List Int) (a : Int) (ho : okN 0 l = true) : ∀ (d i j : Nat), j - i = d → i ≤ posN l a → posN l a ≤ j → j ≤ l.length →
    Ev (fun k => slices_BinarySearch_int_int.l0 k l a (l.length : Int) (i : Int) (j : Int)) ((posN l a : Int), decide (a ∈ l)) := by
  have hlen : (l.length : Int) ≤ 7 := by have := okN_len l 0 ho (by omega); omega
  have hless : ∀ x : Int, cmp_Less_int.f x a = some (decide (x < a)) := fun x => by
    unfold cmp_Less_int.f cmp_isNaN_int.f
    simp
  intro d
  induction d using Nat.strongRecOn with
  | _ d ih =>
    intro i j hd hi hj hjl
    refine Ev.step (fun k => by simp only [slices_BinarySearch_int_int.l0]; rfl) ?_
    by_cases hij : i < j
    · refine Ev.pos (by omega) ?_
      rw [mid_eq i j (by omega)]
      have hm : (i + j) / 2 < l.length := by omega
      refine Ev.pos (by omega) (Ev.pos (by omega) ?_)
      have hg := rd_get hm
      have hpos := posN_lt l 0 a ho _ _ hg
      refine Ev.bind0 (hless _) ?_
      by_cases hlt : (i + j) / 2 < posN l a
      · refine Ev.pos (decide_eq_true (hpos.2 hlt)) ?_
        rw [next _ l.length hm (by omega)]
        exact ih (j - ((i + j) / 2 + 1)) (by omega) _ _ rfl (by omega) hj hjl
      · refine Ev.neg (fun h => hlt (hpos.1 (of_decide_eq_true h))) ?_
        exact ih ((i + j) / 2 - i) (by omega) _ _ rfl hi (by omega) (by omega)
    · have hp : i = posN l a := by omega
      refine Ev.neg (by omega) ?_
      have hm := mem_pos l 0 a ho
      by_cases hn : i < l.length
      · refine Ev.pos (by omega) (Ev.pos (by omega) (Ev.pos (by omega) ?_))
        have hg := rd_get hn
        rw [← hp, hg] at hm
        by_cases he : rd l (i : Int) = a
        · refine Ev.pos he ?_
          rw [decide_eq_true (hm.2 (by rw [he])), hp]; exact Ev.now _
        · have hnan : slices_isNaN_int.f (rd l (i : Int)) = some false := by unfold slices_isNaN_int.f; simp
          refine Ev.neg he ?_
          refine Ev.bind0 hnan ?_
          refine Ev.neg (by simp) ?_
          rw [decide_eq_false (fun h => he (Option.some.inj (hm.1 h))), hp]; exact Ev.now _
      · refine Ev.neg (by omega) ?_
        have e : ¬ a ∈ l := fun h => by
          have := (List.getElem?_eq_some_iff.1 (hm.1 h)).1
          omega
        rw [decide_eq_false e, hp]; exact Ev.now _
theorem search_ev (l : List Int) (a : Int) (ho : okN 0 l = true) : Ev (fun k => slices_BinarySearch_int_int.f k l a) ((posN l a : Int), decide (a ∈ l)) :=
  search_loop l a ho _ 0 l.length rfl (Nat.zero_le _) (posN_le l a) (Nat.le_refl _)
def countS (t v r : Int) (l : List Int) (a q : Int) (ok : Bool) (n : Int) : Int × Int × Int × List Int × Int :=
  if fineB t v r l = true then (if (1 ≤ n ∧ n ≤ 7) ∧ (1 ≤ a ∧ a ≤ n) ∧ (1 ≤ q ∧ q ≤ 1000000) then
    (if ok = true ∧ (heardS t v r l q).2.2.1 = 2 ∧ (heardS t v r l q).1 = q then ((heardS t v r l q).1, (heardS t v r l q).2.1, (if 2 * ((insN (heardS t v r l q).2.2.2 a).length : Int) > n then 3 else 2), insN (heardS t v r l q).2.2.2 a, 0)
     else ((heardS t v r l q).1, (heardS t v r l q).2.1, (heardS t v r l q).2.2.1, (heardS t v r l q).2.2.2, 0)) else (0, 0, 0, [], 1)) else (0, 0, 0, [], 70)
theorem heard_two {t v r : Int} {l : List Int} {q : Int} (hf : fineB t v r l = true) (h : (heardS t v r l q).2.2.1 = 2) : okN 0 (heardS t v r l q).2.2.2 = true ∧ (heardS t v r l q) = (t, v, r, l) := by
  unfold heardS at h ⊢
  by_cases hq : q > t
  · rw [if_pos hq] at h; simp at h
  · rw [if_neg hq] at h ⊢
    simp only at h
    subst h
    unfold fineB standsB at hf
    simp at hf
    exact ⟨hf.2.2.2.1, rfl⟩
theorem lead_f (t v r : Int) (l : List Int) (n : Int) (h1 : 1 ≤ n) (h7 : n ≤ 7) : term_lead.f t v r l n = some (t, v, (if 2 * (l.length : Int) > n then 3 else r), l) := by
  unfold term_lead.f
  have hd : wrap64 (Int.tdiv n 2) = n / 2 := by
    rw [Int.tdiv_eq_ediv_of_nonneg (by omega), w64 (by omega) (by omega)]
  rw [hd]
  by_cases h : 2 * (l.length : Int) > n
  · rw [if_pos (by omega), if_pos h]
  · rw [if_neg (by omega), if_neg h]
theorem count_ev (t v r : Int) (l : List Int) (a q : Int) (ok : Bool) (n : Int) (hl : l.length < 17592186044416) : Ev (fun k => term_Count.f k t v r l a q ok n) (countS t v r l a q ok n) := by
  unfold term_Count.f countS
  refine Ev.bind (fine_ev t v r l (by omega)) ?_
  by_cases hf : fineB t v r l = true
  rotate_left
  · refine Ev.neg hf ?_; rw [if_neg hf]; exact Ev.now _
  refine Ev.pos hf ?_
  rw [if_pos hf]
  have hno : ∀ b, b = true → Ev (fun k => term_Count.j0 k a q ok n b t v r l) (0, 0, 0, [], 1) := fun b hb => by
    subst hb
    exact Ev.step (fun k => by simp only [term_Count.j0]; rfl) (Ev.pos (by simp) (Ev.now _))
  refine Ev.bind0 (within_f _ _ _) ?_
  by_cases h1 : 1 ≤ n ∧ n ≤ 7
  rotate_left
  · refine Ev.neg (by simpa using h1) ?_
    rw [if_neg (fun h => h1 h.1)]; exact hno _ rfl
  refine Ev.pos (by simpa using h1) (Ev.bind0 (within_f _ _ _) ?_)
  by_cases h2 : 1 ≤ a ∧ a ≤ n
  rotate_left
  · refine Ev.neg (by simpa using h2) ?_
    rw [if_neg (fun h => h2 h.2.1)]; exact hno _ rfl
  refine Ev.pos (by simpa using h2) (Ev.bind0 (within_f _ _ _) ?_)
  by_cases h3 : 1 ≤ q ∧ q ≤ 1000000
  rotate_left
  · rw [if_neg (fun h => h3 h.2.2)]; exact hno _ (by simp [h3])
  rw [if_pos ⟨h1, h2, h3⟩]
  have hb : (!decide (1 ≤ q ∧ q ≤ 1000000)) = false := by simp [h3]
  rw [hb]
  refine Ev.step (fun k => by simp only [term_Count.j0]; rfl) (Ev.neg (by simp) (Ev.bind0 (heard_f t v r l q hl) ?_))
  have hstay : ∀ b, b = true → Ev (fun k => term_Count.j1 k a n b (heardS t v r l q).1 (heardS t v r l q).2.1 (heardS t v r l q).2.2.1 (heardS t v r l q).2.2.2) ((heardS t v r l q).1, (heardS t v r l q).2.1, (heardS t v r l q).2.2.1, (heardS t v r l q).2.2.2, 0) := fun b hb => by
    subst hb
    exact Ev.step (fun k => by simp only [term_Count.j1]; rfl) (Ev.pos (by simp) (Ev.now _))
  by_cases hok : ok = true
  rotate_left
  · refine Ev.neg hok ?_
    rw [if_neg (fun h => hok h.1)]; exact hstay _ rfl
  refine Ev.pos hok ?_
  by_cases hr : (heardS t v r l q).2.2.1 = 2
  rotate_left
  · refine Ev.neg hr ?_
    rw [if_neg (fun h => hr h.2.1)]; exact hstay _ rfl
  refine Ev.pos hr ?_
  by_cases ht : (heardS t v r l q).1 = q
  rotate_left
  · rw [if_neg (fun h => ht h.2.2)]; exact hstay _ (by simp [ht])
  rw [if_pos ⟨hok, hr, ht⟩]
  have hb2 : ((heardS t v r l q).1 != q) = false := by simp [ht]
  rw [hb2]
  obtain ⟨hN, _⟩ := heard_two hf hr
  generalize (heardS t v r l q).2.2.2 = m at hN ⊢
  have hlen := okN_len m 0 hN (by omega)
  refine Ev.step (fun k => by simp only [term_Count.j1]; rfl) (Ev.neg (by simp) (Ev.bind (search_ev m a hN) ?_))
  by_cases hm : a ∈ m
  · refine Ev.pos (decide_eq_true hm) (Ev.bind0 (lead_f _ _ _ _ _ h1.1 h1.2) ?_)
    rw [ins_mem m 0 a hN hm, hr]; exact Ev.now _
  · refine Ev.neg (by simp [hm]) ?_
    have hp := posN_le m a
    have hins : slices_Insert_int_int.f m (posN m a : Int) [a] = some (insN m a) := by
      unfold slices_Insert_int_int.f
      rw [if_pos (show [a].length = 1 from rfl), if_pos (by omega), if_pos (by omega), if_pos (by omega), ins_eq m 0 a hN hm, Int.toNat_natCast]
    refine Ev.bind0 hins ?_
    refine Ev.bind0 (lead_f _ _ _ _ _ h1.1 h1.2) ?_
    rw [hr]; exact Ev.now _
def markB (a b : Int) : Bool := decide (0 ≤ a ∧ a ≤ 1000000) && (decide (0 ≤ b ∧ b ≤ 1000000) && ((a == 0) == (b == 0)))
def lessB (a b c d : Int) : Bool := if b = d then decide (a < c) else decide (b < d)
theorem less_f (a b c d : Int) : term_Less.f a b c d = some (lessB a b c d) := by
  unfold term_Less.f lessB
  split <;> rfl
theorem mark_f (a b : Int) : term_isMark.f a b = some (markB a b) := by
  unfold term_isMark.f markB
  rw [within_f, within_f]
  simp only [Option.bind_some]
  cases decide (0 ≤ a ∧ a ≤ 1000000) <;> cases decide (0 ≤ b ∧ b ≤ 1000000) <;> simp
def grantS (t v r : Int) (l : List Int) (a q m n s u : Int) : Int × Int × Int × List Int × Bool × Int :=
  if fineB t v r l = true then (if (1 ≤ a ∧ a ≤ 7) ∧ (1 ≤ q ∧ q ≤ 1000000) ∧ markB m n = true ∧ markB s u = true then
    (if (heardS t v r l q).1 = q ∧ (heardS t v r l q).2.2.1 = 1 ∧ ((heardS t v r l q).2.1 = 0 ∨ (heardS t v r l q).2.1 = a) ∧ lessB m n s u = false then ((heardS t v r l q).1, a, (heardS t v r l q).2.2.1, (heardS t v r l q).2.2.2, true, 0) else ((heardS t v r l q).1, (heardS t v r l q).2.1, (heardS t v r l q).2.2.1, (heardS t v r l q).2.2.2, false, 0))
    else (0, 0, 0, [], false, 1)) else (0, 0, 0, [], false, 70)
theorem heard_ge (t v r : Int) (l : List Int) (q : Int) : (heardS t v r l q).1 ≥ q := by
  unfold heardS
  split <;> simp <;> omega
theorem grant_ev (t v r : Int) (l : List Int) (a q m n s u : Int) (hl : l.length < 17592186044416) : Ev (fun k => term_Grant.f k t v r l a q m n s u) (grantS t v r l a q m n s u) := by
  unfold term_Grant.f grantS
  refine Ev.bind (fine_ev t v r l (by omega)) ?_
  by_cases hf : fineB t v r l = true
  rotate_left
  · refine Ev.neg hf ?_; rw [if_neg hf]; exact Ev.now _
  refine Ev.pos hf ?_
  rw [if_pos hf]
  have hno : ∀ b, b = true → Ev (fun k => term_Grant.j0 k b t v r l a q m n s u) (0, 0, 0, [], false, 1) := fun b hb => by
    subst hb
    exact Ev.step (fun k => by simp only [term_Grant.j0]; rfl) (Ev.pos (by simp) (Ev.now _))
  refine Ev.bind0 (within_f _ _ _) ?_
  by_cases h1 : 1 ≤ a ∧ a ≤ 7
  rotate_left
  · refine Ev.neg (by simpa using h1) ?_
    rw [if_neg (fun h => h1 h.1)]; exact hno _ rfl
  refine Ev.pos (by simpa using h1) (Ev.bind0 (within_f _ _ _) ?_)
  by_cases h2 : 1 ≤ q ∧ q ≤ 1000000
  rotate_left
  · refine Ev.neg (by simpa using h2) ?_
    rw [if_neg (fun h => h2 h.2.1)]; exact hno _ rfl
  refine Ev.pos (by simpa using h2) (Ev.bind0 (mark_f _ _) ?_)
  by_cases h3 : markB m n = true
  rotate_left
  · refine Ev.neg h3 ?_
    rw [if_neg (fun h => h3 h.2.2.1)]; exact hno _ rfl
  refine Ev.pos h3 (Ev.bind0 (mark_f _ _) ?_)
  by_cases h4 : markB s u = true
  rotate_left
  · rw [if_neg (fun h => h4 h.2.2.2)]; exact hno _ (by simp [h4])
  rw [if_pos ⟨h1, h2, h3, h4⟩, h4]
  refine Ev.step (fun k => by simp only [term_Grant.j0]; rfl) (Ev.neg (by simp) (Ev.bind0 (heard_f t v r l q hl) ?_))
  have hge := heard_ge t v r l q
  generalize (heardS t v r l q) = h at hge ⊢
  obtain ⟨x, y, z, w⟩ := h
  simp only at hge ⊢
  have hj2 : ∀ b, Ev (fun k => term_Grant.j2 k b a q m n x y z w) (if b = true then (x, y, z, w, false, 0) else (x, a, z, w, true, 0)) := fun b => by
    refine Ev.step (fun k => by simp only [term_Grant.j2]; rfl) ?_
    by_cases hb : b = true
    · refine Ev.pos hb ?_; rw [if_pos hb]; exact Ev.now _
    · refine Ev.neg hb ?_; rw [if_neg hb]; exact Ev.now _
  have hj1 : ∀ b, b = decide (y = 0 ∨ y = a) → Ev (fun k => term_Grant.j1 k b a q m n s u x y z w) (if x = q ∧ z = 1 ∧ (y = 0 ∨ y = a) ∧ lessB m n s u = false then (x, a, z, w, true, 0) else (x, y, z, w, false, 0)) := fun b hb => by
    refine Ev.step (fun k => by simp only [term_Grant.j1]; rfl) ?_
    by_cases g1 : x > q
    · refine Ev.pos g1 ?_
      rw [if_neg (by omega)]; simpa using hj2 true
    refine Ev.neg g1 ?_
    by_cases g2 : z = 1
    rotate_left
    · refine Ev.neg g2 ?_
      rw [if_neg (fun h => g2 h.2.1)]; simpa using hj2 true
    refine Ev.pos g2 ?_
    by_cases g3 : y = 0 ∨ y = a
    rotate_left
    · refine Ev.neg (by rw [hb]; simpa using g3) ?_
      rw [if_neg (fun h => g3 h.2.2.1)]; simpa using hj2 true
    refine Ev.pos (by rw [hb]; simpa using g3) (Ev.bind0 (less_f _ _ _ _) ?_)
    cases hless : lessB m n s u with
    | true => rw [if_neg (by simp)]; simpa using hj2 true
    | false => rw [if_pos ⟨by omega, g2, g3, rfl⟩]; simpa using hj2 false
  by_cases hy : y = 0
  · exact Ev.pos hy (hj1 _ (by simp [hy]))
  · exact Ev.neg hy (hj1 _ (by rw [Bool.eq_iff_iff]; simp [hy]))
end Go.Proofs.Ythhdfefobblmkaa.Plain
namespace Go.Proofs.Ythhdfefobblmkaa.Firm
open Go.RowKit Go.Proofs.Ythhdfefobblmkaa.P Go.Proofs.YthhdfefobblmkaaW.PrintWords Go.Proofs.YthhdfefobblmkaaG Go.Proofs.Ythhdfefobblmkaa.Plain
set_option linter.unusedSimpArgs false
set_option linter.unusedVariables false
def beginS (t v r : Int) (l : List Int) (me n : Int) : Int × Int × Int × List Int × Int :=
  if fineB t v r l = true then (if (1 ≤ n ∧ n ≤ 7) ∧ (1 ≤ me ∧ me ≤ n) then (if t = 1000000 then (0, 0, 0, [], 2) else (t + 1, me, (if n = 1 then 3 else 2), [me], 0)) else (0, 0, 0, [], 1)) else (0, 0, 0, [], 70)
def hearS (t v r : Int) (l : List Int) (q : Int) : Int × Int × Int × List Int × Int :=
  if fineB t v r l = true then (if 1 ≤ q ∧ q ≤ 1000000 then ((heardS t v r l q).1, (heardS t v r l q).2.1, (heardS t v r l q).2.2.1, (heardS t v r l q).2.2.2, 0) else (0, 0, 0, [], 1)) else (0, 0, 0, [], 70)
theorem fine_t {t v r : Int} {l : List Int} (h : fineB t v r l = true) : 0 ≤ t ∧ t ≤ 1000000 := by
  unfold fineB at h
  simp only [Bool.and_eq_true, decide_eq_true_eq] at h
  exact h.1
theorem begin_ev (t v r : Int) (l : List Int) (me n : Int) (hl : l.length ≤ 9223372036854775807) : Ev (fun k => term_Begin.f k t v r l me n) (beginS t v r l me n) := by
  unfold term_Begin.f beginS
  refine Ev.bind (fine_ev t v r l hl) ?_
  by_cases hf : fineB t v r l = true
  rotate_left
  · refine Ev.neg hf ?_; rw [if_neg hf]; exact Ev.now _
  refine Ev.pos hf ?_
  rw [if_pos hf]
  have hno : ∀ b, b = true → Ev (fun k => term_Begin.j0 k me n b t v r l) (0, 0, 0, [], 1) := fun b hb => by
    subst hb
    exact Ev.step (fun k => by simp only [term_Begin.j0]; rfl) (Ev.pos (by simp) (Ev.now _))
  refine Ev.bind0 (within_f _ _ _) ?_
  by_cases h1 : 1 ≤ n ∧ n ≤ 7
  rotate_left
  · refine Ev.neg (by simpa using h1) ?_
    rw [if_neg (fun h => h1 h.1)]; exact hno _ rfl
  refine Ev.pos (by simpa using h1) (Ev.bind0 (within_f _ _ _) ?_)
  by_cases h2 : 1 ≤ me ∧ me ≤ n
  rotate_left
  · rw [if_neg (fun h => h2 h.2)]
    exact hno _ (by simp [h2])
  rw [if_pos ⟨h1, h2⟩]
  have hb : (!decide (1 ≤ me ∧ me ≤ n)) = false := by simp [h2]
  rw [hb]
  refine Ev.step (fun k => by simp only [term_Begin.j0]; rfl) (Ev.neg (by simp) ?_)
  by_cases h3 : t = 1000000
  · refine Ev.pos h3 ?_; rw [if_pos h3]; exact Ev.now _
  refine Ev.neg h3 ?_
  rw [if_neg h3]
  have ht := fine_t hf
  have hw : wrap64 (t + 1) = t + 1 := w64 (by omega) (by omega)
  have hlead : term_lead.f (wrap64 (t + 1)) me 2 [me] n = some (t + 1, me, (if n = 1 then 3 else 2), [me]) := by
    unfold term_lead.f
    have hd : wrap64 (Int.tdiv n 2) = n / 2 := by
      rw [Int.tdiv_eq_ediv_of_nonneg (by omega), w64 (by omega) (by omega)]
    rw [hw, hd]
    by_cases h4 : n = 1
    · subst h4; rfl
    · rw [if_neg h4, if_neg (by simp only [List.length_cons, List.length_nil]; omega)]
  exact Ev.bind0 hlead (Ev.now _)
theorem hear_ev (t v r : Int) (l : List Int) (q : Int) (hl : l.length < 17592186044416) : Ev (fun k => term_Hear.f k t v r l q) (hearS t v r l q) := by
  unfold term_Hear.f hearS
  refine Ev.bind (fine_ev t v r l (by omega)) ?_
  by_cases hf : fineB t v r l = true
  rotate_left
  · refine Ev.neg hf ?_; rw [if_neg hf]; exact Ev.now _
  refine Ev.pos hf (Ev.bind0 (within_f _ _ _) ?_)
  rw [if_pos hf]
  by_cases h1 : 1 ≤ q ∧ q ≤ 1000000
  · refine Ev.pos (by simpa using h1) (Ev.bind0 (heard_f t v r l q hl) ?_)
    rw [if_pos h1]; exact Ev.now _
  · refine Ev.neg (by simpa using h1) ?_
    rw [if_neg h1]; exact Ev.now _
/-- a step that comes out well: the term is later, or the same and the vote, once given, stands -/
def good (t v : Int) (y : Int × Int × Int × List Int × Int) : Prop := y.2.2.2.2 = 0 → t < y.1 ∨ (y.1 = t ∧ v = 0) ∨ (y.1 = t ∧ v ≠ 0 ∧ y.2.1 = v)
theorem same_good (t v r : Int) (l : List Int) : t < t ∨ (t = t ∧ v = 0) ∨ (t = t ∧ v ≠ 0 ∧ v = v) := by
  by_cases h : v = 0
  · exact .inr (.inl ⟨rfl, h⟩)
  · exact .inr (.inr ⟨rfl, h, rfl⟩)
theorem heard_good (t v r : Int) (l : List Int) (q : Int) : t < (heardS t v r l q).1 ∨ ((heardS t v r l q).1 = t ∧ v = 0) ∨ ((heardS t v r l q).1 = t ∧ v ≠ 0 ∧ (heardS t v r l q).2.1 = v) := by
  unfold heardS
  split
  · exact .inl (by simpa using ‹q > t›)
  · exact same_good t v r l
theorem heard_short (t v r : Int) (l : List Int) (q : Int) : (heardS t v r l q).2.2.2.length ≤ l.length := by
  unfold heardS
  split <;> simp
theorem ins_short (l : List Int) (a : Int) : (insN l a).length ≤ l.length + 1 := by
  induction l with
  | nil => simp [insN]
  | cons x xs ih =>
    unfold insN
    split
    · simp; exact ih
    · split <;> simp
theorem begin_good (t v r : Int) (l : List Int) (me n : Int) : good t v (beginS t v r l me n) ∧ (beginS t v r l me n).2.2.2.1.length ≤ l.length + 1 := by
  unfold beginS good
  split
  · split
    · split
      · exact ⟨fun h => by simp at h, by simp⟩
      · exact ⟨fun _ => .inl (by simp only; omega), by simp⟩
    · exact ⟨fun h => by simp at h, by simp⟩
  · exact ⟨fun h => by simp at h, by simp⟩
theorem hear_good (t v r : Int) (l : List Int) (q : Int) : good t v (hearS t v r l q) ∧ (hearS t v r l q).2.2.2.1.length ≤ l.length + 1 := by
  have hs := heard_short t v r l q
  unfold hearS good
  split
  · split
    · exact ⟨fun _ => heard_good t v r l q, by simp only; omega⟩
    · exact ⟨fun h => by simp at h, by simp⟩
  · exact ⟨fun h => by simp at h, by simp⟩
theorem count_good (t v r : Int) (l : List Int) (a q : Int) (ok : Bool) (n : Int) : good t v (countS t v r l a q ok n) ∧ (countS t v r l a q ok n).2.2.2.1.length ≤ l.length + 1 := by
  have hs := heard_short t v r l q
  have hi := ins_short (heardS t v r l q).2.2.2 a
  unfold countS good
  split
  · split
    · split
      · exact ⟨fun _ => heard_good t v r l q, by simp only; omega⟩
      · exact ⟨fun _ => heard_good t v r l q, by simp only; omega⟩
    · exact ⟨fun h => by simp at h, by simp⟩
  · exact ⟨fun h => by simp at h, by simp⟩
theorem grant_good (t v r : Int) (l : List Int) (a q m n s u : Int) : ((grantS t v r l a q m n s u).2.2.2.2.2 = 0 → t < (grantS t v r l a q m n s u).1 ∨ ((grantS t v r l a q m n s u).1 = t ∧ v = 0) ∨ ((grantS t v r l a q m n s u).1 = t ∧ v ≠ 0 ∧ (grantS t v r l a q m n s u).2.1 = v)) ∧ (grantS t v r l a q m n s u).2.2.2.1.length ≤ l.length + 1 := by
  have hs := heard_short t v r l q
  have hg := heard_good t v r l q
  unfold grantS
  split
  · split
    · split
      · rename_i h
        refine ⟨fun _ => ?_, by simp only; omega⟩
        simp only
        rcases hg with e | ⟨e1, e2⟩ | ⟨e1, e2, e3⟩
        · exact .inl e
        · exact .inr (.inl ⟨e1, e2⟩)
        · refine .inr (.inr ⟨e1, e2, ?_⟩)
          rcases h.2.2.1 with d | d
          · exact (e2 (e3.symm.trans d)).elim
          · exact d.symm.trans e3
      · exact ⟨fun _ => hg, by simp only; omega⟩
    · exact ⟨fun h => by simp at h, by simp⟩
  · exact ⟨fun h => by simp at h, by simp⟩
theorem step_ev (me t v r : Int) (l : List Int) (s : S58) (hl : l.length < 17592186044416) : ∃ y, Ev (fun k => tf_step k me t v r l s) y ∧ good t v y ∧ y.2.2.2.1.length ≤ l.length + 1 := by
  unfold tf_step
  by_cases h0 : s.f0 = 0
  · exact ⟨_, Ev.pos h0 (begin_ev t v r l me 7 (by omega)), begin_good t v r l me 7⟩
  by_cases h1 : s.f0 = 1
  · exact ⟨_, Ev.neg h0 (Ev.pos h1 (hear_ev t v r l s.f1.f1 hl)), hear_good t v r l s.f1.f1⟩
  by_cases h2 : s.f0 = 2
  · exact ⟨((grantS t v r l s.f2.f0 s.f2.f1 s.f2.f2.f0 s.f2.f2.f1 s.f3.f0 s.f3.f1).1, (grantS t v r l s.f2.f0 s.f2.f1 s.f2.f2.f0 s.f2.f2.f1 s.f3.f0 s.f3.f1).2.1, (grantS t v r l s.f2.f0 s.f2.f1 s.f2.f2.f0 s.f2.f2.f1 s.f3.f0 s.f3.f1).2.2.1, (grantS t v r l s.f2.f0 s.f2.f1 s.f2.f2.f0 s.f2.f2.f1 s.f3.f0 s.f3.f1).2.2.2.1, (grantS t v r l s.f2.f0 s.f2.f1 s.f2.f2.f0 s.f2.f2.f1 s.f3.f0 s.f3.f1).2.2.2.2.2), Ev.neg h0 (Ev.neg h1 (Ev.pos h2 (Ev.bind (grant_ev t v r l s.f2.f0 s.f2.f1 s.f2.f2.f0 s.f2.f2.f1 s.f3.f0 s.f3.f1 hl) (Ev.now _)))), grant_good t v r l s.f2.f0 s.f2.f1 s.f2.f2.f0 s.f2.f2.f1 s.f3.f0 s.f3.f1⟩
  · exact ⟨_, Ev.neg h0 (Ev.neg h1 (Ev.neg h2 (count_ev t v r l s.f1.f0 s.f1.f1 s.f1.f3 7 hl))), count_good t v r l s.f1.f0 s.f1.f1 s.f1.f3 7⟩
theorem loop_ev (me : Int) : ∀ (m : Nat) (q : List S58) (t v r : Int) (l : List Int), l.length + m ≤ 60 → Ev (fun k => tf_l k me m q t v r l) true
  | 0, _, _, _, _, _, _ => live_ev
  | _ + 1, [], _, _, _, _, _ => live_ev
  | m + 1, s :: q, t, v, r, l, h => by
    obtain ⟨y, hy, hg, hn⟩ := step_ev me t v r l s (by omega)
    simp only [tf_l]
    refine Ev.bind hy ?_
    by_cases he : y.2.2.2.2 = 0
    · exact Ev.pos he (Ev.pos (hg he) (loop_ev me m q _ _ _ _ (by omega)))
    · exact Ev.neg he (loop_ev me m q _ _ _ _ (by omega))
end Go.Proofs.Ythhdfefobblmkaa.Firm
namespace Go.Proofs.Ythhdfefobblmkaa.Pure
open Go.RowKit Go.Proofs.Ythhdfefobblmkaa.P Go.Proofs.YthhdfefobblmkaaW.PrintWords Go.Proofs.YthhdfefobblmkaaG Go.Proofs.Ythhdfefobblmkaa.Plain Go.Proofs.Ythhdfefobblmkaa.Firm
theorem TermFirm : rialtolaw07_TermFirm.Pure := by
  intro me l _ _
  exact Ev.rounds (g := fun k => rialtolaw07_TermFirm.f k me l) (loop_ev me 60 l 0 0 1 [] (by simp))
end Go.Proofs.Ythhdfefobblmkaa.Pure
