/- Plain laws of elections: what an answer that is counted comes to, by the program's and the document's way. -/
import Derived.Test.YthhdfefobblmkaaPx28
import Derived.Test.YthhdfefobblmkaaPx33
import Derived.Test.YthhdfefobblmkaaPx32
import Derived.Test.YthhdfefobblmkaaPx25
import Derived.Test.YthhdfefobblmkaaPx26
import Derived.Test.YthhdfefobblmkaaPx27
import Derived.Test.YthhdfefobblmkaaPx23
import Derived.Test.YthhdfefobblmkaaPx24
import Derived.Test.YthhdfefobblmkaaPx22
import Derived.Test.YthhdfefobblmkaaL0
namespace Go.Proofs.Ythhdfefobblmkaa.Plain
open Go.RowKit Go.Proofs.Ythhdfefobblmkaa.P Go.Proofs.YthhdfefobblmkaaW.PrintWords Go.Proofs.YthhdfefobblmkaaG
set_option linter.unusedSimpArgs false
set_option linter.unusedVariables false
/-- how many stand below a -/
def posN : List Int → Int → Nat
  | [], _ => 0
  | x :: xs, a => if x < a then posN xs a + 1 else 0
def insN : List Int → Int → List Int
  | [], a => [a]
  | x :: xs, a => if x < a then x :: insN xs a else if x = a then x :: xs else a :: x :: xs
theorem posN_le : ∀ (l : List Int) (a : Int), posN l a ≤ l.length
  | [], _ => Nat.le_refl _
  | x :: xs, a => by
    unfold posN
    split
    · have := posN_le xs a; simp; omega
    · simp
theorem posN_lt : ∀ (l : List Int) (last a : Int), okN last l = true → ∀ i x, l[i]? = some x → (x < a ↔ i < posN l a)
  | [], _, _, _, i, x, h => by simp at h
  | y :: ys, last, a, ho, i, x, h => by
    obtain ⟨h1, h2, _⟩ := okN_tail ho
    unfold posN
    cases i with
    | zero =>
      simp at h
      subst h
      by_cases hy : y < a
      · rw [if_pos hy]; simp [hy]
      · rw [if_neg hy]; simp [hy]
    | succ i =>
      simp at h
      have hm := okN_gt ys y h1 x (List.mem_of_getElem? h)
      by_cases hy : y < a
      · rw [if_pos hy]
        have := posN_lt ys y a h1 i x h
        omega
      · rw [if_neg hy]; omega
theorem mem_pos : ∀ (l : List Int) (last a : Int), okN last l = true → (a ∈ l ↔ l[posN l a]? = some a)
  | [], _, _, _ => by simp [posN]
  | y :: ys, last, a, ho => by
    obtain ⟨h1, h2, _⟩ := okN_tail ho
    unfold posN
    by_cases hy : y < a
    · rw [if_pos hy]
      have := mem_pos ys y a h1
      simp only [List.mem_cons, List.getElem?_cons_succ]
      rw [← this]
      constructor
      · rintro (h | h)
        · omega
        · exact h
      · exact .inr
    · rw [if_neg hy]
      simp only [List.mem_cons, List.getElem?_cons_zero, Option.some.injEq]
      constructor
      · rintro (h | h)
        · exact h.symm
        · have := okN_gt ys y h1 a h; omega
      · intro h; exact .inl h.symm
theorem ins_eq : ∀ (l : List Int) (last a : Int), okN last l = true → ¬ a ∈ l → insN l a = l.take (posN l a) ++ [a] ++ l.drop (posN l a)
  | [], _, _, _, _ => rfl
  | y :: ys, last, a, ho, hn => by
    obtain ⟨h1, h2, _⟩ := okN_tail ho
    simp only [List.mem_cons, not_or] at hn
    unfold insN posN
    by_cases hy : y < a
    · rw [if_pos hy, if_pos hy, ins_eq ys y a h1 hn.2]; simp
    · rw [if_neg hy, if_neg hy, if_neg (fun e => hn.1 e.symm)]; simp
theorem ins_mem : ∀ (l : List Int) (last a : Int), okN last l = true → a ∈ l → insN l a = l
  | [], _, _, _, h => by cases h
  | y :: ys, last, a, ho, hm => by
    obtain ⟨h1, h2, _⟩ := okN_tail ho
    unfold insN
    by_cases hy : y < a
    · rw [if_pos hy]
      rcases List.mem_cons.1 hm with h | h
      · omega
      · rw [ins_mem ys y a h1 h]
    · rw [if_neg hy]
      rcases List.mem_cons.1 hm with h | h
      · rw [if_pos h.symm]
      · have := okN_gt ys y h1 a h; omega
theorem search_loop (l : List Int) (a : Int) (ho : okN 0 l = true) : ∀ (d i j : Nat), j - i = d → i ≤ posN l a → posN l a ≤ j → j ≤ l.length →
    Ev (fun k => slices_BinarySearch_int_int.l0 k l a (l.length : Int) (i : Int) (j : Int)) ((posN l a : Int), decide (a ∈ l)) := by
  have hlen : (l.length : Int) ≤ 7 := by have := okN_len l 0 ho (by omega); omega
  have hless : ∀ x : Int, cmp_Less_int.f x a = some (decide (x < a)) := fun x => by
    unfold cmp_Less_int.f cmp_isNaN_int.f
    simp
  intro d
  induction d using Nat.strongRecOn with
  | _ d ih =>
    intro i j hd hi hj hjl
    refine Ev.step (fun k => by simp only [slices_BinarySearch_int_int.l0]; rfl) ?_
    by_cases hij : i < j
    · refine Ev.pos (by omega) ?_
      rw [mid_eq i j (by omega)]
      have hm : (i + j) / 2 < l.length := by omega
      refine Ev.pos (by omega) (Ev.pos (by omega) ?_)
      have hg := rd_get hm
      have hpos := posN_lt l 0 a ho _ _ hg
      refine Ev.bind0 (hless _) ?_
      by_cases hlt : (i + j) / 2 < posN l a
      · refine Ev.pos (decide_eq_true (hpos.2 hlt)) ?_
        rw [next _ l.length hm (by omega)]
        exact ih (j - ((i + j) / 2 + 1)) (by omega) _ _ rfl (by omega) hj hjl
      · refine Ev.neg (fun h => hlt (hpos.1 (of_decide_eq_true h))) ?_
        exact ih ((i + j) / 2 - i) (by omega) _ _ rfl hi (by omega) (by omega)
    · have hp : i = posN l a := by omega
      refine Ev.neg (by omega) ?_
      have hm := mem_pos l 0 a ho
      by_cases hn : i < l.length
      · refine Ev.pos (by omega) (Ev.pos (by omega) (Ev.pos (by omega) ?_))
        have hg := rd_get hn
        rw [← hp, hg] at hm
        by_cases he : rd l (i : Int) = a
        · refine Ev.pos he ?_
          rw [decide_eq_true (hm.2 (by rw [he])), hp]; exact Ev.now _
        · have hnan : slices_isNaN_int.f (rd l (i : Int)) = some false := by unfold slices_isNaN_int.f; simp
          refine Ev.neg he ?_
          refine Ev.bind0 hnan ?_
          refine Ev.neg (by simp) ?_
          rw [decide_eq_false (fun h => he (Option.some.inj (hm.1 h))), hp]; exact Ev.now _
      · refine Ev.neg (by omega) ?_
        have e : ¬ a ∈ l := fun h => by
          have := (List.getElem?_eq_some_iff.1 (hm.1 h)).1
          omega
        rw [decide_eq_false e, hp]; exact Ev.now _
theorem search_ev (l : List Int) (a : Int) (ho : okN 0 l = true) : Ev (fun k => slices_BinarySearch_int_int.f k l a) ((posN l a : Int), decide (a ∈ l)) :=
  search_loop l a ho _ 0 l.length rfl (Nat.zero_le _) (posN_le l a) (Nat.le_refl _)
theorem okN_ins : ∀ (l : List Int) (last a : Int), okN last l = true → last < a → 1 ≤ a → a ≤ 7 → okN last (insN l a) = true
  | [], last, a, _, h, h1, h7 => by simp [insN, okN]; omega
  | y :: ys, last, a, ho, h, h1, h7 => by
    obtain ⟨g1, g2, g3, g4⟩ := okN_tail ho
    unfold insN
    by_cases hy : y < a
    · rw [if_pos hy]
      have := okN_ins ys y a g1 hy h1 h7
      simp only [okN, Bool.and_eq_true, decide_eq_true_eq] at ho ⊢
      exact ⟨ho.1, this⟩
    · rw [if_neg hy]
      by_cases he : y = a
      · rw [if_pos he]; exact ho
      · rw [if_neg he]
        simp only [okN, Bool.and_eq_true, decide_eq_true_eq] at ho ⊢
        refine ⟨by omega, by omega, ho.2⟩
theorem mem_ins : ∀ (l : List Int) (a x : Int), x ∈ insN l a ↔ x = a ∨ x ∈ l
  | [], a, x => by simp [insN]
  | y :: ys, a, x => by
    unfold insN
    by_cases hy : y < a
    · rw [if_pos hy]
      simp only [List.mem_cons, mem_ins ys a x]
      constructor
      · rintro (h | h | h)
        · exact .inr (.inl h)
        · exact .inl h
        · exact .inr (.inr h)
      · rintro (h | h | h)
        · exact .inr (.inl h)
        · exact .inl h
        · exact .inr (.inr h)
    · rw [if_neg hy]
      by_cases he : y = a
      · rw [if_pos he]
        subst he
        simp
      · rw [if_neg he]; simp
theorem okN_ext : ∀ (l m : List Int) (last : Int), okN last l = true → okN last m = true → (∀ x, x ∈ l ↔ x ∈ m) → l = m
  | [], [], _, _, _, _ => rfl
  | [], y :: ys, _, _, _, h => by have := (h y).2 List.mem_cons_self; cases this
  | x :: xs, [], _, _, _, h => by have := (h x).1 List.mem_cons_self; cases this
  | x :: xs, y :: ys, last, ho, hp, h => by
    obtain ⟨g1, g2, _⟩ := okN_tail ho
    obtain ⟨k1, k2, _⟩ := okN_tail hp
    have e : x = y := by
      have a := (h x).1 List.mem_cons_self
      have b := (h y).2 List.mem_cons_self
      rcases List.mem_cons.1 a with a | a
      · exact a
      · have a2 := okN_gt ys y k1 x a
        rcases List.mem_cons.1 b with b | b
        · exact b.symm
        · have b2 := okN_gt xs x g1 y b; omega
    subst e
    congr 1
    refine okN_ext xs ys x g1 k1 (fun z => ⟨fun hz => ?_, fun hz => ?_⟩)
    · rcases List.mem_cons.1 ((h z).1 (List.mem_cons_of_mem _ hz)) with e | e
      · have := okN_gt xs x g1 z hz; omega
      · exact e
    · rcases List.mem_cons.1 ((h z).2 (List.mem_cons_of_mem _ hz)) with e | e
      · have := okN_gt ys x k1 z hz; omega
      · exact e
/-- the document's list, from number i on -/
def putR (l : List Int) (a : Int) : Nat → List Int
  | 0 => []
  | j + 1 => if ((8 - (j + 1) : Nat) : Int) = a ∨ ((8 - (j + 1) : Nat) : Int) ∈ l then ((8 - (j + 1) : Nat) : Int) :: putR l a j else putR l a j
theorem putR_mem (l : List Int) (a : Int) : ∀ (j : Nat), j ≤ 7 → ∀ x, x ∈ putR l a j ↔ (x = a ∨ x ∈ l) ∧ ((8 - j : Nat) : Int) ≤ x ∧ x ≤ 7
  | 0, _, x => by simp [putR]; omega
  | j + 1, hj, x => by
    have ih := putR_mem l a j (by omega) x
    simp only [putR]
    have e : ((8 - j : Nat) : Int) = ((8 - (j + 1) : Nat) : Int) + 1 := by omega
    by_cases h : ((8 - (j + 1) : Nat) : Int) = a ∨ ((8 - (j + 1) : Nat) : Int) ∈ l
    · rw [if_pos h]
      simp only [List.mem_cons, ih, e]
      constructor
      · rintro (rfl | h2)
        · exact ⟨h, by omega, by omega⟩
        · exact ⟨h2.1, by omega, h2.2.2⟩
      · rintro ⟨h1, h2, h3⟩
        by_cases h4 : x = ((8 - (j + 1) : Nat) : Int)
        · exact .inl h4
        · exact .inr ⟨h1, by omega, h3⟩
    · rw [if_neg h, ih, e]
      constructor
      · rintro ⟨h1, h2, h3⟩; exact ⟨h1, by omega, h3⟩
      · rintro ⟨h1, h2, h3⟩
        refine ⟨h1, ?_, h3⟩
        by_cases h4 : x = ((8 - (j + 1) : Nat) : Int)
        · exact absurd (h4 ▸ h1) h
        · omega
theorem putR_ok (l : List Int) (a : Int) : ∀ (j : Nat), j ≤ 7 → okN ((8 - j : Nat) - 1 : Int) (putR l a j) = true
  | 0, _ => rfl
  | j + 1, hj => by
    have ih := putR_ok l a j (by omega)
    simp only [putR]
    have e : ((8 - j : Nat) : Int) - 1 = ((8 - (j + 1) : Nat) : Int) := by omega
    rw [e] at ih
    have mono : ∀ (m : List Int) (x y : Int), okN x m = true → y ≤ x → okN y m = true := fun m x y h hy => by
      cases m with
      | nil => rfl
      | cons z zs => simp only [okN, Bool.and_eq_true, decide_eq_true_eq] at h ⊢; exact ⟨by omega, h.2⟩
    split
    · simp only [okN, Bool.and_eq_true, decide_eq_true_eq]
      exact ⟨by omega, ih⟩
    · exact mono _ _ _ ih (by omega)
theorem put_ins (l : List Int) (a : Int) (ho : okN 0 l = true) (h1 : 1 ≤ a) (h7 : a ≤ 7) : putR l a 7 = insN l a := by
  refine okN_ext _ _ 0 (putR_ok l a 7 (Nat.le_refl _)) (okN_ins l 0 a ho (by omega) h1 h7) (fun x => ?_)
  rw [putR_mem l a 7 (Nat.le_refl _), mem_ins]
  constructor
  · exact fun h => h.1
  · intro h
    refine ⟨h, ?_⟩
    rcases h with rfl | h
    · exact ⟨by omega, h7⟩
    · have := okN_gt l 0 ho x h
      exact ⟨by omega, this.2.2⟩
theorem putR_len (l : List Int) (a : Int) : ∀ j, (putR l a j).length ≤ j
  | 0 => Nat.le_refl _
  | j + 1 => by
    simp only [putR]
    have := putR_len l a j
    split
    · simp only [List.length_cons]; omega
    · omega
theorem put_loop (l : List Int) (a : Int) (hl : l.length ≤ 9223372036854775807) : ∀ (j : Nat) (out : List Int), j ≤ 7 → out.length ≤ 7 - j → Ev (fun k => rialtoref07_put.l0 k l a out ((8 - j : Nat) : Int)) (out ++ putR l a j)
  | 0, out, _, _ => by
    refine Ev.step (fun k => by simp only [rialtoref07_put.l0]; rfl) ?_
    rw [putR, List.append_nil]
    exact Ev.neg (by omega) (Ev.now _)
  | j + 1, out, hj, hlen => by
    refine Ev.step (fun k => by simp only [rialtoref07_put.l0]; rfl) ?_
    refine Ev.pos (by omega) ?_
    have hn : wrap64 (((8 - (j + 1) : Nat) : Int) + 1) = ((8 - j : Nat) : Int) := by rw [w64 (by omega) (by omega)]; omega
    have hyes : ∀ b, b = true → (((8 - (j + 1) : Nat) : Int) = a ∨ ((8 - (j + 1) : Nat) : Int) ∈ l) → Ev (fun k => rialtoref07_put.j1 k l a out ((8 - (j + 1) : Nat) : Int) b) (out ++ putR l a (j + 1)) := fun b hb h => by
      subst hb
      refine Ev.step (fun k => by simp only [rialtoref07_put.j1]; rfl) ?_
      refine Ev.pos trivial ?_
      refine Ev.pos (by omega) ?_
      rw [hn]
      have := put_loop l a hl j (out ++ [((8 - (j + 1) : Nat) : Int)]) (by omega) (by simp; omega)
      simp only [putR]
      rw [if_pos h]
      rwa [List.append_assoc] at this
    have hno : ∀ b, b = false → ¬ (((8 - (j + 1) : Nat) : Int) = a ∨ ((8 - (j + 1) : Nat) : Int) ∈ l) → Ev (fun k => rialtoref07_put.j1 k l a out ((8 - (j + 1) : Nat) : Int) b) (out ++ putR l a (j + 1)) := fun b hb h => by
      subst hb
      refine Ev.step (fun k => by simp only [rialtoref07_put.j1]; rfl) (Ev.neg (by simp) ?_)
      rw [hn]
      simp only [putR]
      rw [if_neg h]
      exact put_loop l a hl j out (by omega) (by omega)
    by_cases h1 : ((8 - (j + 1) : Nat) : Int) = a
    · exact Ev.pos h1 (hyes _ rfl (.inl h1))
    · refine Ev.neg h1 (Ev.bind (has_ev l _ hl) ?_)
      by_cases h2 : ((8 - (j + 1) : Nat) : Int) ∈ l
      · exact hyes _ (decide_eq_true h2) (.inr h2)
      · exact hno _ (decide_eq_false h2) (by rintro (h | h); exact h1 h; exact h2 h)
theorem put_ev (l : List Int) (a : Int) (hl : l.length ≤ 9223372036854775807) : Ev (fun k => rialtoref07_put.f k l a) (putR l a 7) := by
  have := put_loop l a hl 7 [] (Nat.le_refl _) (Nat.zero_le _)
  rwa [List.nil_append] at this
def countS (t v r : Int) (l : List Int) (a q : Int) (ok : Bool) (n : Int) : Int × Int × Int × List Int × Int :=
  if fineB t v r l = true then (if (1 ≤ n ∧ n ≤ 7) ∧ (1 ≤ a ∧ a ≤ n) ∧ (1 ≤ q ∧ q ≤ 1000000) then
    (if ok = true ∧ (heardS t v r l q).2.2.1 = 2 ∧ (heardS t v r l q).1 = q then ((heardS t v r l q).1, (heardS t v r l q).2.1, (if 2 * ((insN (heardS t v r l q).2.2.2 a).length : Int) > n then 3 else 2), insN (heardS t v r l q).2.2.2 a, 0)
     else ((heardS t v r l q).1, (heardS t v r l q).2.1, (heardS t v r l q).2.2.1, (heardS t v r l q).2.2.2, 0)) else (0, 0, 0, [], 1)) else (0, 0, 0, [], 70)
theorem heard_two {t v r : Int} {l : List Int} {q : Int} (hf : fineB t v r l = true) (h : (heardS t v r l q).2.2.1 = 2) : okN 0 (heardS t v r l q).2.2.2 = true ∧ (heardS t v r l q) = (t, v, r, l) := by
  unfold heardS at h ⊢
  by_cases hq : q > t
  · rw [if_pos hq] at h; simp at h
  · rw [if_neg hq] at h ⊢
    simp only at h
    subst h
    unfold fineB standsB at hf
    simp at hf
    exact ⟨hf.2.2.2.1, rfl⟩
theorem lead_f (t v r : Int) (l : List Int) (n : Int) (h1 : 1 ≤ n) (h7 : n ≤ 7) : term_lead.f t v r l n = some (t, v, (if 2 * (l.length : Int) > n then 3 else r), l) := by
  unfold term_lead.f
  have hd : wrap64 (Int.tdiv n 2) = n / 2 := by
    rw [Int.tdiv_eq_ediv_of_nonneg (by omega), w64 (by omega) (by omega)]
  rw [hd]
  by_cases h : 2 * (l.length : Int) > n
  · rw [if_pos (by omega), if_pos h]
  · rw [if_neg (by omega), if_neg h]
theorem count_ev (t v r : Int) (l : List Int) (a q : Int) (ok : Bool) (n : Int) (hl : l.length < 17592186044416) : Ev (fun k => term_Count.f k t v r l a q ok n) (countS t v r l a q ok n) := by
  unfold term_Count.f countS
  refine Ev.bind (fine_ev t v r l (by omega)) ?_
  by_cases hf : fineB t v r l = true
  rotate_left
  · refine Ev.neg hf ?_; rw [if_neg hf]; exact Ev.now _
  refine Ev.pos hf ?_
  rw [if_pos hf]
  have hno : ∀ b, b = true → Ev (fun k => term_Count.j0 k a q ok n b t v r l) (0, 0, 0, [], 1) := fun b hb => by
    subst hb
    exact Ev.step (fun k => by simp only [term_Count.j0]; rfl) (Ev.pos (by simp) (Ev.now _))
  refine Ev.bind0 (within_f _ _ _) ?_
  by_cases h1 : 1 ≤ n ∧ n ≤ 7
  rotate_left
  · refine Ev.neg (by simpa using h1) ?_
    rw [if_neg (fun h => h1 h.1)]; exact hno _ rfl
  refine Ev.pos (by simpa using h1) (Ev.bind0 (within_f _ _ _) ?_)
  by_cases h2 : 1 ≤ a ∧ a ≤ n
  rotate_left
  · refine Ev.neg (by simpa using h2) ?_
    rw [if_neg (fun h => h2 h.2.1)]; exact hno _ rfl
  refine Ev.pos (by simpa using h2) (Ev.bind0 (within_f _ _ _) ?_)
  by_cases h3 : 1 ≤ q ∧ q ≤ 1000000
  rotate_left
  · rw [if_neg (fun h => h3 h.2.2)]; exact hno _ (by simp [h3])
  rw [if_pos ⟨h1, h2, h3⟩]
  have hb : (!decide (1 ≤ q ∧ q ≤ 1000000)) = false := by simp [h3]
  rw [hb]
  refine Ev.step (fun k => by simp only [term_Count.j0]; rfl) (Ev.neg (by simp) (Ev.bind0 (heard_f t v r l q hl) ?_))
  have hstay : ∀ b, b = true → Ev (fun k => term_Count.j1 k a n b (heardS t v r l q).1 (heardS t v r l q).2.1 (heardS t v r l q).2.2.1 (heardS t v r l q).2.2.2) ((heardS t v r l q).1, (heardS t v r l q).2.1, (heardS t v r l q).2.2.1, (heardS t v r l q).2.2.2, 0) := fun b hb => by
    subst hb
    exact Ev.step (fun k => by simp only [term_Count.j1]; rfl) (Ev.pos (by simp) (Ev.now _))
  by_cases hok : ok = true
  rotate_left
  · refine Ev.neg hok ?_
    rw [if_neg (fun h => hok h.1)]; exact hstay _ rfl
  refine Ev.pos hok ?_
  by_cases hr : (heardS t v r l q).2.2.1 = 2
  rotate_left
  · refine Ev.neg hr ?_
    rw [if_neg (fun h => hr h.2.1)]; exact hstay _ rfl
  refine Ev.pos hr ?_
  by_cases ht : (heardS t v r l q).1 = q
  rotate_left
  · rw [if_neg (fun h => ht h.2.2)]; exact hstay _ (by simp [ht])
  rw [if_pos ⟨hok, hr, ht⟩]
  have hb2 : ((heardS t v r l q).1 != q) = false := by simp [ht]
  rw [hb2]
  obtain ⟨hN, _⟩ := heard_two hf hr
  generalize (heardS t v r l q).2.2.2 = m at hN ⊢
  have hlen := okN_len m 0 hN (by omega)
  refine Ev.step (fun k => by simp only [term_Count.j1]; rfl) (Ev.neg (by simp) (Ev.bind (search_ev m a hN) ?_))
  by_cases hm : a ∈ m
  · refine Ev.pos (decide_eq_true hm) (Ev.bind0 (lead_f _ _ _ _ _ h1.1 h1.2) ?_)
    rw [ins_mem m 0 a hN hm, hr]; exact Ev.now _
  · refine Ev.neg (by simp [hm]) ?_
    have hp := posN_le m a
    have hins : slices_Insert_int_int.f m (posN m a : Int) [a] = some (insN m a) := by
      unfold slices_Insert_int_int.f
      rw [if_pos (show [a].length = 1 from rfl), if_pos (by omega), if_pos (by omega), if_pos (by omega), ins_eq m 0 a hN hm, Int.toNat_natCast]
    refine Ev.bind0 hins ?_
    refine Ev.bind0 (lead_f _ _ _ _ _ h1.1 h1.2) ?_
    rw [hr]; exact Ev.now _
theorem refCount_ev (t v r : Int) (l : List Int) (a q : Int) (ok : Bool) (n : Int) (hl : l.length < 17592186044416) : Ev (fun k => rialtoref07_Count.f k t v r l a q ok n) (countS t v r l a q ok n) := by
  unfold rialtoref07_Count.f countS
  refine Ev.bind (may_ev t v r l (by omega)) ?_
  by_cases hf : fineB t v r l = true
  rotate_left
  · refine Ev.neg hf ?_; rw [if_neg hf]; exact Ev.now _
  refine Ev.pos hf ?_
  rw [if_pos hf]
  have hno : ∀ b, b = true → Ev (fun k => rialtoref07_Count.j0 k a q ok n b t v r l) (0, 0, 0, [], 1) := fun b hb => by
    subst hb
    exact Ev.step (fun k => by simp only [rialtoref07_Count.j0]; rfl) (Ev.pos (by simp) (Ev.now _))
  refine Ev.bind0 (refWithin_f _ _ _) ?_
  by_cases h1 : 1 ≤ n ∧ n ≤ 7
  rotate_left
  · refine Ev.neg (by simpa using h1) ?_
    rw [if_neg (fun h => h1 h.1)]; exact hno _ rfl
  refine Ev.pos (by simpa using h1) (Ev.bind0 (refWithin_f _ _ _) ?_)
  by_cases h2 : 1 ≤ a ∧ a ≤ n
  rotate_left
  · refine Ev.neg (by simpa using h2) ?_
    rw [if_neg (fun h => h2 h.2.1)]; exact hno _ rfl
  refine Ev.pos (by simpa using h2) (Ev.bind0 (refWithin_f _ _ _) ?_)
  by_cases h3 : 1 ≤ q ∧ q ≤ 1000000
  rotate_left
  · rw [if_neg (fun h => h3 h.2.2)]; exact hno _ (by simp [h3])
  rw [if_pos ⟨h1, h2, h3⟩]
  have hb : (!decide (1 ≤ q ∧ q ≤ 1000000)) = false := by simp [h3]
  rw [hb]
  refine Ev.step (fun k => by simp only [rialtoref07_Count.j0]; rfl) (Ev.neg (by simp) (Ev.bind0 (refHeard_f t v r l q hl) ?_))
  have hstay : ∀ b, b = false → Ev (fun k => rialtoref07_Count.j1 k a n b (heardS t v r l q).1 (heardS t v r l q).2.1 (heardS t v r l q).2.2.1 (heardS t v r l q).2.2.2) ((heardS t v r l q).1, (heardS t v r l q).2.1, (heardS t v r l q).2.2.1, (heardS t v r l q).2.2.2, 0) := fun b hb => by
    subst hb
    exact Ev.step (fun k => by simp only [rialtoref07_Count.j1]; rfl) (Ev.neg (by simp) (Ev.now _))
  by_cases hok : ok = true
  rotate_left
  · refine Ev.neg hok ?_
    rw [if_neg (fun h => hok h.1)]; exact hstay _ rfl
  refine Ev.pos hok ?_
  by_cases hr : (heardS t v r l q).2.2.1 = 2
  rotate_left
  · refine Ev.neg hr ?_
    rw [if_neg (fun h => hr h.2.1)]; exact hstay _ rfl
  refine Ev.pos hr ?_
  by_cases ht : (heardS t v r l q).1 = q
  rotate_left
  · rw [if_neg (fun h => ht h.2.2)]; exact hstay _ (by simp [ht])
  rw [if_pos ⟨hok, hr, ht⟩]
  have hb2 : ((heardS t v r l q).1 == q) = true := by simp [ht]
  rw [hb2]
  obtain ⟨hN, _⟩ := heard_two hf hr
  generalize (heardS t v r l q).2.2.2 = m at hN ⊢
  have hlen := okN_len m 0 hN (by omega)
  refine Ev.step (fun k => by simp only [rialtoref07_Count.j1]; rfl) ?_
  refine Ev.pos trivial ?_
  refine Ev.bind (put_ev m a (by omega)) ?_
  rw [← put_ins m a hN h2.1 (by omega)]
  have hpl := putR_len m a 7
  rw [w64 (by omega) (by omega)]
  by_cases hc : 2 * ((putR m a 7).length : Int) > n
  · refine Ev.pos hc ?_; rw [if_pos hc]; exact Ev.now _
  · refine Ev.neg hc ?_; rw [if_neg hc, hr]; exact Ev.now _
theorem count_len (t v r : Int) (l : List Int) (a q : Int) (ok : Bool) (n : Int) (hl : l.length < 17592186044416) : (countS t v r l a q ok n).2.2.2.1.length ≤ 9223372036854775807 := by
  have hh : (heardS t v r l q).2.2.2.length < 17592186044416 := by
    unfold heardS
    split
    · simp
    · exact hl
  have hi : ∀ (m : List Int), (insN m a).length ≤ m.length + 1 := fun m => by
    induction m with
    | nil => simp [insN]
    | cons x xs ih =>
      unfold insN
      split
      · simp; omega
      · split <;> simp
  unfold countS
  split
  · split
    · split
      · have := hi (heardS t v r l q).2.2.2; simp only; omega
      · simp only; omega
    · simp
  · simp
end Go.Proofs.Ythhdfefobblmkaa.Plain
