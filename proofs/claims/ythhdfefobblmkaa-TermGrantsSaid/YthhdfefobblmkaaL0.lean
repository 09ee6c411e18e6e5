/- Plain laws of ballots: what the program's and the reference's functions come to, on lists; no memory and no Go in sight. -/
import Derived.Test.YthhdfefobblmkaaPx4
import Derived.Test.YthhdfefobblmkaaPx5
import Derived.Test.YthhdfefobblmkaaPx6
import Derived.Test.YthhdfefobblmkaaPx7
import Derived.Test.YthhdfefobblmkaaPx8
import Derived.Test.YthhdfefobblmkaaPx10
import Derived.Test.YthhdfefobblmkaaPx11
import Derived.Test.YthhdfefobblmkaaPx14
import Derived.Test.YthhdfefobblmkaaPx15
import Derived.Test.YthhdfefobblmkaaPx16
import Derived.Test.YthhdfefobblmkaaPx3
import Derived.Test.YthhdfefobblmkaaPx20
import Derived.Test.YthhdfefobblmkaaPx21
import Derived.Test.YthhdfefobblmkaaPx30
import Derived.Test.YthhdfefobblmkaaPx18
import Derived.Test.YthhdfefobblmkaaG2
namespace Go.Proofs.Ythhdfefobblmkaa.Plain
open Go.RowKit Go.Proofs.Ythhdfefobblmkaa.P Go.Proofs.YthhdfefobblmkaaW.PrintWords Go.Proofs.YthhdfefobblmkaaG
set_option linter.unusedVariables false
set_option linter.unusedSimpArgs false

theorem rd_at {l : List Int} {i : Nat} {x : Int} {xs : List Int} (h : l.drop i = x :: xs) : rd l (i : Int) = x ∧ i < l.length ∧ l.drop (i + 1) = xs := by
  have hi : i < l.length := by
    rcases Nat.lt_or_ge i l.length with h' | h'
    · exact h'
    · rw [List.drop_eq_nil_of_le h'] at h; cases h
  rw [List.drop_eq_getElem_cons hi] at h
  injection h with h1 h2
  refine ⟨?_, hi, h2⟩
  unfold rd
  rw [Int.toNat_natCast, List.getD_eq_getElem?_getD, List.getElem?_eq_getElem hi]
  exact h1
theorem rd_get {l : List Int} {i : Nat} (h : i < l.length) : l[i]? = some (rd l (i : Int)) := by
  unfold rd
  rw [Int.toNat_natCast, List.getD_eq_getElem?_getD, List.getElem?_eq_getElem h]; rfl
theorem drop_nil {l : List Int} {i : Nat} (h : l.drop i = []) (hi : i ≤ l.length) : i = l.length := by
  have := List.length_drop (l := l) (i := i)
  rw [h] at this
  simp at this
  omega
theorem next (i : Nat) (n : Nat) (h : i < n) (hn : n ≤ 9223372036854775807) : wrap64 ((i : Int) + 1) = ((i + 1 : Nat) : Int) := by
  rw [w64 (by omega) (by omega)]; omega

theorem within_f (a b c : Int) : term_within.f a b c = some (decide (b ≤ a ∧ a ≤ c)) := by
  unfold term_within.f
  by_cases h : b ≤ a <;> simp [h]
theorem refWithin_f (a b c : Int) : rialtoref07_within.f a b c = some (decide (b ≤ a ∧ a ≤ c)) := by
  unfold rialtoref07_within.f
  by_cases h : b ≤ a
  · rw [if_pos h]; simp [h]
  · rw [if_neg h]; simp [h]

/-! #### the nodes that a ballot has -/
def okN (last : Int) : List Int → Bool
  | [] => true
  | x :: xs => decide (1 ≤ x ∧ x ≤ 7) && decide (last < x) && okN x xs
theorem okN_tail {last x : Int} {xs : List Int} (h : okN last (x :: xs) = true) : okN x xs = true ∧ last < x ∧ 1 ≤ x ∧ x ≤ 7 := by
  simp only [okN, Bool.and_eq_true, decide_eq_true_eq] at h
  exact ⟨h.2, h.1.2, h.1.1⟩
theorem okN_gt : ∀ (l : List Int) (last : Int), okN last l = true → ∀ x ∈ l, last < x ∧ 1 ≤ x ∧ x ≤ 7
  | [], _, _, x, hx => by cases hx
  | y :: ys, last, h, x, hx => by
    obtain ⟨h1, h2⟩ := okN_tail h
    rcases List.mem_cons.1 hx with rfl | hx
    · exact h2
    · have := okN_gt ys _ h1 x hx
      exact ⟨by omega, this.2⟩
theorem okN_len : ∀ (l : List Int) (last : Int), okN last l = true → last ≤ 7 → (l.length : Int) ≤ 7 - last
  | [], last, _, h3 => by simp; omega
  | x :: xs, last, h, h3 => by
    obtain ⟨h1, h2, h4, h5⟩ := okN_tail h
    have := okN_len xs _ h1 (by omega)
    simp only [List.length_cons]
    omega
def standsB (t v : Int) (l : List Int) : Bool := okN 0 l && (decide (t > 0) && (decide (v > 0) && decide (v ∈ l)))
theorem index_loop (l : List Int) (v : Int) (hl : l.length ≤ 9223372036854775807) : ∀ (r : List Int) (i : Nat), l.drop i = r → i ≤ l.length → ∃ z, Ev (fun k => slices_Index_int_int.l0 k l v (l.length : Int) (i : Int)) z ∧ (z ≥ 0 ↔ v ∈ r) := by
  intro r
  induction r with
  | nil =>
    intro i h hi
    obtain rfl := drop_nil h hi
    exact ⟨-1, Ev.step (fun k => by simp only [slices_Index_int_int.l0]; rfl) (Ev.neg (by omega) (Ev.now _)), by simp⟩
  | cons x xs ih =>
    intro i h hi
    obtain ⟨hx, hil, hd⟩ := rd_at h
    by_cases h1 : v = x
    · refine ⟨i, Ev.step (fun k => by simp only [slices_Index_int_int.l0]; rfl) ?_, by simp [h1]⟩
      rw [hx]
      exact Ev.pos (by omega) (Ev.pos (by omega) (Ev.pos (by omega) (Ev.pos h1 (Ev.now _))))
    · obtain ⟨z, hz, hm⟩ := ih (i + 1) hd (by omega)
      refine ⟨z, Ev.step (fun k => by simp only [slices_Index_int_int.l0]; rfl) ?_, by simp [h1, hm]⟩
      rw [hx, next i l.length hil hl]
      exact Ev.pos (by omega) (Ev.pos (by omega) (Ev.pos (by omega) (Ev.neg h1 hz)))
theorem contains_ev (l : List Int) (v : Int) (hl : l.length ≤ 9223372036854775807) : Ev (fun k => slices_Contains_int_int.f k l v) (decide (v ∈ l)) := by
  obtain ⟨z, hz, hm⟩ := index_loop l v hl l 0 rfl (Nat.zero_le _)
  unfold slices_Contains_int_int.f slices_Index_int_int.f
  refine Ev.bind hz ?_
  have : decide (v ∈ l) = decide (z ≥ 0) := by simp only [hm]
  rw [this]; exact Ev.now _
theorem has_loop (l : List Int) (v : Int) (hl : l.length ≤ 9223372036854775807) : ∀ (r : List Int) (i : Nat), l.drop i = r → i ≤ l.length → Ev (fun k => rialtoref07_has.l0 k l v (i : Int)) (decide (v ∈ r)) := by
  intro r
  induction r with
  | nil =>
    intro i h hi
    obtain rfl := drop_nil h hi
    exact Ev.step (fun k => by simp only [rialtoref07_has.l0]; rfl) (Ev.neg (by omega) (by simpa using Ev.now false))
  | cons x xs ih =>
    intro i h hi
    obtain ⟨hx, hil, hd⟩ := rd_at h
    refine Ev.step (fun k => by simp only [rialtoref07_has.l0]; rfl) ?_
    rw [hx, next i l.length hil hl]
    refine Ev.pos (by omega) (Ev.pos (by omega) ?_)
    by_cases h1 : x = v
    · have : decide (v ∈ x :: xs) = true := by simp [h1]
      rw [this]; exact Ev.pos h1 (Ev.now _)
    · have : decide (v ∈ x :: xs) = decide (v ∈ xs) := by
        have : ¬ v = x := fun h => h1 h.symm
        simp [this]
      rw [this]; exact Ev.neg h1 (ih (i + 1) hd (by omega))
theorem has_ev (l : List Int) (v : Int) (hl : l.length ≤ 9223372036854775807) : Ev (fun k => rialtoref07_has.f k l v) (decide (v ∈ l)) :=
  has_loop l v hl l 0 rfl (Nat.zero_le _)
theorem stands_loop (l : List Int) (t v a : Int) (hl : l.length ≤ 9223372036854775807) : ∀ (r : List Int) (i : Nat) (last : Int), l.drop i = r → i ≤ l.length → (i = 0 → last = 0) → (0 < i → l[i - 1]? = some last) →
    Ev (fun k => term_ballot_stands.l0 k l (l.length : Int) (i : Int) t v a l) (okN last r && (decide (t > 0) && (decide (v > 0) && decide (v ∈ l)))) := by
  intro r
  induction r with
  | nil =>
    intro i last h hi _ _
    obtain rfl := drop_nil h hi
    refine Ev.step (fun k => by simp only [term_ballot_stands.l0]; rfl) (Ev.neg (by omega) ?_)
    by_cases h1 : t > 0
    rotate_left
    · rw [show (okN last [] && (decide (t > 0) && (decide (v > 0) && decide (v ∈ l)))) = false by simp [h1]]; exact Ev.neg h1 (Ev.now _)
    by_cases h2 : v > 0
    rotate_left
    · rw [show (okN last [] && (decide (t > 0) && (decide (v > 0) && decide (v ∈ l)))) = false by simp [h2]]; exact Ev.pos h1 (Ev.neg h2 (Ev.now _))
    rw [show (okN last [] && (decide (t > 0) && (decide (v > 0) && decide (v ∈ l)))) = decide (v ∈ l) by simp [okN, h1, h2]]
    exact Ev.pos h1 (Ev.pos h2 (Ev.bind (contains_ev l v hl) (Ev.now _)))
  | cons x xs ih =>
    intro i last h hi hz hp
    obtain ⟨hx, hil, hd⟩ := rd_at h
    have hno : ∀ b w, b = true → w = false → Ev (fun k => term_ballot_stands.j1 k l (l.length : Int) (i : Int) b t v a l) w := fun b w hb hw => by
      subst hb; subst hw
      exact Ev.step (fun k => by simp only [term_ballot_stands.j1]; rfl) (Ev.pos (by simp) (Ev.now _))
    refine Ev.step (fun k => by simp only [term_ballot_stands.l0]; rfl) ?_
    refine Ev.pos (by omega) (Ev.pos (by omega) (Ev.pos (by omega) ?_))
    rw [hx]
    refine Ev.bind0 (within_f _ _ _) ?_
    by_cases h1 : 1 ≤ x ∧ x ≤ 7
    rotate_left
    · refine Ev.neg (by simpa using h1) (hno _ _ rfl ?_)
      simp only [okN, h1, decide_false, Bool.false_and]
    refine Ev.pos (by simpa using h1) ?_
    have hgo : ∀ b, b = false → last < x → Ev (fun k => term_ballot_stands.j1 k l (l.length : Int) (i : Int) b t v a l) (okN last (x :: xs) && (decide (t > 0) && (decide (v > 0) && decide (v ∈ l)))) := fun b hb hlt => by
      subst hb
      have e : okN last (x :: xs) = okN x xs := by simp [okN, h1, hlt]
      rw [e]
      refine Ev.step (fun k => by simp only [term_ballot_stands.j1]; rfl) (Ev.neg (by simp) ?_)
      rw [next i l.length hil hl]
      refine ih (i + 1) x hd (by omega) (by omega) (fun _ => ?_)
      rw [Nat.add_sub_cancel, rd_get hil, hx]
    by_cases h0 : i = 0
    · exact Ev.neg (by omega) (hgo _ rfl (by rw [hz h0]; omega))
    · have hq := hp (by omega)
      have e : wrap64 ((i : Int) - 1) = ((i - 1 : Nat) : Int) := by rw [w64 (by omega) (by omega)]; omega
      have er : rd l (wrap64 ((i : Int) - 1)) = last := by
        rw [e]
        unfold rd
        rw [Int.toNat_natCast, List.getD_eq_getElem?_getD, hq]; rfl
      refine Ev.pos (by omega) ?_
      rw [er, e]
      refine Ev.pos (by omega) (Ev.pos (by omega) ?_)
      by_cases h4 : last < x
      · exact hgo _ (by simp; omega) h4
      · exact hno _ _ (by simp; omega) (by simp [okN, h4])
theorem stands_ev (l : List Int) (t v a : Int) (hl : l.length ≤ 9223372036854775807) : Ev (fun k => term_ballot_stands.f k t v a l) (standsB t v l) :=
  stands_loop l t v a hl l 0 0 rfl (Nat.zero_le _) (fun _ => rfl) (fun h => absurd h (by omega))
def fineB (t v r : Int) (l : List Int) : Bool :=
  decide (0 ≤ t ∧ t ≤ 1000000) && (decide (0 ≤ v ∧ v ≤ 7) && (decide (t > 0 ∨ v = 0) && (decide (1 ≤ r ∧ r ≤ 3) && (if r = 1 then decide (l.length = 0) else standsB t v l))))
theorem fine_ev (t v r : Int) (l : List Int) (hl : l.length ≤ 9223372036854775807) : Ev (fun k => term_ballot_fine.f k t v r l) (fineB t v r l) := by
  unfold term_ballot_fine.f fineB
  refine Ev.bind (stands_ev l t v r hl) (Ev.bind (stands_ev l t v r hl) (Ev.bind0 (within_f _ _ _) ?_))
  by_cases h1 : 0 ≤ t ∧ t ≤ 1000000
  rotate_left
  · simp only [h1, decide_false, Bool.false_and]; exact Ev.neg (by simp) (Ev.now _)
  simp only [h1, decide_true, Bool.true_and, and_self]
  refine Ev.pos (by simp) (Ev.bind0 (within_f _ _ _) ?_)
  by_cases h2 : 0 ≤ v ∧ v ≤ 7
  rotate_left
  · simp only [h2, decide_false, Bool.false_and]; exact Ev.neg (by simp) (Ev.now _)
  simp only [h2, decide_true, Bool.true_and, and_self]
  refine Ev.pos (by simp) ?_
  have hrole : Ev (fun k => (term_within.f r 1 3).bind fun t117 => (if t117 = true then (if r = 0 then (some false) else (if r = 1 then (some ((l.length : Int) == 0)) else (if r = 2 then (some (standsB t v l)) else (if r = 3 then (some (standsB t v l)) else (none))))) else (some false)))
      (decide (1 ≤ r ∧ r ≤ 3) && (if r = 1 then decide (l.length = 0) else standsB t v l)) := by
    refine Ev.bind0 (within_f _ _ _) ?_
    by_cases h3 : 1 ≤ r ∧ r ≤ 3
    rotate_left
    · simp only [h3, decide_false, Bool.false_and]; exact Ev.neg (by simp) (Ev.now _)
    simp only [h3, decide_true, Bool.true_and, and_self]
    refine Ev.pos (by simp) (Ev.neg (by omega) ?_)
    by_cases h4 : r = 1
    · have : (if r = 1 then decide (l.length = 0) else standsB t v l) = ((l.length : Int) == 0) := by
        rw [if_pos h4, Bool.eq_iff_iff]; simp
      rw [this]
      exact Ev.pos h4 (Ev.now _)
    · rw [show (if r = 1 then decide (l.length = 0) else standsB t v l) = standsB t v l from if_neg h4]
      refine Ev.neg h4 ?_
      by_cases h5 : r = 2
      · exact Ev.pos h5 (Ev.now _)
      · exact Ev.neg h5 (Ev.pos (by omega) (Ev.now _))
  by_cases h3 : t > 0
  · have : decide (t > 0 ∨ v = 0) = true := by simp [h3]
    rw [this, Bool.true_and]
    exact Ev.pos h3 hrole
  · refine Ev.neg h3 ?_
    by_cases h4 : v = 0
    · have : decide (t > 0 ∨ v = 0) = true := by simp [h4]
      rw [this, Bool.true_and]
      exact Ev.pos h4 hrole
    · have : decide (t > 0 ∨ v = 0) = false := by simp [h4]; omega
      rw [this, Bool.false_and]
      exact Ev.neg h4 (Ev.now _)
theorem may_loop (l : List Int) (t v r0 : Int) (hl : l.length ≤ 9223372036854775807) : ∀ (r : List Int) (i : Nat) (last : Int), l.drop i = r → i ≤ l.length → (i = 0 → last = 0) → (0 < i → l[i - 1]? = some last) →
    Ev (fun k => rialtoref07_May.l0 k (i : Int) t v r0 l t v) (okN last r && (decide (t > 0) && (decide (v > 0) && decide (v ∈ l)))) := by
  intro r
  induction r with
  | nil =>
    intro i last h hi _ _
    obtain rfl := drop_nil h hi
    refine Ev.step (fun k => by simp only [rialtoref07_May.l0]; rfl) (Ev.neg (by omega) ?_)
    by_cases h1 : t > 0
    rotate_left
    · rw [show (okN last [] && (decide (t > 0) && (decide (v > 0) && decide (v ∈ l)))) = false by simp [h1]]; exact Ev.neg h1 (Ev.now _)
    by_cases h2 : v > 0
    rotate_left
    · rw [show (okN last [] && (decide (t > 0) && (decide (v > 0) && decide (v ∈ l)))) = false by simp [h2]]; exact Ev.pos h1 (Ev.neg h2 (Ev.now _))
    rw [show (okN last [] && (decide (t > 0) && (decide (v > 0) && decide (v ∈ l)))) = decide (v ∈ l) by simp [okN, h1, h2]]
    exact Ev.pos h1 (Ev.pos h2 (Ev.bind (has_ev l v hl) (Ev.now _)))
  | cons x xs ih =>
    intro i last h hi hz hp
    obtain ⟨hx, hil, hd⟩ := rd_at h
    have hno : ∀ b w, b = true → w = false → Ev (fun k => rialtoref07_May.j3 k (i : Int) b t v r0 l t v) w := fun b w hb hw => by
      subst hb; subst hw
      exact Ev.step (fun k => by simp only [rialtoref07_May.j3]; rfl) (Ev.pos (by simp) (Ev.now _))
    refine Ev.step (fun k => by simp only [rialtoref07_May.l0]; rfl) ?_
    refine Ev.pos (by omega) (Ev.pos (by omega) ?_)
    rw [hx]
    refine Ev.bind0 (refWithin_f _ _ _) ?_
    by_cases h1 : 1 ≤ x ∧ x ≤ 7
    rotate_left
    · refine Ev.neg (by simpa using h1) (hno _ _ rfl ?_)
      simp only [okN, h1, decide_false, Bool.false_and]
    refine Ev.pos (by simpa using h1) ?_
    have hgo : ∀ b, b = false → last < x → Ev (fun k => rialtoref07_May.j3 k (i : Int) b t v r0 l t v) (okN last (x :: xs) && (decide (t > 0) && (decide (v > 0) && decide (v ∈ l)))) := fun b hb hlt => by
      subst hb
      have e : okN last (x :: xs) = okN x xs := by simp [okN, h1, hlt]
      rw [e]
      refine Ev.step (fun k => by simp only [rialtoref07_May.j3]; rfl) (Ev.neg (by simp) ?_)
      rw [next i l.length hil hl]
      refine ih (i + 1) x hd (by omega) (by omega) (fun _ => ?_)
      rw [Nat.add_sub_cancel, rd_get hil, hx]
    by_cases h0 : i = 0
    · exact Ev.neg (by omega) (hgo _ rfl (by rw [hz h0]; omega))
    · have hq := hp (by omega)
      have e : wrap64 ((i : Int) - 1) = ((i - 1 : Nat) : Int) := by rw [w64 (by omega) (by omega)]; omega
      have er : rd l (wrap64 ((i : Int) - 1)) = last := by
        rw [e]
        unfold rd
        rw [Int.toNat_natCast, List.getD_eq_getElem?_getD, hq]; rfl
      refine Ev.pos (by omega) ?_
      rw [er, e]
      refine Ev.pos (by omega) (Ev.pos (by omega) ?_)
      by_cases h4 : last < x
      · exact hgo _ (by simp; omega) h4
      · exact hno _ _ (by simp; omega) (by simp [okN, h4])
theorem may_ev (t v r : Int) (l : List Int) (hl : l.length ≤ 9223372036854775807) : Ev (fun k => rialtoref07_May.f k t v r l) (fineB t v r l) := by
  unfold rialtoref07_May.f fineB
  have hno : ∀ b w, b = true → w = false → Ev (fun k => rialtoref07_May.j0 k b t v r l t v) w := fun b w hb hw => by
    subst hb; subst hw
    exact Ev.step (fun k => by simp only [rialtoref07_May.j0]; rfl) (Ev.pos (by simp) (Ev.now _))
  refine Ev.bind0 (refWithin_f _ _ _) ?_
  by_cases h1 : 0 ≤ t ∧ t ≤ 1000000
  rotate_left
  · simp only [h1, decide_false, Bool.false_and]; exact Ev.neg (by simp) (hno _ _ rfl rfl)
  simp only [h1, decide_true, Bool.true_and, and_self]
  refine Ev.pos (by simp) (Ev.bind0 (refWithin_f _ _ _) ?_)
  by_cases h2 : 0 ≤ v ∧ v ≤ 7
  rotate_left
  · simp only [h2, decide_false, Bool.false_and]; exact Ev.neg (by simp) (hno _ _ rfl rfl)
  simp only [h2, decide_true, Bool.true_and, and_self]
  refine Ev.pos (by simp) ?_
  have hgo : ∀ b, b = false → Ev (fun k => rialtoref07_May.j0 k b t v r l t v) (decide (1 ≤ r ∧ r ≤ 3) && (if r = 1 then decide (l.length = 0) else standsB t v l)) := fun b hb => by
    subst hb
    refine Ev.step (fun k => by simp only [rialtoref07_May.j0]; rfl) (Ev.neg (by simp) ?_)
    have hs : ∀ b, b = false → Ev (fun k => rialtoref07_May.j1 k b t v r l t v) (standsB t v l) := fun b hb => by
      subst hb
      refine Ev.step (fun k => by simp only [rialtoref07_May.j1]; rfl) (Ev.neg (by simp) ?_)
      exact may_loop l t v r hl l 0 0 rfl (Nat.zero_le _) (fun _ => rfl) (fun h => absurd h (by omega))
    by_cases h4 : r = 1
    · subst h4
      have : (decide ((1 : Int) ≤ 1 ∧ (1 : Int) ≤ 3) && (if (1 : Int) = 1 then decide (l.length = 0) else standsB t v l)) = ((l.length : Int) == 0) := by
        rw [Bool.eq_iff_iff]; simp
      rw [this]
      exact Ev.pos (by simp) (Ev.now _)
    · refine Ev.neg h4 ?_
      rw [if_neg h4]
      by_cases h5 : r = 2
      · subst h5
        exact Ev.pos (by simp) (by simpa using hs false rfl)
      · refine Ev.neg h5 ?_
        by_cases h6 : r = 3
        · subst h6
          simpa using hs false rfl
        · have : (decide (1 ≤ r ∧ r ≤ 3) && standsB t v l) = false := by
            have : decide (1 ≤ r ∧ r ≤ 3) = false := by simp; omega
            rw [this, Bool.false_and]
          rw [this]
          have hb : (r != 3) = true := by simp [h6]
          rw [hb]
          exact Ev.step (fun k => by simp only [rialtoref07_May.j1]; rfl) (Ev.pos (by simp) (Ev.now _))
  by_cases h3 : t = 0
  · refine Ev.pos h3 ?_
    by_cases h4 : v = 0
    · have : decide (t > 0 ∨ v = 0) = true := by simp [h4]
      rw [this, Bool.true_and]
      exact hgo _ (by simp [h4])
    · have : decide (t > 0 ∨ v = 0) = false := by simp [h4]; omega
      rw [this, Bool.false_and]
      exact hno _ _ (by simp [h4]) rfl
  · refine Ev.neg h3 ?_
    have : decide (t > 0 ∨ v = 0) = true := by simp; omega
    rw [this, Bool.true_and]
    exact hgo _ rfl

/-! #### heard, Copy, Same, spoil -/
def heardS (t v r : Int) (l : List Int) (q : Int) : Int × Int × Int × List Int := if q > t then (q, 0, 1, []) else (t, v, r, l)
theorem heard_f (t v r : Int) (l : List Int) (q : Int) (hl : l.length < 17592186044416) : term_ballot_heard.f t v r l q = some (heardS t v r l q) := by
  unfold term_ballot_heard.f heardS slices_Clone_int_int.f
  by_cases h : q > t
  · simp [h]
  · simp [h, hl]
theorem copy_f (t v r : Int) (l : List Int) (hl : l.length < 17592186044416) : rialtoref07_Copy.f t v r l = some (t, v, r, l) := by
  unfold rialtoref07_Copy.f
  simp [hl]
theorem refHeard_f (t v r : Int) (l : List Int) (q : Int) (hl : l.length < 17592186044416) : rialtoref07_heard.f t v r l q = some (heardS t v r l q) := by
  unfold rialtoref07_heard.f heardS
  rw [copy_f t v r l hl]
  by_cases h : q > t
  · simp [h]
  · simp [h]
theorem same_loop (l : List Int) (t v a t' v' a' : Int) (hl : l.length ≤ 9223372036854775807) : ∀ (n i : Nat), l.length - i = n → i ≤ l.length → Ev (fun k => rialtoref07_Same.l0 k (i : Int) t v a l t' v' a' l) true := by
  intro n
  induction n with
  | zero =>
    intro i hn hi
    exact Ev.step (fun k => by simp only [rialtoref07_Same.l0]; rfl) (Ev.neg (by omega) (Ev.now _))
  | succ n ih =>
    intro i hn hi
    refine Ev.step (fun k => by simp only [rialtoref07_Same.l0]; rfl) ?_
    rw [next i l.length (by omega) hl]
    exact Ev.pos (by omega) (Ev.pos (by omega) (Ev.pos (by omega) (Ev.pos trivial (ih (i + 1) (by omega) (by omega)))))
theorem same_ev (t v a : Int) (l : List Int) (hl : l.length ≤ 9223372036854775807) : Ev (fun k => rialtoref07_Same.f k t v a l t v a l) true := by
  unfold rialtoref07_Same.f
  refine Ev.neg (by simp) (Ev.pos rfl (Ev.step (fun k => by simp only [rialtoref07_Same.j0]; rfl) (Ev.neg (by simp) ?_)))
  exact same_loop l t v a t v a hl _ 0 rfl (Nat.zero_le _)
theorem spoil_loop (t v a : Int) : ∀ (n i : Nat) (l : List Int), l.length ≤ 9223372036854775807 → l.length - i = n → i ≤ l.length → ∃ z, Ev (fun k => rialtolaw07_spoil.l0 k (i : Int) t v a l) z := by
  intro n
  induction n with
  | zero =>
    intro i l hl hn hi
    exact ⟨l, Ev.step (fun k => by simp only [rialtolaw07_spoil.l0]; rfl) (Ev.neg (by omega) (Ev.now _))⟩
  | succ n ih =>
    intro i l hl hn hi
    obtain ⟨z, hz⟩ := ih (i + 1) (l.set (i : Int).toNat (-1)) (by simpa using hl) (by simp; omega) (by simp; omega)
    refine ⟨z, Ev.step (fun k => by simp only [rialtolaw07_spoil.l0]; rfl) ?_⟩
    rw [next i l.length (by omega) hl]
    exact Ev.pos (by omega) (Ev.pos (by omega) hz)
theorem spoil_ev (t v a : Int) (l : List Int) (hl : l.length ≤ 9223372036854775807) : ∃ z, Ev (fun k => rialtolaw07_spoil.f k t v a l) z :=
  spoil_loop t v a _ 0 l hl rfl (Nat.zero_le _)
set_option maxRecDepth 100000 in
theorem live_ev : Ev (fun k => rialtolaw07_live.f k) true := Ev.of (k := 24) rialtolaw07_live.mono (by kernel_rfl)
end Go.Proofs.Ythhdfefobblmkaa.Plain
