/- Plain laws of accounts: what the program's and the document's functions come to, on lists; no memory and no Go in sight. -/
import Derived.Test.YthblegfihenflaaPx2
import Derived.Test.YthblegfihenflaaPx20
import Derived.Test.YthblegfihenflaaPx3
import Derived.Test.YthblegfihenflaaPx4
import Derived.Test.YthblegfihenflaaPx7
import Derived.Test.YthblegfihenflaaPx8
import Derived.Test.YthblegfihenflaaPx9
import Derived.Test.YthblegfihenflaaPx10
import Derived.Test.YthblegfihenflaaPx11
import Derived.Test.YthblegfihenflaaPx13
import Derived.Test.YthblegfihenflaaPx16
import Derived.Test.YthblegfihenflaaG2
namespace Go.Proofs.Ythblegfihenflaa.Plain
open Go.RowKit Go.Proofs.Ythblegfihenflaa.P Go.Proofs.YthblegfihenflaaW.PrintWords Go.Proofs.YthblegfihenflaaG
set_option linter.unusedSimpArgs false
set_option linter.unusedVariables false

instance : DecidableEq S31 := fun a b => decidable_of_iff (a.f0 = b.f0 ∧ a.f1 = b.f1) (by cases a; cases b; simp)

abbrev MX : Int := 9007199254740992

def okL (last : Int) : List S31 → Bool
  | [] => true
  | x :: xs => decide (last < x.f0 ∧ x.f0 ≤ 3 ∧ 1 ≤ x.f1 ∧ x.f1 ≤ MX) && okL x.f0 xs
def balL : List S31 → Int → Int
  | [], _ => 0
  | x :: xs, a => if x.f0 = a then x.f1 else balL xs a
def setL : List S31 → Int → Int → List S31
  | [], a, n => if n = 0 then [] else [⟨a, n⟩]
  | x :: xs, a, n => if x.f0 < a then x :: setL xs a n else if x.f0 = a then (if n = 0 then xs else ⟨a, n⟩ :: xs) else (if n = 0 then x :: xs else ⟨a, n⟩ :: x :: xs)
def posL : List S31 → Int → Nat
  | [], _ => 0
  | x :: xs, a => if x.f0 < a then posL xs a + 1 else 0
def hasL : List S31 → Int → Bool
  | [], _ => false
  | x :: xs, a => if x.f0 < a then hasL xs a else x.f0 == a
def okA (l : List S31) (c : Int) : Bool := okL (-1) l && decide (0 ≤ c ∧ c ≤ 1000000000)

theorem rd_at {l : List S31} {i : Nat} {x : S31} {xs : List S31} (h : l.drop i = x :: xs) : rd_T31 l (i : Int) = x ∧ i < l.length ∧ l.drop (i + 1) = xs := by
  have hi : i < l.length := by
    rcases Nat.lt_or_ge i l.length with h' | h'
    · exact h'
    · rw [List.drop_eq_nil_of_le h'] at h; cases h
  rw [List.drop_eq_getElem_cons hi] at h
  injection h with h1 h2
  refine ⟨?_, hi, h2⟩
  unfold rd_T31
  rw [Int.toNat_natCast, List.getD_eq_getElem?_getD, List.getElem?_eq_getElem hi]
  exact h1
theorem drop_nil {l : List S31} {i : Nat} (h : l.drop i = []) (hi : i ≤ l.length) : i = l.length := by
  have := List.length_drop (l := l) (i := i)
  rw [h] at this
  simp at this
  omega
theorem next (i : Nat) (n : Nat) (h : i < n) (hn : n ≤ 9223372036854775807) : wrap64 ((i : Int) + 1) = ((i + 1 : Nat) : Int) := by
  rw [w64 (by omega) (by omega)]; omega

theorem check_loop (l l' : List S31) (c : Int) (hl : l.length ≤ 9223372036854775807) : ∀ (r : List S31) (i : Nat) (last : Int), l.drop i = r → i ≤ l.length →
    Ev (fun k => ledger_Check.l0 k last l (l.length : Int) (i : Int) l' c) (if okL last r = true ∧ 0 ≤ c ∧ c ≤ 1000000000 then 0 else 120) := by
  intro r
  induction r with
  | nil =>
    intro i last h hi
    obtain rfl := drop_nil h hi
    refine Ev.step (fun k => by simp only [ledger_Check.l0]; rfl) ?_
    refine Ev.neg (by omega) ?_
    simp only [okL, true_and]
    by_cases h0 : c < 0
    · have e : ¬ (0 ≤ c ∧ c ≤ 1000000000) := by omega
      simp only [e, if_false]; exact Ev.pos h0 (Ev.now _)
    · refine Ev.neg h0 ?_
      by_cases h1 : c > 1000000000
      · have e : ¬ (0 ≤ c ∧ c ≤ 1000000000) := by omega
        simp only [e, if_false]; exact Ev.pos h1 (Ev.now _)
      · have e : (0 ≤ c ∧ c ≤ 1000000000) := by omega
        simp only [e, if_true, and_self]; exact Ev.neg h1 (Ev.now _)
  | cons x xs ih =>
    intro i last h hi
    obtain ⟨hx, hil, hd⟩ := rd_at h
    refine Ev.step (fun k => by simp only [ledger_Check.l0]; rfl) ?_
    rw [hx, next i l.length hil hl]
    refine Ev.pos (by omega) (Ev.pos (by omega) (Ev.pos (by omega) ?_))
    by_cases h1 : x.f0 ≤ last
    · rw [if_neg (by simp [okL]; omega)]; exact Ev.pos h1 (Ev.now _)
    refine Ev.neg h1 ?_
    by_cases h2 : x.f0 > 3
    · rw [if_neg (by simp [okL]; omega)]; exact Ev.pos h2 (Ev.now _)
    refine Ev.neg h2 ?_
    by_cases h3 : x.f1 < 1
    · rw [if_neg (by simp [okL]; omega)]; exact Ev.pos h3 (Ev.now _)
    refine Ev.neg h3 ?_
    by_cases h4 : x.f1 > 9007199254740992
    · rw [if_neg (by simp [okL, MX]; omega)]; exact Ev.pos h4 (Ev.now _)
    refine Ev.neg h4 ?_
    have e : okL last (x :: xs) = okL x.f0 xs := by
      simp only [okL]
      rw [decide_eq_true (by unfold MX; omega)]; rfl
    rw [e]
    exact ih (i + 1) x.f0 hd (by omega)

theorem check_ev (l : List S31) (c : Int) (hl : l.length ≤ 9223372036854775807) : Ev (fun k => ledger_Check.f k l c) (if okA l c = true then 0 else 120) := by
  have h := check_loop l l c hl l 0 (-1) rfl (Nat.zero_le _)
  unfold okA
  simp only [Bool.and_eq_true, decide_eq_true_eq]
  exact h

theorem bal_loop (l : List S31) (a : Int) (hl : l.length ≤ 9223372036854775807) : ∀ (r : List S31) (i : Nat), l.drop i = r → i ≤ l.length → Ev (fun k => ledger_Balance.l0 k a l (l.length : Int) (i : Int)) (balL r a) := by
  intro r
  induction r with
  | nil =>
    intro i h hi
    obtain rfl := drop_nil h hi
    exact Ev.step (fun k => by simp only [ledger_Balance.l0]; rfl) (Ev.neg (by omega) (Ev.now _))
  | cons x xs ih =>
    intro i h hi
    obtain ⟨hx, hil, hd⟩ := rd_at h
    refine Ev.step (fun k => by simp only [ledger_Balance.l0]; rfl) ?_
    rw [hx, next i l.length hil hl]
    refine Ev.pos (by omega) (Ev.pos (by omega) (Ev.pos (by omega) ?_))
    unfold balL
    by_cases h1 : x.f0 = a
    · rw [if_pos h1]; exact Ev.pos h1 (Ev.now _)
    · rw [if_neg h1]; exact Ev.neg h1 (ih (i + 1) hd (by omega))
theorem bal_ev (l : List S31) (c a : Int) (hl : l.length ≤ 9223372036854775807) : Ev (fun k => ledger_Balance.f k l c a) (balL l a) := bal_loop l a hl l 0 rfl (Nat.zero_le _)

/-! #### the facts on sorted lists -/
theorem ok_len : ∀ (l : List S31) (last : Int), okL last l = true → -1 ≤ last → last ≤ 3 → (l.length : Int) ≤ 3 - last
  | [], last, _, h0, h3 => by simp; omega
  | x :: xs, last, h, h0, h3 => by
    simp only [okL, Bool.and_eq_true, decide_eq_true_eq] at h
    have := ok_len xs x.f0 h.2 (by omega) (by omega)
    simp only [List.length_cons]
    omega
theorem ok_tail {last : Int} {x : S31} {xs : List S31} (h : okL last (x :: xs) = true) : okL x.f0 xs = true ∧ last < x.f0 ∧ x.f0 ≤ 3 ∧ 1 ≤ x.f1 ∧ x.f1 ≤ MX := by
  simp only [okL, Bool.and_eq_true, decide_eq_true_eq] at h
  exact ⟨h.2, h.1⟩
theorem ok_gt : ∀ (l : List S31) (last : Int), okL last l = true → ∀ x ∈ l, last < x.f0 ∧ x.f0 ≤ 3 ∧ 1 ≤ x.f1 ∧ x.f1 ≤ MX
  | [], _, _, x, hx => by cases hx
  | y :: ys, last, h, x, hx => by
    obtain ⟨h1, h2⟩ := ok_tail h
    rcases List.mem_cons.1 hx with rfl | hx
    · exact h2
    · have := ok_gt ys y.f0 h1 x hx
      omega
theorem pos_le : ∀ (l : List S31) (a : Int), posL l a ≤ l.length
  | [], _ => Nat.le_refl _
  | x :: xs, a => by
    unfold posL
    split
    · have := pos_le xs a; simp; omega
    · exact Nat.zero_le _
/-- an element's asset is less than 'a' just ahead of the place -/
theorem pos_lt : ∀ (l : List S31) (last a : Int), okL last l = true → ∀ i x, l[i]? = some x → (x.f0 < a ↔ i < posL l a)
  | [], _, _, _, i, x, hx => by simp at hx
  | y :: ys, last, a, h, i, x, hx => by
    obtain ⟨h1, h2⟩ := ok_tail h
    unfold posL
    cases i with
    | zero =>
      simp only [List.getElem?_cons_zero, Option.some.injEq] at hx
      subst hx
      split <;> simp_all
    | succ i =>
      simp only [List.getElem?_cons_succ] at hx
      split
      · rw [pos_lt ys y.f0 a h1 i x hx]; omega
      · have := ok_gt ys y.f0 h1 x (List.mem_of_getElem? hx)
        constructor <;> intro <;> omega
theorem has_pos : ∀ (l : List S31) (a : Int), hasL l a = true ↔ ∃ x, l[posL l a]? = some x ∧ x.f0 = a
  | [], a => by simp [hasL, posL]
  | y :: ys, a => by
    unfold hasL posL
    split
    · simpa using has_pos ys a
    · simp
theorem bal_pos : ∀ (l : List S31) (last a : Int), okL last l = true → balL l a = if hasL l a = true then ((l[posL l a]?).getD z31).f1 else 0
  | [], _, _, _ => by simp [balL, hasL]
  | y :: ys, last, a, h => by
    obtain ⟨h1, h2⟩ := ok_tail h
    unfold balL hasL posL
    by_cases h3 : y.f0 < a
    · have h4 : ¬ y.f0 = a := by omega
      simp only [h3, h4, if_true, if_false]
      rw [bal_pos ys y.f0 a h1]; simp
    · by_cases h4 : y.f0 = a
      · simp [h4]
      · simp only [h3, h4, if_false]
        have : balL ys a = 0 := by
          rw [bal_pos ys y.f0 a h1, if_neg]
          intro hh
          obtain ⟨x, hx, he⟩ := (has_pos ys a).1 hh
          have := ok_gt ys y.f0 h1 x (List.mem_of_getElem? hx)
          omega
        rw [this]; simp [h4]
theorem set_has : ∀ (l : List S31) (a n : Int), n ≠ 0 → hasL l a = true → setL l a n = l.set (posL l a) ⟨a, n⟩
  | [], a, n, _, h => by simp [hasL] at h
  | y :: ys, a, n, hn, h => by
    unfold setL posL
    unfold hasL at h
    by_cases h3 : y.f0 < a
    · simp only [h3, if_true] at h ⊢
      rw [set_has ys a n hn h]; rfl
    · simp only [h3, if_false] at h ⊢
      have : y.f0 = a := by simpa using h
      simp [this, hn]
theorem set_zero : ∀ (l : List S31) (a : Int), hasL l a = true → setL l a 0 = l.take (posL l a) ++ l.drop (posL l a + 1)
  | [], a, h => by simp [hasL] at h
  | y :: ys, a, h => by
    unfold setL posL
    unfold hasL at h
    by_cases h3 : y.f0 < a
    · simp only [h3, if_true] at h ⊢
      rw [set_zero ys a h]; rfl
    · simp only [h3, if_false] at h ⊢
      have : y.f0 = a := by simpa using h
      simp [this]
theorem set_not : ∀ (l : List S31) (last a n : Int), n ≠ 0 → okL last l = true → hasL l a = false → setL l a n = l.take (posL l a) ++ [⟨a, n⟩] ++ l.drop (posL l a)
  | [], _, a, n, hn, _, h => by simp [setL, posL, hn]
  | y :: ys, last, a, n, hn, ho, h => by
    unfold setL posL
    unfold hasL at h
    by_cases h3 : y.f0 < a
    · simp only [h3, if_true] at h ⊢
      rw [set_not ys y.f0 a n hn (ok_tail ho).1 h]; simp
    · simp only [h3, if_false] at h ⊢
      have : ¬ y.f0 = a := by simpa using h
      simp [this, hn]

/-! #### the search -/
theorem rd_get {l : List S31} {i : Nat} (h : i < l.length) : l[i]? = some (rd_T31 l (i : Int)) := by
  unfold rd_T31
  rw [Int.toNat_natCast, List.getD_eq_getElem?_getD, List.getElem?_eq_getElem h]; rfl
theorem search_loop (l : List S31) (a : Int) (ho : okL (-1) l = true) (ha0 : 0 ≤ a) (ha3 : a ≤ 3) : ∀ (d i j : Nat), j - i = d → i ≤ posL l a → posL l a ≤ j → j ≤ l.length →
    Ev (fun k => api_Amount_int.l0 k l a (l.length : Int) (i : Int) (j : Int)) ((posL l a : Int), hasL l a) := by
  have hlen : (l.length : Int) ≤ 4 := by have := ok_len l (-1) ho (by omega) (by omega); omega
  have hcmp : ∀ h : Nat, h < l.length → ledger_place_1.f ((rd_T31 l (h : Int)).f0) ((rd_T31 l (h : Int)).f1) a = some ((rd_T31 l (h : Int)).f0 - a) ∧ ((rd_T31 l (h : Int)).f0 - a < 0 ↔ h < posL l a) := fun h hh => by
    have hg := rd_get hh
    have hb := ok_gt l (-1) ho _ (List.mem_of_getElem? hg)
    refine ⟨by unfold ledger_place_1.f; rw [w64 (by omega) (by omega)], ?_⟩
    rw [← pos_lt l (-1) a ho h _ hg]
    omega
  intro d
  induction d using Nat.strongRecOn with
  | _ d ih =>
    intro i j hd hi hj hjl
    refine Ev.step (fun k => by simp only [api_Amount_int.l0]; rfl) ?_
    by_cases hij : i < j
    · refine Ev.pos (by omega) ?_
      rw [mid_eq i j (by omega)]
      have hm : (i + j) / 2 < l.length := by omega
      refine Ev.pos (by omega) (Ev.pos (by omega) ?_)
      obtain ⟨h1, h2⟩ := hcmp ((i + j) / 2) hm
      refine Ev.bind0 h1 ?_
      by_cases hlt : (i + j) / 2 < posL l a
      · refine Ev.pos (h2.2 hlt) ?_
        rw [next _ l.length hm (by omega)]
        exact ih (j - ((i + j) / 2 + 1)) (by omega) _ _ rfl (by omega) hj hjl
      · refine Ev.neg (fun h => hlt (h2.1 h)) ?_
        exact ih ((i + j) / 2 - i) (by omega) _ _ rfl hi (by omega) (by omega)
    · have hp : i = posL l a := by omega
      refine Ev.neg (by omega) ?_
      by_cases hn : i < l.length
      · refine Ev.pos (by omega) (Ev.pos (by omega) (Ev.pos (by omega) ?_))
        obtain ⟨h1, h2⟩ := hcmp i hn
        refine Ev.bind0 h1 ?_
        have hg := rd_get hn
        have e : ((rd_T31 l (i : Int)).f0 - a == 0) = hasL l a := by
          rw [Bool.eq_iff_iff, has_pos, ← hp, hg]
          simp
          omega
        rw [e, hp]
        exact Ev.now _
      · refine Ev.neg (by omega) ?_
        have e : hasL l a = false := by
          rw [Bool.eq_false_iff]
          intro hh
          obtain ⟨x, hx, _⟩ := (has_pos l a).1 hh
          have := (List.getElem?_eq_some_iff.1 hx).1
          omega
        rw [e, hp]
        exact Ev.now _
theorem place_ev (l : List S31) (a : Int) (ho : okL (-1) l = true) (ha0 : 0 ≤ a) (ha3 : a ≤ 3) : Ev (fun k => ledger_place.f k l a) ((posL l a : Int), hasL l a) := by
  have h := search_loop l a ho ha0 ha3 _ 0 l.length rfl (Nat.zero_le _) (pos_le l a) (Nat.le_refl _)
  unfold ledger_place.f
  refine Ev.bind (a := ((posL l a : Int), hasL l a)) ?_ (Ev.now _)
  exact h

theorem same_loop (l m : List S31) (hlm : l.length = m.length) (hl : l.length ≤ 9223372036854775807) : ∀ (r s : List S31) (i : Nat), l.drop i = r → m.drop i = s → i ≤ l.length → Ev (fun k => rialtoref12_SameAmounts.l0 k l m (i : Int)) (decide (r = s)) := by
  intro r
  induction r with
  | nil =>
    intro s i h hs hi
    obtain rfl := drop_nil h hi
    have : s = [] := by rw [← hs, List.drop_eq_nil_of_le (by omega)]
    subst this
    exact Ev.step (fun k => by simp only [rialtoref12_SameAmounts.l0]; rfl) (Ev.neg (by omega) (by simpa using Ev.now true))
  | cons x xs ih =>
    intro s i h hs hi
    obtain ⟨hx, hil, hd⟩ := rd_at h
    obtain ⟨y, ys, rfl⟩ : ∃ y ys, s = y :: ys := by
      rw [List.drop_eq_getElem_cons (by omega)] at hs
      exact ⟨_, _, hs.symm⟩
    obtain ⟨hy, _, hd'⟩ := rd_at hs
    refine Ev.step (fun k => by simp only [rialtoref12_SameAmounts.l0]; rfl) ?_
    rw [hx, hy, next i l.length hil hl]
    refine Ev.pos (by omega) (Ev.pos (by omega) (Ev.pos (by omega) ?_))
    by_cases hxy : x = y
    · subst hxy
      refine Ev.neg (by simp) ?_
      have := ih ys (i + 1) hd hd' (by omega)
      simpa using this
    · refine Ev.pos ?_ ?_
      · cases x; cases y; simp at hxy ⊢; omega
      · have : decide (x :: xs = y :: ys) = false := by simp [hxy]
        rw [this]; exact Ev.now _
theorem same_ev (l m : List S31) (hl : l.length ≤ 9223372036854775807) : Ev (fun k => rialtoref12_SameAmounts.f k l m) (decide (l = m)) := by
  unfold rialtoref12_SameAmounts.f
  by_cases h : l.length = m.length
  · exact Ev.pos (by omega) (same_loop l m h hl l m 0 rfl rfl (Nat.zero_le _))
  · refine Ev.neg (by omega) ?_
    have : decide (l = m) = false := by simp; rintro rfl; exact h rfl
    rw [this]; exact Ev.now _
end Go.Proofs.Ythblegfihenflaa.Plain
