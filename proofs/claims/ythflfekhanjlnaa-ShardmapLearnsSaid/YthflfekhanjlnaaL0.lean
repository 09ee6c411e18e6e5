/- Plain laws of maps of places: what the program's functions come to, on lists; no memory and no Go in sight. -/
import Derived.Test.YthflfekhanjlnaaPx3
import Derived.Test.YthflfekhanjlnaaPx4
import Derived.Test.YthflfekhanjlnaaPx5
import Derived.Test.YthflfekhanjlnaaPx8
import Derived.Test.YthflfekhanjlnaaPx10
import Derived.Test.YthflfekhanjlnaaPx11
import Derived.Test.YthflfekhanjlnaaPx12
import Derived.Test.YthflfekhanjlnaaPx15
import Derived.Test.YthflfekhanjlnaaPx16
import Derived.Test.YthflfekhanjlnaaPx21
import Derived.Test.YthflfekhanjlnaaPx22
import Derived.Test.YthflfekhanjlnaaPx23
import Derived.Test.YthflfekhanjlnaaPx24
import Derived.Test.YthflfekhanjlnaaPx20
import Derived.Test.YthflfekhanjlnaaG2
namespace Go.Proofs.Ythflfekhanjlnaa.Plain
open Go.RowKit Go.Proofs.Ythflfekhanjlnaa.P Go.Proofs.YthflfekhanjlnaaW.PrintWords Go.Proofs.YthflfekhanjlnaaG
set_option linter.unusedSimpArgs false
set_option linter.unusedVariables false

instance : DecidableEq S24 := fun a b => decidable_of_iff (a.f0 = b.f0 ∧ a.f1 = b.f1) (by cases a; cases b; simp)
instance : DecidableEq S30 := fun a b => decidable_of_iff (a.f0 = b.f0 ∧ a.f1 = b.f1 ∧ a.f2 = b.f2) (by cases a; cases b; simp)

theorem rd_at {l : List S30} {i : Nat} {x : S30} {xs : List S30} (h : l.drop i = x :: xs) : rd_T30 l (i : Int) = x ∧ i < l.length ∧ l.drop (i + 1) = xs := by
  have hi : i < l.length := by
    rcases Nat.lt_or_ge i l.length with h' | h'
    · exact h'
    · rw [List.drop_eq_nil_of_le h'] at h; cases h
  rw [List.drop_eq_getElem_cons hi] at h
  injection h with h1 h2
  refine ⟨?_, hi, h2⟩
  unfold rd_T30
  rw [Int.toNat_natCast, List.getD_eq_getElem?_getD, List.getElem?_eq_getElem hi]
  exact h1
theorem rd_get {l : List S30} {i : Nat} (h : i < l.length) : l[i]? = some (rd_T30 l (i : Int)) := by
  unfold rd_T30
  rw [Int.toNat_natCast, List.getD_eq_getElem?_getD, List.getElem?_eq_getElem h]; rfl
theorem drop_nil {l : List S30} {i : Nat} (h : l.drop i = []) (hi : i ≤ l.length) : i = l.length := by
  have := List.length_drop (l := l) (i := i)
  rw [h] at this
  simp at this
  omega
theorem next (i : Nat) (n : Nat) (h : i < n) (hn : n ≤ 9223372036854775807) : wrap64 ((i : Int) + 1) = ((i + 1 : Nat) : Int) := by
  rw [w64 (by omega) (by omega)]; omega

/-! #### keys -/
def keyB (a b : Int) : Bool := decide ((a = 1 ∧ 1 ≤ b ∧ b ≤ 8) ∨ (a = 2 ∧ 1 ≤ b ∧ b ≤ 3))
def kc (k : S24) : Int := k.f0 * 16 + k.f1
def goodB (p : S30) : Bool := keyB p.f0.f0 p.f0.f1 && decide (0 ≤ p.f1 ∧ p.f1 ≤ 3 ∧ 0 ≤ p.f2 ∧ p.f2 ≤ 1000000)
def okL (last : Int) : List S30 → Bool
  | [] => true
  | x :: xs => goodB x && decide (last < kc x.f0) && okL (kc x.f0) xs
theorem key_of {a b : Int} (h : keyB a b = true) : (a = 1 ∧ 1 ≤ b ∧ b ≤ 8) ∨ (a = 2 ∧ 1 ≤ b ∧ b ≤ 3) := by simpa [keyB] using h
theorem kc_bd {k : S24} (h : keyB k.f0 k.f1 = true) : 17 ≤ kc k ∧ kc k ≤ 35 := by
  have := key_of h
  unfold kc
  omega
theorem kc_inj {k m : S24} (h : keyB k.f0 k.f1 = true) (h' : keyB m.f0 m.f1 = true) (e : kc k = kc m) : k = m := by
  have h1 := key_of h
  have h2 := key_of h'
  unfold kc at e
  cases k; cases m
  simp only [S24.mk.injEq] at h1 h2 e ⊢
  omega
theorem good_of {p : S30} (h : goodB p = true) : keyB p.f0.f0 p.f0.f1 = true ∧ 0 ≤ p.f1 ∧ p.f1 ≤ 3 ∧ 0 ≤ p.f2 ∧ p.f2 ≤ 1000000 := by
  simpa [goodB] using h

theorem within_f (a b c : Int) : shardmap_within.f a b c = some (decide (b ≤ a ∧ a ≤ c)) := by
  unfold shardmap_within.f
  by_cases h : b ≤ a <;> simp [h]
theorem isKey_f (a b : Int) : shardmap_isKey.f a b = some (keyB a b) := by
  unfold shardmap_isKey.f
  rw [within_f, within_f]
  by_cases h : a = 1
  · subst h
    by_cases h2 : 1 ≤ b ∧ b ≤ 8 <;> simp [keyB, h2]
  · by_cases h3 : a = 2
    · subst h3
      simp [keyB]
    · simp [keyB, h, h3]
def homeS (k : S24) (g : Int) : Int × Int := if keyB k.f0 k.f1 = true ∧ 1 ≤ g ∧ g ≤ 4 then (Int.tmod k.f1 g, 0) else (0, 1)
theorem home_ev (a b g : Int) : Ev (fun k => shardmap_Home.f k a b g) (homeS ⟨a, b⟩ g) := by
  unfold shardmap_Home.f homeS
  refine Ev.bind0 (isKey_f a b) ?_
  by_cases h : keyB a b = true
  · refine Ev.pos h (Ev.bind0 (within_f g 1 4) ?_)
    refine Ev.step (fun k => by simp only [shardmap_Home.j0]; rfl) ?_
    by_cases h2 : 1 ≤ g ∧ g ≤ 4
    · simp only [h, h2, and_self, decide_true, if_true]
      exact Ev.neg (by simp) (Ev.neg (by omega) (Ev.now _))
    · simp only [h, h2, and_false, decide_false, if_false]
      exact Ev.pos (by simp) (Ev.now _)
  · refine Ev.neg h (Ev.step (fun k => by simp only [shardmap_Home.j0]; rfl) ?_)
    simp only [h, false_and, if_false]
    exact Ev.pos (by simp) (Ev.now _)

def sgn (a b : Int) : Int := if a < b then -1 else if a > b then 1 else 0
theorem compare_f (a b : Int) : cmp_Compare_int.f a b = some (sgn a b) := by
  unfold cmp_Compare_int.f cmp_isNaN_int.f sgn
  simp only [bne_self_eq_false, Option.bind_some]
  simp only [Bool.false_eq_true, if_false]
  split
  · rfl
  · split <;> rfl
theorem or_ev (x y : Int) : Ev (fun k => cmp_Or_int.f k [x, y]) (if x = 0 then y else x) := by
  unfold cmp_Or_int.f
  refine Ev.step (fun k => by simp only [cmp_Or_int.l0]; rfl) ?_
  refine Ev.pos (by simp) (Ev.pos (by omega) (Ev.pos (by simp) ?_))
  have r0 : rd [x, y] 0 = x := rfl
  have r1 : rd [x, y] 1 = y := rfl
  rw [r0]
  by_cases h : x = 0
  · refine Ev.pos h ?_
    rw [if_pos h, show wrap64 (0 + 1) = 1 from by rw [w64 (by omega) (by omega)]; rfl]
    refine Ev.step (fun k => by simp only [cmp_Or_int.l0]; rfl) ?_
    refine Ev.pos (by simp) (Ev.pos (by omega) (Ev.pos (by simp) ?_))
    rw [r1]
    by_cases h2 : y = 0
    · refine Ev.pos h2 ?_
      rw [show wrap64 (1 + 1) = 2 from by rw [w64 (by omega) (by omega)]; rfl, h2]
      exact Ev.step (fun k => by simp only [cmp_Or_int.l0]; rfl) (Ev.neg (by simp) (Ev.now _))
    · exact Ev.neg h2 (Ev.now _)
  · rw [if_neg h]
    exact Ev.neg h (Ev.now _)
theorem byKey_ev (a b c d : Int) : Ev (fun k => shardmap_byKey.f k a b c d) (if sgn a c = 0 then sgn b d else sgn a c) := by
  unfold shardmap_byKey.f
  exact Ev.bind0 (compare_f a c) (Ev.bind0 (compare_f b d) (Ev.bind (or_ev _ _) (Ev.now _)))
theorem by_good {a b c d : Int} (h : keyB a b = true) (h' : keyB c d = true) : (if sgn a c = 0 then sgn b d else sgn a c) = sgn (kc ⟨a, b⟩) (kc ⟨c, d⟩) := by
  have h1 := key_of h
  have h2 := key_of h'
  have hs : ∀ x y z : Int, sgn x y = sgn (z + x) (z + y) := fun x y z => by
    unfold sgn
    simp
  have hl : ∀ x y : Int, x < y → sgn x y = -1 := fun x y q => by unfold sgn; rw [if_pos q]
  have hg : ∀ x y : Int, y < x → sgn x y = 1 := fun x y q => by unfold sgn; rw [if_neg (by omega), if_pos q]
  have he : ∀ x : Int, sgn x x = 0 := fun x => by unfold sgn; rw [if_neg (by omega), if_neg (by omega)]
  unfold kc
  simp only
  rcases h1 with ⟨rfl, h3, h4⟩ | ⟨rfl, h3, h4⟩ <;> rcases h2 with ⟨rfl, h5, h6⟩ | ⟨rfl, h5, h6⟩
  · rw [he, if_pos rfl]; exact hs _ _ _
  · rw [hl 1 2 (by omega), if_neg (by omega), hl _ _ (by omega)]
  · rw [hg 2 1 (by omega), if_neg (by omega), hg _ _ (by omega)]
  · rw [he, if_pos rfl]; exact hs _ _ _

/-! #### whether a map may be -/
theorem fine_loop (l : List S30) (hl : l.length ≤ 9223372036854775807) : ∀ (r : List S30) (i : Nat) (last : Int), l.drop i = r → i ≤ l.length → (i = 0 → last = 0) → (0 < i → ∃ x, l[i - 1]? = some x ∧ kc x.f0 = last ∧ goodB x = true) →
    Ev (fun k => shardmap_fine.l0 k l l (l.length : Int) (i : Int)) (okL last r) := by
  intro r
  induction r with
  | nil =>
    intro i last h hi _ _
    obtain rfl := drop_nil h hi
    exact Ev.step (fun k => by simp only [shardmap_fine.l0]; rfl) (Ev.neg (by omega) (Ev.now _))
  | cons x xs ih =>
    intro i last h hi hz hp
    obtain ⟨hx, hil, hd⟩ := rd_at h
    have hno : ∀ b v, b = true → v = false → Ev (fun k => shardmap_fine.j1 k l l (l.length : Int) (i : Int) b) v := fun b v hb hv => by
      subst hb; subst hv
      refine Ev.step (fun k => by simp only [shardmap_fine.j1]; rfl) ?_
      exact Ev.pos (by simp) (Ev.now _)
    refine Ev.step (fun k => by simp only [shardmap_fine.l0]; rfl) ?_
    refine Ev.pos (by omega) (Ev.pos (by omega) (Ev.pos (by omega) ?_))
    rw [hx]
    refine Ev.bind0 (isKey_f _ _) ?_
    by_cases h1 : keyB x.f0.f0 x.f0.f1 = true
    rotate_left
    · exact Ev.neg h1 (hno _ _ rfl (by simp [okL, goodB, h1]))
    refine Ev.pos h1 (Ev.bind0 (within_f _ _ _) ?_)
    by_cases h2 : 0 ≤ x.f1 ∧ x.f1 ≤ 3
    rotate_left
    · simp only [h2, decide_false]
      exact Ev.neg (by simp) (hno _ _ rfl (by simp [okL, goodB]; omega))
    simp only [h2, decide_true, and_self]
    refine Ev.pos (by simp) (Ev.bind0 (within_f _ _ _) ?_)
    by_cases h3 : 0 ≤ x.f2 ∧ x.f2 ≤ 1000000
    rotate_left
    · simp only [h3, decide_false]
      exact Ev.neg (by simp) (hno _ _ rfl (by simp [okL, goodB]; omega))
    simp only [h3, decide_true, and_self]
    refine Ev.pos (by simp) ?_
    have hg : goodB x = true := by simp [goodB, h1]; omega
    have hgo : ∀ b, b = false → last < kc x.f0 → Ev (fun k => shardmap_fine.j1 k l l (l.length : Int) (i : Int) b) (okL last (x :: xs)) := fun b hb hlt => by
      subst hb
      have e : okL last (x :: xs) = okL (kc x.f0) xs := by simp [okL, hg, hlt]
      rw [e]
      refine Ev.step (fun k => by simp only [shardmap_fine.j1]; rfl) (Ev.neg (by simp) ?_)
      rw [next i l.length hil hl]
      refine ih (i + 1) (kc x.f0) hd (by omega) (by omega) (fun _ => ⟨x, ?_, rfl, hg⟩)
      rw [Nat.add_sub_cancel, rd_get hil, hx]
    have hk := kc_bd h1
    by_cases h0 : i = 0
    · exact Ev.neg (by omega) (hgo _ rfl (by rw [hz h0]; omega))
    · obtain ⟨q, hq, hql, hqg⟩ := hp (by omega)
      have e : wrap64 ((i : Int) - 1) = ((i - 1 : Nat) : Int) := by rw [w64 (by omega) (by omega)]; omega
      have er : rd_T30 l (wrap64 ((i : Int) - 1)) = q := by
        rw [e]
        unfold rd_T30
        rw [Int.toNat_natCast, List.getD_eq_getElem?_getD, hq]; rfl
      refine Ev.pos (by omega) ?_
      rw [er]
      rw [e]
      refine Ev.pos (by omega) (Ev.pos (by omega) (Ev.bind (byKey_ev _ _ _ _) ?_))
      rw [by_good (good_of hqg).1 h1]
      have eq1 : kc ⟨q.f0.f0, q.f0.f1⟩ = last := hql
      have eq2 : kc ⟨x.f0.f0, x.f0.f1⟩ = kc x.f0 := rfl
      rw [eq1, eq2]
      by_cases h4 : last < kc x.f0
      · exact hgo _ (by simp [sgn, h4]) h4
      · exact hno _ _ (by unfold sgn; rw [if_neg h4]; split <;> simp) (by simp [okL, h4])
def fineB (l : List S30) : Bool := okL 0 l
theorem fine_ev (l : List S30) (hl : l.length ≤ 9223372036854775807) : Ev (fun k => shardmap_fine.f k l) (fineB l) :=
  fine_loop l hl l 0 0 rfl (Nat.zero_le _) (fun _ => rfl) (fun h => absurd h (by omega))

/-! #### sorted lists -/
def posL : List S30 → Int → Nat
  | [], _ => 0
  | x :: xs, a => if kc x.f0 < a then posL xs a + 1 else 0
def hasL : List S30 → Int → Bool
  | [], _ => false
  | x :: xs, a => if kc x.f0 < a then hasL xs a else kc x.f0 == a
def learnL : List S30 → S30 → List S30
  | [], p => [p]
  | x :: xs, p => if kc x.f0 < kc p.f0 then x :: learnL xs p else if kc x.f0 = kc p.f0 then (if x.f2 < p.f2 then p :: xs else x :: xs) else p :: x :: xs
def atL : List S30 → Int → Option S30
  | [], _ => none
  | x :: xs, a => if kc x.f0 = a then some x else atL xs a
theorem ok_tail {last : Int} {x : S30} {xs : List S30} (h : okL last (x :: xs) = true) : okL (kc x.f0) xs = true ∧ last < kc x.f0 ∧ goodB x = true := by
  simp only [okL, Bool.and_eq_true, decide_eq_true_eq] at h
  exact ⟨h.2, h.1.2, h.1.1⟩
theorem ok_gt : ∀ (l : List S30) (last : Int), okL last l = true → ∀ x ∈ l, last < kc x.f0 ∧ goodB x = true
  | [], _, _, x, hx => by cases hx
  | y :: ys, last, h, x, hx => by
    obtain ⟨h1, h2⟩ := ok_tail h
    rcases List.mem_cons.1 hx with rfl | hx
    · exact h2
    · have := ok_gt ys _ h1 x hx
      exact ⟨by omega, this.2⟩
theorem ok_len : ∀ (l : List S30) (last : Int), okL last l = true → last ≤ 35 → (l.length : Int) ≤ 35 - last
  | [], last, _, h3 => by simp; omega
  | x :: xs, last, h, h3 => by
    obtain ⟨h1, h2, h4⟩ := ok_tail h
    have hk := kc_bd (good_of h4).1
    have := ok_len xs _ h1 (by omega)
    simp only [List.length_cons]
    omega
theorem pos_le : ∀ (l : List S30) (a : Int), posL l a ≤ l.length
  | [], _ => Nat.le_refl _
  | x :: xs, a => by
    unfold posL
    split
    · have := pos_le xs a; simp; omega
    · exact Nat.zero_le _
theorem pos_lt : ∀ (l : List S30) (last a : Int), okL last l = true → ∀ i x, l[i]? = some x → (kc x.f0 < a ↔ i < posL l a)
  | [], _, _, _, i, x, hx => by simp at hx
  | y :: ys, last, a, h, i, x, hx => by
    obtain ⟨h1, h2⟩ := ok_tail h
    unfold posL
    cases i with
    | zero =>
      simp only [List.getElem?_cons_zero, Option.some.injEq] at hx
      subst hx
      split <;> simp_all
    | succ i =>
      simp only [List.getElem?_cons_succ] at hx
      split
      · rw [pos_lt ys _ a h1 i x hx]; omega
      · have := ok_gt ys _ h1 x (List.mem_of_getElem? hx)
        constructor <;> intro <;> omega
theorem has_pos : ∀ (l : List S30) (a : Int), hasL l a = true ↔ ∃ x, l[posL l a]? = some x ∧ kc x.f0 = a
  | [], a => by simp [hasL, posL]
  | y :: ys, a => by
    unfold hasL posL
    split
    · simpa using has_pos ys a
    · simp
theorem at_gt : ∀ (l : List S30) (last a : Int), okL last l = true → a ≤ last → atL l a = none
  | [], _, _, _, _ => rfl
  | x :: xs, last, a, h, h1 => by
    obtain ⟨ht, hx⟩ := ok_tail h
    unfold atL
    rw [if_neg (by omega), at_gt xs _ a ht (by omega)]
theorem at_pos : ∀ (l : List S30) (last a : Int), okL last l = true → atL l a = if hasL l a = true then l[posL l a]? else none
  | [], _, _, _ => by simp [atL, hasL]
  | y :: ys, last, a, h => by
    obtain ⟨h1, h2⟩ := ok_tail h
    unfold atL hasL posL
    by_cases h3 : kc y.f0 < a
    · have h4 : ¬ kc y.f0 = a := by omega
      simp only [h3, h4, if_true, if_false]
      rw [at_pos ys _ a h1]; simp
    · by_cases h4 : kc y.f0 = a
      · simp [h4]
      · simp only [h3, h4, if_false]
        rw [at_gt ys _ a h1 (by omega)]; simp [h4]
theorem learn_has : ∀ (l : List S30) (p x : S30), hasL l (kc p.f0) = true → l[posL l (kc p.f0)]? = some x → learnL l p = if x.f2 < p.f2 then l.set (posL l (kc p.f0)) p else l
  | [], p, x, h, _ => by simp [hasL] at h
  | y :: ys, p, x, h, hx => by
    unfold learnL
    unfold posL at hx ⊢
    unfold hasL at h
    by_cases h3 : kc y.f0 < kc p.f0
    · simp only [h3, if_true] at h hx ⊢
      rw [learn_has ys p x h (by simpa using hx)]
      split <;> simp
    · simp only [h3, if_false] at h hx ⊢
      have : kc y.f0 = kc p.f0 := by simpa using h
      simp only [List.getElem?_cons_zero, Option.some.injEq] at hx
      subst hx
      simp [this]
theorem learn_not : ∀ (l : List S30) (p : S30), hasL l (kc p.f0) = false → learnL l p = l.take (posL l (kc p.f0)) ++ [p] ++ l.drop (posL l (kc p.f0))
  | [], p, h => by simp [learnL, posL]
  | y :: ys, p, h => by
    unfold learnL posL
    unfold hasL at h
    by_cases h3 : kc y.f0 < kc p.f0
    · simp only [h3, if_true] at h ⊢
      rw [learn_not ys p h]; simp
    · simp only [h3, if_false] at h ⊢
      have : ¬ kc y.f0 = kc p.f0 := by simpa using h
      simp [this]

/-! #### the search -/
theorem search_loop (l : List S30) (a : S24) (ho : fineB l = true) (ha : keyB a.f0 a.f1 = true) : ∀ (d i j : Nat), j - i = d → i ≤ posL l (kc a) → posL l (kc a) ≤ j → j ≤ l.length →
    Ev (fun k => api_Key.l0 k l (l.length : Int) (i : Int) (j : Int) a.f0 a.f1) ((posL l (kc a) : Int), hasL l (kc a)) := by
  have hlen : (l.length : Int) ≤ 35 := by have := ok_len l 0 ho (by omega); omega
  have hcmp : ∀ h : Nat, h < l.length → Ev (fun k => shardmap_find_1.f k (rd_T30 l (h : Int)).f0.f0 (rd_T30 l (h : Int)).f0.f1 (rd_T30 l (h : Int)).f1 (rd_T30 l (h : Int)).f2 a.f0 a.f1) (sgn (kc (rd_T30 l (h : Int)).f0) (kc a)) ∧ (kc (rd_T30 l (h : Int)).f0 < kc a ↔ h < posL l (kc a)) := fun h hh => by
    have hg := rd_get hh
    have hb := ok_gt l 0 ho _ (List.mem_of_getElem? hg)
    refine ⟨?_, pos_lt l 0 (kc a) ho h _ hg⟩
    unfold shardmap_find_1.f
    have := byKey_ev (rd_T30 l (h : Int)).f0.f0 (rd_T30 l (h : Int)).f0.f1 a.f0 a.f1
    rw [by_good (good_of hb.2).1 ha] at this
    exact Ev.bind this (Ev.now _)
  intro d
  induction d using Nat.strongRecOn with
  | _ d ih =>
    intro i j hd hi hj hjl
    refine Ev.step (fun k => by simp only [api_Key.l0]; rfl) ?_
    by_cases hij : i < j
    · refine Ev.pos (by omega) ?_
      rw [mid_eq i j (by omega)]
      have hm : (i + j) / 2 < l.length := by omega
      refine Ev.pos (by omega) (Ev.pos (by omega) ?_)
      obtain ⟨h1, h2⟩ := hcmp ((i + j) / 2) hm
      refine Ev.bind h1 ?_
      by_cases hlt : (i + j) / 2 < posL l (kc a)
      · refine Ev.pos (by unfold sgn; rw [if_pos (h2.2 hlt)]; omega) ?_
        rw [next _ l.length hm (by omega)]
        exact ih (j - ((i + j) / 2 + 1)) (by omega) _ _ rfl (by omega) hj hjl
      · refine Ev.neg (by unfold sgn; rw [if_neg (fun h => hlt (h2.1 h))]; split <;> omega) ?_
        exact ih ((i + j) / 2 - i) (by omega) _ _ rfl hi (by omega) (by omega)
    · have hp : i = posL l (kc a) := by omega
      have hj2 : ∀ b, b = hasL l (kc a) → Ev (fun _ => some ((i : Int), b)) ((posL l (kc a) : Int), hasL l (kc a)) := fun b hb => by
        subst hb
        rw [← hp]
        exact Ev.now _
      refine Ev.neg (by omega) ?_
      by_cases hn : i < l.length
      · refine Ev.pos (by omega) (Ev.pos (by omega) (Ev.pos (by omega) ?_))
        obtain ⟨h1, h2⟩ := hcmp i hn
        refine Ev.bind h1 (hj2 _ ?_)
        have hg := rd_get hn
        rw [Bool.eq_iff_iff, has_pos, ← hp, hg]
        simp only [beq_iff_eq, Option.some.injEq, exists_eq_left']
        unfold sgn
        constructor
        · intro h
          split at h
          · omega
          · split at h <;> omega
        · intro h
          rw [if_neg (by omega), if_neg (by omega)]
      · refine Ev.neg (by omega) (hj2 _ ?_)
        symm
        rw [Bool.eq_false_iff]
        intro hh
        obtain ⟨x, hx, _⟩ := (has_pos l (kc a)).1 hh
        have := (List.getElem?_eq_some_iff.1 hx).1
        omega
theorem find_ev (l : List S30) (a : S24) (ho : fineB l = true) (ha : keyB a.f0 a.f1 = true) : Ev (fun k => shardmap_find.f k l a.f0 a.f1) ((posL l (kc a) : Int), hasL l (kc a)) := by
  have h := search_loop l a ho ha _ 0 l.length rfl (Nat.zero_le _) (pos_le l _) (Nat.le_refl _)
  unfold shardmap_find.f
  refine Ev.bind (a := ((posL l (kc a) : Int), hasL l (kc a))) ?_ (Ev.now _)
  exact h

/-! #### Owner, Learn -/
def ownerS (l : List S30) (a : S24) (g : Int) : Int × Int × Int × Int × Int :=
  if fineB l = true then (if (homeS a g).2 = 0 then (match atL l (kc a) with | some x => (x.f0.f0, x.f0.f1, x.f1, x.f2, 0) | none => (a.f0, a.f1, (homeS a g).1, 0, 0)) else (0, 0, 0, 0, (homeS a g).2)) else (0, 0, 0, 0, 200)
theorem home_ok {a : S24} {g : Int} (h : (homeS a g).2 = 0) : keyB a.f0 a.f1 = true := by
  unfold homeS at h
  by_cases hk : keyB a.f0 a.f1 = true ∧ 1 ≤ g ∧ g ≤ 4
  · exact hk.1
  · rw [if_neg hk] at h; simp at h
theorem owner_ev (l : List S30) (a : S24) (g : Int) (hl : l.length ≤ 9223372036854775807) : Ev (fun k => shardmap_Owner.f k l a.f0 a.f1 g) (ownerS l a g) := by
  unfold shardmap_Owner.f ownerS
  refine Ev.bind (fine_ev l hl) ?_
  by_cases h : fineB l = true
  rotate_left
  · rw [if_neg h]; exact Ev.neg h (Ev.now _)
  rw [if_pos h]
  refine Ev.pos h (Ev.bind (home_ev a.f0 a.f1 g) ?_)
  have e : homeS ⟨a.f0, a.f1⟩ g = homeS a g := rfl
  rw [e]
  by_cases h2 : (homeS a g).2 = 0
  rotate_left
  · rw [if_neg h2]; exact Ev.neg h2 (Ev.now _)
  rw [if_pos h2]
  refine Ev.pos h2 (Ev.bind (find_ev l a h (home_ok h2)) ?_)
  rw [at_pos l 0 (kc a) h]
  by_cases h3 : hasL l (kc a) = true
  · obtain ⟨x, hx, _⟩ := (has_pos l (kc a)).1 h3
    have hlt := (List.getElem?_eq_some_iff.1 hx).1
    have hr : rd_T30 l (posL l (kc a) : Int) = x := by
      have := rd_get hlt
      rw [hx] at this
      exact (Option.some.inj this).symm
    have e : (if hasL l (kc a) = true then l[posL l (kc a)]? else none) = some x := by rw [if_pos h3, hx]
    refine Ev.pos h3 (Ev.pos (by omega) (Ev.pos (by omega) ?_))
    rw [hr, e]
    exact Ev.now _
  · refine Ev.neg h3 ?_
    have e : (if hasL l (kc a) = true then l[posL l (kc a)]? else none) = none := if_neg h3
    rw [e]
    exact Ev.now _
def learnS (l : List S30) (p : S30) : List S30 × Int := if fineB l = true ∧ goodB p = true then (learnL l p, 0) else ([], 200)
theorem fine_one (p : S30) : fineB [p] = goodB p := by
  unfold fineB okL okL
  cases h : goodB p with
  | false => simp
  | true =>
    have := kc_bd (good_of h).1
    simp; omega
theorem learn_ev (l : List S30) (p : S30) (hl : l.length ≤ 9223372036854775807) : Ev (fun k => shardmap_Learn.f k l p.f0.f0 p.f0.f1 p.f1 p.f2) (learnS l p) := by
  unfold shardmap_Learn.f learnS
  have hno : ∀ b, b = true → Ev (fun k => shardmap_Learn.j0 k l b p.f0.f0 p.f0.f1 p.f1 p.f2) ([], 200) := fun b hb => by
    subst hb
    refine Ev.step (fun k => by simp only [shardmap_Learn.j0]; rfl) ?_
    exact Ev.pos (by simp) (Ev.now _)
  refine Ev.bind (fine_ev l hl) ?_
  by_cases h : fineB l = true
  rotate_left
  · rw [if_neg (by simp [h])]; exact Ev.neg h (hno _ rfl)
  refine Ev.pos h (Ev.bind (fine_ev _ (by simp)) ?_)
  have ep : (⟨(⟨p.f0.f0, p.f0.f1⟩ : S24), p.f1, p.f2⟩ : S30) = p := rfl
  rw [ep, fine_one]
  by_cases h2 : goodB p = true
  rotate_left
  · rw [if_neg (by simp [h2])]; exact hno _ (by simp [h2])
  rw [if_pos ⟨h, h2⟩, h2]
  have hlen : (l.length : Int) ≤ 35 := by have := ok_len l 0 h (by omega); omega
  refine Ev.step (fun k => by simp only [shardmap_Learn.j0]; rfl) (Ev.neg (by simp) ?_)
  have hc : api_Place_23.f l = some l := by
    unfold api_Place_23.f
    simp; omega
  refine Ev.bind0 hc (Ev.bind (find_ev l p.f0 h (good_of h2).1) ?_)
  have hpl := pos_le l (kc p.f0)
  by_cases h3 : hasL l (kc p.f0) = true
  · obtain ⟨x, hx, _⟩ := (has_pos l (kc p.f0)).1 h3
    have hlt := (List.getElem?_eq_some_iff.1 hx).1
    have hr : rd_T30 l (posL l (kc p.f0) : Int) = x := by
      have := rd_get hlt
      rw [hx] at this
      exact (Option.some.inj this).symm
    refine Ev.pos h3 (Ev.pos (by omega) (Ev.pos (by omega) ?_))
    rw [hr, learn_has l p x h3 hx, ep]
    have hj : ∀ m : List S30, Ev (fun _ => some (m, (0 : Int))) (m, 0) := fun m => Ev.now _
    by_cases h4 : x.f2 < p.f2
    · refine Ev.pos h4 ?_
      rw [if_pos h4, Int.toNat_natCast]
      exact Ev.now _
    · refine Ev.neg h4 ?_
      rw [if_neg h4]
      exact Ev.now _
  · refine Ev.neg h3 ?_
    have hi : api_Place_24.f l (posL l (kc p.f0) : Int) [⟨(⟨p.f0.f0, p.f0.f1⟩ : S24), p.f1, p.f2⟩] = some (l.take (posL l (kc p.f0)) ++ [p] ++ l.drop (posL l (kc p.f0))) := by
      unfold api_Place_24.f
      rw [if_pos (by simp), if_pos (by omega), if_pos (by omega), if_pos (by omega), Int.toNat_natCast]
    refine Ev.bind0 hi ?_
    rw [learn_not l p (by simpa using h3)]
    exact Ev.now _
theorem same_loop (l m : List S30) (hlm : l.length = m.length) (hl : l.length ≤ 9223372036854775807) : ∀ (r s : List S30) (i : Nat), l.drop i = r → m.drop i = s → i ≤ l.length → Ev (fun k => rialtoref20_Same.l0 k l m (i : Int)) (decide (r = s)) := by
  intro r
  induction r with
  | nil =>
    intro s i h hs hi
    obtain rfl := drop_nil h hi
    have : s = [] := by rw [← hs, List.drop_eq_nil_of_le (by omega)]
    subst this
    exact Ev.step (fun k => by simp only [rialtoref20_Same.l0]; rfl) (Ev.neg (by omega) (by simpa using Ev.now true))
  | cons x xs ih =>
    intro s i h hs hi
    obtain ⟨hx, hil, hd⟩ := rd_at h
    obtain ⟨y, ys, rfl⟩ : ∃ y ys, s = y :: ys := by
      rw [List.drop_eq_getElem_cons (by omega)] at hs
      exact ⟨_, _, hs.symm⟩
    obtain ⟨hy, _, hd'⟩ := rd_at hs
    refine Ev.step (fun k => by simp only [rialtoref20_Same.l0]; rfl) ?_
    rw [hx, hy, next i l.length hil hl]
    refine Ev.pos (by omega) (Ev.pos (by omega) (Ev.pos (by omega) ?_))
    by_cases hxy : x = y
    · subst hxy
      refine Ev.neg (by simp) ?_
      have := ih ys (i + 1) hd hd' (by omega)
      simpa using this
    · refine Ev.pos ?_ ?_
      · obtain ⟨⟨a, b⟩, c, d⟩ := x
        obtain ⟨⟨a', b'⟩, c', d'⟩ := y
        simp only [S30.mk.injEq, S24.mk.injEq] at hxy
        simp only [Bool.or_eq_true, Bool.not_eq_true', beq_eq_false_iff_ne, ne_eq]
        omega
      · have : decide (x :: xs = y :: ys) = false := by simp [hxy]
        rw [this]; exact Ev.now _
theorem same_ev (l m : List S30) (hl : l.length ≤ 9223372036854775807) : Ev (fun k => rialtoref20_Same.f k l m) (decide (l = m)) := by
  unfold rialtoref20_Same.f
  by_cases h : l.length = m.length
  · exact Ev.pos (by omega) (same_loop l m h hl l m 0 rfl rfl (Nat.zero_le _))
  · refine Ev.neg (by omega) ?_
    have : decide (l = m) = false := by simp; rintro rfl; exact h rfl
    rw [this]; exact Ev.now _
set_option maxRecDepth 100000 in
theorem live_ev : Ev (fun k => rialtolaw20_live.f k) true := Ev.of (k := 16) rialtolaw20_live.mono (by kernel_rfl)

/-! #### what learning keeps -/
theorem learn_ok : ∀ (l : List S30) (last : Int) (p : S30), okL last l = true → goodB p = true → last < kc p.f0 → okL last (learnL l p) = true
  | [], last, p, _, hp, h1 => by simp [learnL, okL, hp, h1]
  | x :: xs, last, p, h, hp, h1 => by
    obtain ⟨ht, hx, hg⟩ := ok_tail h
    unfold learnL
    split
    · rename_i h2
      simp only [okL, Bool.and_eq_true, decide_eq_true_eq]
      exact ⟨⟨hg, hx⟩, learn_ok xs _ p ht hp h2⟩
    · split
      · rename_i h2
        split
        · simp only [okL, Bool.and_eq_true, decide_eq_true_eq]
          exact ⟨⟨hp, h1⟩, h2 ▸ ht⟩
        · exact h
      · rename_i h2 h3
        simp only [okL, Bool.and_eq_true, decide_eq_true_eq]
        exact ⟨⟨hp, h1⟩, ⟨⟨hg, by omega⟩, ht⟩⟩
theorem learn_fine {l : List S30} {p : S30} (h : fineB l = true) (hp : goodB p = true) : fineB (learnL l p) = true := by
  have := kc_bd (good_of hp).1
  exact learn_ok l 0 p h hp (by omega)
theorem learn_len : ∀ (l : List S30) (p : S30), (learnL l p).length ≤ l.length + 1
  | [], p => by simp [learnL]
  | x :: xs, p => by
    unfold learnL
    have := learn_len xs p
    split
    · simp; omega
    · split
      · split <;> simp
      · simp
theorem learn_again : ∀ (l : List S30) (p : S30), learnL (learnL l p) p = learnL l p
  | [], p => by simp [learnL]
  | x :: xs, p => by
    by_cases h1 : kc x.f0 < kc p.f0
    · simp [learnL, h1, learn_again xs p]
    · by_cases h2 : kc x.f0 = kc p.f0
      · by_cases h3 : x.f2 < p.f2
        · simp [learnL, h2, h3]
        · simp [learnL, h2, h3]
      · simp [learnL, h1, h2]
theorem learn_order : ∀ (l : List S30) (p q : S30), ¬ (kc p.f0 = kc q.f0 ∧ p.f2 = q.f2) → learnL (learnL l p) q = learnL (learnL l q) p
  | [], p, q, h => by
    by_cases h1 : kc p.f0 < kc q.f0
    · have h2 : ¬ kc q.f0 < kc p.f0 := by omega
      have h3 : ¬ kc q.f0 = kc p.f0 := by omega
      simp [learnL, h1, h2, h3]
    · by_cases h2 : kc p.f0 = kc q.f0
      · by_cases h3 : p.f2 < q.f2
        · have h4 : ¬ q.f2 < p.f2 := by omega
          simp [learnL, h2, h3, h4]
        · have h4 : q.f2 < p.f2 := by omega
          simp [learnL, h2, h3, h4]
      · have h3 : kc q.f0 < kc p.f0 := by omega
        simp [learnL, h1, h2, h3]
  | x :: xs, p, q, h => by
    have ih := learn_order xs p q h
    by_cases hp1 : kc x.f0 < kc p.f0 <;> by_cases hq1 : kc x.f0 < kc q.f0
    · simp [learnL, hp1, hq1, ih]
    · by_cases hq2 : kc x.f0 = kc q.f0
      · by_cases hq3 : x.f2 < q.f2
        · have : kc q.f0 < kc p.f0 := by omega
          simp [learnL, hp1, hq2, hq3, this]
        · have : kc q.f0 < kc p.f0 := by omega
          simp [learnL, hp1, hq1, hq2, hq3, this]
      · have h4 : kc q.f0 < kc p.f0 := by omega
        simp [learnL, hp1, hq1, hq2, h4]
    · by_cases hp2 : kc x.f0 = kc p.f0
      · by_cases hp3 : x.f2 < p.f2
        · have : kc p.f0 < kc q.f0 := by omega
          simp [learnL, hq1, hp2, hp3, this]
        · have : kc p.f0 < kc q.f0 := by omega
          simp [learnL, hq1, hp1, hp2, hp3, this]
      · have h4 : kc p.f0 < kc q.f0 := by omega
        simp [learnL, hp1, hq1, hp2, h4]
    · by_cases hp2 : kc x.f0 = kc p.f0 <;> by_cases hq2 : kc x.f0 = kc q.f0
      · have h5 : kc p.f0 = kc q.f0 := by omega
        have h6 : ¬ p.f2 = q.f2 := fun e => h ⟨h5, e⟩
        by_cases hp3 : x.f2 < p.f2 <;> by_cases hq3 : x.f2 < q.f2
        · by_cases h7 : p.f2 < q.f2
          · have h8 : ¬ q.f2 < p.f2 := by omega
            simp [learnL, hp2, hp3, hq3, h5, h7, h8]
          · have h8 : q.f2 < p.f2 := by omega
            simp [learnL, hp2, hp3, hq3, h5, h7, h8]
        · have h8 : ¬ p.f2 < q.f2 := by omega
          simp [learnL, hp2, hp3, hq3, h5, h8]
        · have h8 : ¬ q.f2 < p.f2 := by omega
          simp [learnL, hp2, hp3, hq3, h5, h8]
        · simp [learnL, hp2, hp3, hq3, h5]
      · have h4 : ¬ kc p.f0 < kc q.f0 := by omega
        have h5 : ¬ kc p.f0 = kc q.f0 := by omega
        have h6 : kc q.f0 < kc p.f0 := by omega
        by_cases hp3 : x.f2 < p.f2
        · simp [learnL, hp1, hq1, hp2, hq2, hp3, h4, h5, h6]
        · simp [learnL, hp1, hq1, hp2, hq2, hp3, h4, h5, h6]
      · have h4 : ¬ kc q.f0 < kc p.f0 := by omega
        have h5 : ¬ kc q.f0 = kc p.f0 := by omega
        have h6 : kc p.f0 < kc q.f0 := by omega
        by_cases hq3 : x.f2 < q.f2
        · simp [learnL, hp1, hq1, hp2, hq2, hq3, h4, h5, h6]
        · simp [learnL, hp1, hq1, hp2, hq2, hq3, h4, h5, h6]
      · by_cases h7 : kc p.f0 < kc q.f0
        · have h4 : ¬ kc q.f0 < kc p.f0 := by omega
          have h5 : ¬ kc q.f0 = kc p.f0 := by omega
          simp [learnL, hp1, hq1, hp2, hq2, h4, h5, h7]
        · by_cases h8 : kc p.f0 = kc q.f0
          · by_cases h9 : p.f2 < q.f2
            · have h10 : ¬ q.f2 < p.f2 := by omega
              simp [learnL, hp1, hq1, hp2, hq2, h8, h9, h10]
            · have h10 : q.f2 < p.f2 := by
                have : ¬ p.f2 = q.f2 := fun e => h ⟨h8, e⟩
                omega
              simp [learnL, hp1, hq1, hp2, hq2, h8, h9, h10]
          · have h9 : kc q.f0 < kc p.f0 := by omega
            simp [learnL, hp1, hq1, hp2, hq2, h7, h8, h9]
/-- what is known of a key behind a place that is learned -/
theorem at_learn : ∀ (l : List S30) (last : Int) (p : S30) (a : Int), okL last l = true → atL (learnL l p) a = if a = kc p.f0 then (match atL l a with | some x => if x.f2 < p.f2 then some p else some x | none => some p) else atL l a
  | [], last, p, a, _ => by
    by_cases h : a = kc p.f0
    · simp [learnL, atL, h]
    · simp [learnL, atL, h]; omega
  | x :: xs, last, p, a, h => by
    obtain ⟨ht, hx, hg⟩ := ok_tail h
    have ih := at_learn xs _ p a ht
    by_cases h1 : kc x.f0 < kc p.f0
    · by_cases h2 : kc x.f0 = a
      · have h3 : ¬ a = kc p.f0 := by omega
        have h4 : a < kc p.f0 := by omega
        simp [learnL, h1, atL, h2, h3, h4]
      · simp [learnL, h1, atL, h2, ih]
    · by_cases h2 : kc x.f0 = kc p.f0
      · by_cases h3 : a = kc p.f0
        · by_cases h4 : x.f2 < p.f2
          · simp [learnL, h2, h4, atL, h3]
          · simp [learnL, h2, h4, atL, h3]
        · have h5 : ¬ kc p.f0 = a := fun e => h3 e.symm
          by_cases h4 : x.f2 < p.f2
          · simp [learnL, h2, h4, atL, h3, h5]
          · simp [learnL, h2, h4, atL, h3, h5]
      · by_cases h3 : a = kc p.f0
        · have h4 : atL (x :: xs) a = none := by
            unfold atL
            rw [if_neg (by omega), at_gt xs _ a ht (by omega)]
          rw [if_pos h3, h4]
          simp [learnL, h1, h2, atL, h3]
        · have h5 : ¬ kc p.f0 = a := fun e => h3 e.symm
          simp [learnL, h1, h2, atL, h3, h5]
theorem at_key : ∀ (l : List S30) (last a : Int) (x : S30), okL last l = true → atL l a = some x → kc x.f0 = a ∧ goodB x = true
  | [], _, _, _, _, h => by simp [atL] at h
  | y :: ys, last, a, x, ho, h => by
    obtain ⟨ht, hx, hg⟩ := ok_tail ho
    unfold atL at h
    split at h
    · cases h; exact ⟨by assumption, hg⟩
    · exact at_key ys _ a x ht h
end Go.Proofs.Ythflfekhanjlnaa.Plain
