/- Plain laws of maps of places: what the reference's functions come to, on lists. -/
import Derived.Test.YthflfekhanjlnaaPx6
import Derived.Test.YthflfekhanjlnaaPx17
import Derived.Test.YthflfekhanjlnaaPx18
import Derived.Test.YthflfekhanjlnaaPx26
import Derived.Test.YthflfekhanjlnaaPx3
import Derived.Test.YthflfekhanjlnaaL0
namespace Go.Proofs.Ythflfekhanjlnaa.Plain
open Go.RowKit Go.Proofs.Ythflfekhanjlnaa.P Go.Proofs.YthflfekhanjlnaaW.PrintWords Go.Proofs.YthflfekhanjlnaaG
set_option linter.unusedSimpArgs false
set_option linter.unusedVariables false
theorem refKey_f (a b : Int) : rialtoref16_Key.f a b = some (keyB a b) := by
  unfold rialtoref16_Key.f
  by_cases h : a = 1
  · subst h
    by_cases h2 : 1 ≤ b <;> simp [keyB, h2]
  · by_cases h3 : a = 2
    · subst h3
      by_cases h2 : 1 ≤ b <;> simp [keyB, h2]
    · simp [keyB, h, h3]
theorem less_f {a b c d : Int} (h : keyB a b = true) (h' : keyB c d = true) : rialtoref18_Less.f a b c d = some (decide (kc ⟨a, b⟩ < kc ⟨c, d⟩)) := by
  have h1 := key_of h
  have h2 := key_of h'
  unfold rialtoref18_Less.f kc
  simp only
  by_cases h3 : a < c
  · rw [if_pos h3, decide_eq_true (by omega)]
  · rw [if_neg h3]
    by_cases h4 : a = c
    · rw [if_pos h4]
      by_cases h5 : b < d
      · rw [decide_eq_true h5, decide_eq_true (by omega)]
      · rw [decide_eq_false h5, decide_eq_false (by omega)]
    · rw [if_neg h4, decide_eq_false (by omega)]
theorem refCheck_loop (l : List S30) (hl : l.length ≤ 9223372036854775807) : ∀ (r : List S30) (i : Nat) (last : Int), l.drop i = r → i ≤ l.length → (i = 0 → last = 0) → (0 < i → ∃ x, l[i - 1]? = some x ∧ kc x.f0 = last ∧ goodB x = true) →
    Ev (fun k => rialtoref20_Check.l0 k l (i : Int)) (okL last r) := by
  intro r
  induction r with
  | nil =>
    intro i last h hi _ _
    obtain rfl := drop_nil h hi
    exact Ev.step (fun k => by simp only [rialtoref20_Check.l0]; rfl) (Ev.neg (by omega) (Ev.now _))
  | cons x xs ih =>
    intro i last h hi hz hp
    obtain ⟨hx, hil, hd⟩ := rd_at h
    have hno : ∀ b v, b = true → v = false → Ev (fun k => rialtoref20_Check.j1 k l (i : Int) b) v := fun b v hb hv => by
      subst hb; subst hv
      refine Ev.step (fun k => by simp only [rialtoref20_Check.j1]; rfl) ?_
      exact Ev.pos (by simp) (Ev.now _)
    refine Ev.step (fun k => by simp only [rialtoref20_Check.l0]; rfl) ?_
    refine Ev.pos (by omega) (Ev.pos (by omega) ?_)
    rw [hx]
    refine Ev.bind0 (refKey_f _ _) ?_
    by_cases h1 : keyB x.f0.f0 x.f0.f1 = true
    rotate_left
    · exact Ev.neg h1 (hno _ _ rfl (by simp [okL, goodB, h1]))
    refine Ev.pos h1 ?_
    by_cases h2 : x.f1 < 0
    · exact Ev.pos h2 (hno _ _ rfl (by simp [okL, goodB]; omega))
    refine Ev.neg h2 ?_
    by_cases h3 : x.f1 > 3
    · exact Ev.pos h3 (hno _ _ rfl (by simp [okL, goodB]; omega))
    refine Ev.neg h3 ?_
    by_cases h4 : x.f2 < 0
    · exact Ev.pos h4 (hno _ _ rfl (by simp [okL, goodB]; omega))
    refine Ev.neg h4 ?_
    by_cases h5 : x.f2 > 1000000
    · exact Ev.pos h5 (hno _ _ rfl (by simp [okL, goodB]; omega))
    refine Ev.neg h5 ?_
    have hg : goodB x = true := by simp [goodB, h1]; omega
    have hgo : ∀ b, b = false → last < kc x.f0 → Ev (fun k => rialtoref20_Check.j1 k l (i : Int) b) (okL last (x :: xs)) := fun b hb hlt => by
      subst hb
      have e : okL last (x :: xs) = okL (kc x.f0) xs := by simp [okL, hg, hlt]
      rw [e]
      refine Ev.step (fun k => by simp only [rialtoref20_Check.j1]; rfl) (Ev.neg (by simp) ?_)
      rw [next i l.length hil hl]
      refine ih (i + 1) (kc x.f0) hd (by omega) (by omega) (fun _ => ⟨x, ?_, rfl, hg⟩)
      rw [Nat.add_sub_cancel, rd_get hil, hx]
    have hk := kc_bd h1
    by_cases h0 : i = 0
    · exact Ev.neg (by omega) (hgo _ rfl (by rw [hz h0]; omega))
    · obtain ⟨q, hq, hql, hqg⟩ := hp (by omega)
      have e : wrap64 ((i : Int) - 1) = ((i - 1 : Nat) : Int) := by rw [w64 (by omega) (by omega)]; omega
      have er : rd_T30 l (wrap64 ((i : Int) - 1)) = q := by
        rw [e]
        unfold rd_T30
        rw [Int.toNat_natCast, List.getD_eq_getElem?_getD, hq]; rfl
      refine Ev.pos (by omega) ?_
      rw [er]
      rw [e]
      refine Ev.pos (by omega) (Ev.pos (by omega) (Ev.bind0 (less_f (good_of hqg).1 h1) ?_))
      have eq1 : kc ⟨q.f0.f0, q.f0.f1⟩ = last := hql
      have eq2 : kc ⟨x.f0.f0, x.f0.f1⟩ = kc x.f0 := rfl
      rw [eq1, eq2]
      by_cases h4 : last < kc x.f0
      · exact hgo _ (by simp [h4]) h4
      · exact hno _ _ (by simp [h4]) (by simp [okL, h4])
theorem refCheck_ev (l : List S30) (hl : l.length ≤ 9223372036854775807) : Ev (fun k => rialtoref20_Check.f k l) (fineB l) :=
  refCheck_loop l hl l 0 0 rfl (Nat.zero_le _) (fun _ => rfl) (fun h => absurd h (by omega))
theorem kc_eq_iff {a b : S24} (h : keyB a.f0 a.f1 = true) (h' : keyB b.f0 b.f1 = true) : (a.f0 == b.f0 && a.f1 == b.f1) = true ↔ kc a = kc b := by
  simp only [Bool.and_eq_true, beq_iff_eq]
  constructor
  · rintro ⟨e1, e2⟩
    unfold kc
    rw [e1, e2]
  · intro e
    have := kc_inj h h' e
    subst this
    exact ⟨rfl, rfl⟩
theorem copy_f (l : List S30) (hl : l.length < 4398046511104) : rialtoref20_Copy.f l = some l := by
  unfold rialtoref20_Copy.f
  simp; omega
theorem refLearn_loop (l : List S30) (p : S30) (hp : goodB p = true) (hl : (l.length : Int) ≤ 35) : ∀ (r : List S30) (i : Nat) (m : List S30) (b : Bool) (last : Int), l.drop i = r → i ≤ l.length → okL last r = true → (b = true → kc p.f0 ≤ last) → m.length ≤ 2 * i →
    Ev (fun k => rialtoref20_Learn.l0 k l m b (i : Int) p.f0.f0 p.f0.f1 p.f1 p.f2) (m ++ (if b = true then r else learnL r p), 0) := by
  intro r
  have ep : (⟨(⟨p.f0.f0, p.f0.f1⟩ : S24), p.f1, p.f2⟩ : S30) = p := rfl
  induction r with
  | nil =>
    intro i m b last h hi ho hb hm
    obtain rfl := drop_nil h hi
    refine Ev.step (fun k => by simp only [rialtoref20_Learn.l0]; rfl) (Ev.neg (by omega) ?_)
    cases b with
    | true =>
      refine Ev.pos rfl ?_
      simpa using Ev.now (m, (0 : Int))
    | false =>
      refine Ev.neg (by simp) (Ev.pos (by omega) ?_)
      rw [ep]
      simpa [learnL] using Ev.now (m ++ [p], (0 : Int))
  | cons x xs ih =>
    intro i m b last h hi ho hb hm
    obtain ⟨hx, hil, hd⟩ := rd_at h
    obtain ⟨ht, hlt, hg⟩ := ok_tail ho
    have ex : (⟨(⟨x.f0.f0, x.f0.f1⟩ : S24), x.f1, x.f2⟩ : S30) = x := rfl
    have hn := next i l.length hil (by omega)
    have hj5 : ∀ m b w, m.length ≤ 2 * (i + 1) → (b = true → kc p.f0 ≤ kc x.f0) → m ++ (if b = true then xs else learnL xs p) = w → Ev (fun k => rialtoref20_Learn.l0 k l m b ((i + 1 : Nat) : Int) p.f0.f0 p.f0.f1 p.f1 p.f2) (w, 0) := fun m b w hm hb hw => by
      subst hw
      exact ih (i + 1) m b (kc x.f0) hd (by omega) ht hb hm
    have heq := kc_eq_iff (good_of hg).1 (good_of hp).1
    have hj3n : ∀ m b w, m.length ≤ 2 * i + 1 → ¬ kc x.f0 = kc p.f0 → (b = true → kc p.f0 ≤ kc x.f0) → m ++ [x] ++ (if b = true then xs else learnL xs p) = w → Ev (fun k => rialtoref20_Learn.j3 k l m b (i : Int) p.f0.f0 p.f0.f1 p.f1 p.f2) (w, 0) := fun m b w hm hne hb hw => by
      refine Ev.step (fun k => by simp only [rialtoref20_Learn.j3]; rfl) ?_
      refine Ev.pos (by omega) (Ev.pos (by omega) ?_)
      rw [hx, ex, hn]
      exact Ev.neg (fun h => hne (heq.1 h)) (Ev.pos (by omega) (hj5 _ b w (by simp; omega) hb hw))
    refine Ev.step (fun k => by simp only [rialtoref20_Learn.l0]; rfl) (Ev.pos (by omega) ?_)
    cases b with
    | true =>
      have hb1 := hb rfl
      refine Ev.pos rfl (Ev.step (fun k => by simp only [rialtoref20_Learn.j2]; rfl) (Ev.neg (by simp) ?_))
      exact hj3n m true _ (by omega) (by omega) (fun _ => by omega) (by simp)
    | false =>
      refine Ev.neg (by simp) (Ev.pos (by omega) ?_)
      rw [hx]
      refine Ev.bind0 (less_f (good_of hp).1 (good_of hg).1) ?_
      have e1 : kc ⟨p.f0.f0, p.f0.f1⟩ = kc p.f0 := rfl
      have e2 : kc ⟨x.f0.f0, x.f0.f1⟩ = kc x.f0 := rfl
      rw [e1, e2]
      refine Ev.step (fun k => by simp only [rialtoref20_Learn.j2]; rfl) ?_
      by_cases h1 : kc p.f0 < kc x.f0
      · refine Ev.pos (by simpa using h1) (Ev.pos (by omega) ?_)
        rw [ep]
        have h2 : ¬ kc x.f0 < kc p.f0 := by omega
        have h3 : ¬ kc x.f0 = kc p.f0 := by omega
        exact hj3n _ true _ (by simp; omega) h3 (fun _ => by omega) (by simp [learnL, h2, h3])
      · refine Ev.neg (by simpa using h1) ?_
        by_cases h3 : kc x.f0 = kc p.f0
        · refine Ev.step (fun k => by simp only [rialtoref20_Learn.j3]; rfl) ?_
          refine Ev.pos (by omega) (Ev.pos (by omega) ?_)
          rw [hx, ex, ep, hn]
          refine Ev.pos (heq.2 h3) ?_
          by_cases h4 : p.f2 > x.f2
          · refine Ev.pos h4 (Ev.pos (by omega) ?_)
            exact hj5 _ true _ (by simp; omega) (fun _ => by omega) (by simp [learnL, h3]; omega)
          · refine Ev.neg h4 (Ev.pos (by omega) (hj5 _ true _ (by simp; omega) (fun _ => by omega) ?_))
            simp [learnL, h3]; omega
        · have h5 : kc x.f0 < kc p.f0 := by omega
          exact hj3n m false _ (by omega) h3 (fun h => by cases h) (by simp [learnL, h5])
theorem refLearn_ev (l : List S30) (p : S30) (hl : l.length ≤ 9223372036854775807) : Ev (fun k => rialtoref20_Learn.f k l p.f0.f0 p.f0.f1 p.f1 p.f2) (learnS l p) := by
  unfold rialtoref20_Learn.f learnS
  have hno : ∀ b, b = true → Ev (fun k => rialtoref20_Learn.j0 k l b p.f0.f0 p.f0.f1 p.f1 p.f2) ([], 200) := fun b hb => by
    subst hb
    refine Ev.step (fun k => by simp only [rialtoref20_Learn.j0]; rfl) ?_
    exact Ev.pos (by simp) (Ev.now _)
  refine Ev.bind (refCheck_ev l hl) ?_
  by_cases h : fineB l = true
  rotate_left
  · rw [if_neg (by simp [h])]; exact Ev.neg h (hno _ rfl)
  refine Ev.pos h (Ev.bind (refCheck_ev _ (by simp)) ?_)
  have ep : (⟨(⟨p.f0.f0, p.f0.f1⟩ : S24), p.f1, p.f2⟩ : S30) = p := rfl
  rw [ep, fine_one]
  by_cases h2 : goodB p = true
  rotate_left
  · rw [if_neg (by simp [h2])]; exact hno _ (by simp [h2])
  rw [if_pos ⟨h, h2⟩, h2]
  have hlen : (l.length : Int) ≤ 35 := by have := ok_len l 0 h (by omega); omega
  refine Ev.step (fun k => by simp only [rialtoref20_Learn.j0]; rfl) (Ev.neg (by simp) ?_)
  have := refLearn_loop l p h2 hlen l 0 [] false 0 rfl (Nat.zero_le _) h (fun h => by cases h) (by simp)
  simpa using this
end Go.Proofs.Ythflfekhanjlnaa.Plain
