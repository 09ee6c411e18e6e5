/- Plain laws of accounts: what a credit and a debit come to; and that the given answers ('live') hold. -/
import Derived.Test.YthblegfihenflaaPx9
import Derived.Test.YthblegfihenflaaPx11
import Derived.Test.YthblegfihenflaaPx12
import Derived.Test.YthblegfihenflaaL0
namespace Go.Proofs.Ythblegfihenflaa.Plain
open Go.RowKit Go.Proofs.Ythblegfihenflaa.P Go.Proofs.YthblegfihenflaaW.PrintWords Go.Proofs.YthblegfihenflaaG
set_option linter.unusedSimpArgs false
set_option linter.unusedVariables false

def argsOk (a n : Int) : Bool := decide (0 ≤ a ∧ a ≤ 3 ∧ 1 ≤ n ∧ n ≤ MX)
def creditS (l : List S31) (c a n : Int) : List S31 × Int × Int :=
  if okA l c = true then (if argsOk a n = true then (if balL l a > MX - n then ([], 0, 122) else if c = 1000000000 then ([], 0, 122) else (setL l a (balL l a + n), c + 1, 0)) else ([], 0, 1)) else ([], 0, 120)
def debitS (l : List S31) (c a n : Int) : List S31 × Int × Int :=
  if okA l c = true then (if argsOk a n = true then (if balL l a < n then ([], 0, 121) else if c = 1000000000 then ([], 0, 122) else (setL l a (balL l a - n), c + 1, 0)) else ([], 0, 1)) else ([], 0, 120)

theorem asked_ev (l : List S31) (c a n : Int) (hl : l.length ≤ 9223372036854775807) : Ev (fun k => ledger_asked.f k l c a n) (if okA l c = true then (if argsOk a n = true then 0 else 1) else 120) := by
  unfold ledger_asked.f
  refine Ev.bind (check_ev l c hl) ?_
  by_cases h : okA l c = true
  · simp only [h, if_true]
    unfold argsOk
    by_cases h1 : a < 0
    · rw [decide_eq_false (by omega)]; exact Ev.pos h1 (Ev.now _)
    by_cases h2 : a > 3
    · rw [decide_eq_false (by omega)]; exact Ev.neg h1 (Ev.pos h2 (Ev.now _))
    by_cases h3 : n < 1
    · rw [decide_eq_false (by omega)]; exact Ev.neg h1 (Ev.neg h2 (Ev.pos h3 (Ev.now _)))
    by_cases h4 : n > 9007199254740992
    · rw [decide_eq_false (by unfold MX; omega)]; exact Ev.neg h1 (Ev.neg h2 (Ev.neg h3 (Ev.pos h4 (Ev.now _))))
    · rw [decide_eq_true (by unfold MX; omega)]; exact Ev.neg h1 (Ev.neg h2 (Ev.neg h3 (Ev.neg h4 (Ev.now _))))
  · simp only [h]
    exact Ev.neg (by simp) (Ev.now _)

theorem clone_f (l : List S31) (h : l.length < 8796093022208) : api_Amount_25.f l = some l := by
  unfold api_Amount_25.f
  simp [h]
theorem ins_f (l : List S31) (p : Nat) (x : S31) (hp : p ≤ l.length) (h : l.length + 1 < 8796093022208) : api_Amount_27.f l (p : Int) [x] = some (l.take p ++ [x] ++ l.drop p) := by
  unfold api_Amount_27.f
  rw [if_pos (by simp), if_pos (by omega), if_pos (by omega), if_pos h, Int.toNat_natCast]
theorem del_f (l : List S31) (p : Nat) (hp : p < l.length) (h : l.length < 9223372036854775807) : api_Amount_28.f l (p : Int) (wrap64 ((p : Int) + 1)) = some (l.take p ++ l.drop (p + 1)) := by
  unfold api_Amount_28.f
  rw [next p l.length hp (by omega), if_pos (by omega), if_pos (by omega), if_pos (by omega), Int.toNat_natCast, Int.toNat_natCast]
theorem okA_len {l : List S31} {c : Int} (h : okA l c = true) : okL (-1) l = true ∧ l.length ≤ 4 ∧ 0 ≤ c ∧ c ≤ 1000000000 := by
  unfold okA at h
  simp only [Bool.and_eq_true, decide_eq_true_eq] at h
  have := ok_len l (-1) h.1 (by omega) (by omega)
  exact ⟨h.1, by omega, h.2⟩
theorem args_ok {a n : Int} (h : argsOk a n = true) : 0 ≤ a ∧ a ≤ 3 ∧ 1 ≤ n ∧ n ≤ MX := by simpa [argsOk] using h
/-- what stands at the place -/
theorem at_pos {l : List S31} {a : Int} (h : hasL l a = true) (ho : okL (-1) l = true) : posL l a < l.length ∧ rd_T31 l (posL l a : Int) = ⟨a, balL l a⟩ ∧ 1 ≤ balL l a ∧ balL l a ≤ MX := by
  obtain ⟨x, hx, he⟩ := (has_pos l a).1 h
  have hlt := (List.getElem?_eq_some_iff.1 hx).1
  have hb := bal_pos l (-1) a ho
  rw [if_pos h, hx] at hb
  simp only [Option.getD_some] at hb
  have hr := rd_get hlt
  rw [hx] at hr
  have hxe : x = rd_T31 l (posL l a : Int) := Option.some.inj hr
  have hg := ok_gt l (-1) ho x (List.mem_of_getElem? hx)
  refine ⟨hlt, ?_, by omega, by omega⟩
  rw [← hxe, hb, ← he]
theorem not_pos {l : List S31} {a : Int} (h : hasL l a = false) (ho : okL (-1) l = true) : balL l a = 0 := by
  rw [bal_pos l (-1) a ho, h]; simp
theorem bal_bd {l : List S31} (a : Int) (ho : okL (-1) l = true) : 0 ≤ balL l a ∧ balL l a ≤ MX := by
  cases h : hasL l a with
  | true => have := at_pos h ho; omega
  | false => rw [not_pos h ho]; unfold MX; omega

theorem credit_ev (l : List S31) (c a n : Int) (hl : l.length ≤ 9223372036854775807) : Ev (fun k => ledger_Credit.f k l c a n) (creditS l c a n) := by
  unfold ledger_Credit.f creditS
  refine Ev.bind (asked_ev l c a n hl) ?_
  by_cases hA : okA l c = true
  rotate_left
  · simp only [hA]
    exact Ev.neg (by simp) (Ev.now _)
  by_cases hB : argsOk a n = true
  rotate_left
  · simp only [hA, hB, if_true]
    exact Ev.neg (by simp) (Ev.now _)
  simp only [hA, hB, if_true]
  obtain ⟨ho, h4, hc0, hc1⟩ := okA_len hA
  obtain ⟨ha0, ha3, hn1, hnM⟩ := args_ok hB
  refine Ev.bind0 (clone_f l (by omega)) ?_
  refine Ev.bind (place_ev l a ho ha0 ha3) ?_
  have hpl := pos_le l a
  have hbb := bal_bd a ho
  unfold MX at hbb hnM ⊢
  have hw : wrap64 (9007199254740992 - n) = 9007199254740992 - n := w64 (by omega) (by omega)
  cases hh : hasL l a with
  | true =>
    obtain ⟨hlt, hrd, hb1, hb2⟩ := at_pos hh ho
    simp only [hrd, hw]
    refine Ev.pos (by simp) (Ev.pos (by omega) (Ev.pos (by omega) ?_))
    by_cases h1 : balL l a > 9007199254740992 - n
    · simp only [if_pos h1]; exact Ev.now _
    · simp only [if_neg h1]
      by_cases h2 : c = 1000000000
      · simp only [h2, if_true]; exact Ev.now _
      · simp only [h2, if_false]
        rw [w64 (i := balL l a + n) (by omega) (by omega), w64 (i := c + 1) (by omega) (by omega), Int.toNat_natCast, set_has l a _ (by omega) hh]
        exact Ev.now _
  | false =>
    have hb0 := not_pos hh ho
    refine Ev.neg (by simp) ?_
    refine Ev.bind0 (ins_f l (posL l a) ⟨a, 0⟩ hpl (by omega)) ?_
    have hlen : (l.take (posL l a) ++ [(⟨a, 0⟩ : S31)] ++ l.drop (posL l a)).length = l.length + 1 := by simp; omega
    have hrd : rd_T31 (l.take (posL l a) ++ [(⟨a, 0⟩ : S31)] ++ l.drop (posL l a)) (posL l a : Int) = ⟨a, 0⟩ := by
      unfold rd_T31
      rw [Int.toNat_natCast, List.getD_eq_getElem?_getD, List.append_assoc, List.getElem?_append_right (by simp; omega)]
      simp [Nat.min_eq_left hpl]
    simp only [hrd, hw, hlen]
    refine Ev.pos (by omega) (Ev.pos (by omega) ?_)
    rw [hb0]
    by_cases h1 : (0 : Int) > 9007199254740992 - n
    · simp only [h1, if_true]; exact Ev.now _
    · simp only [h1, if_false]
      by_cases h2 : c = 1000000000
      · simp only [h2, if_true]; exact Ev.now _
      · simp only [h2, if_false]
        rw [w64 (i := 0 + n) (by omega) (by omega), w64 (i := c + 1) (by omega) (by omega), Int.toNat_natCast, set_not l (-1) a _ (by omega) ho hh]
        have e : (l.take (posL l a) ++ [(⟨a, 0⟩ : S31)] ++ l.drop (posL l a)).set (posL l a) ⟨a, 0 + n⟩ = l.take (posL l a) ++ [⟨a, 0 + n⟩] ++ l.drop (posL l a) := by
          rw [List.append_assoc, List.set_append_right _ _ (by simp; omega)]
          simp [Nat.min_eq_left hpl]
        rw [e]
        exact Ev.now _

theorem debit_ev (l : List S31) (c a n : Int) (hl : l.length ≤ 9223372036854775807) : Ev (fun k => ledger_Debit.f k l c a n) (debitS l c a n) := by
  unfold ledger_Debit.f debitS
  refine Ev.bind (asked_ev l c a n hl) ?_
  by_cases hA : okA l c = true
  rotate_left
  · simp only [hA]
    exact Ev.neg (by simp) (Ev.now _)
  by_cases hB : argsOk a n = true
  rotate_left
  · simp only [hA, hB, if_true]
    exact Ev.neg (by simp) (Ev.now _)
  simp only [hA, hB, if_true]
  obtain ⟨ho, h4, hc0, hc1⟩ := okA_len hA
  obtain ⟨ha0, ha3, hn1, hnM⟩ := args_ok hB
  refine Ev.bind0 (clone_f l (by omega)) ?_
  refine Ev.bind (place_ev l a ho ha0 ha3) ?_
  have hpl := pos_le l a
  have hbb := bal_bd a ho
  unfold MX at hbb hnM
  cases hh : hasL l a with
  | true =>
    obtain ⟨hlt, hrd, hb1, hb2⟩ := at_pos hh ho
    unfold MX at hb2
    simp only [hrd]
    refine Ev.pos (by simp) (Ev.pos (by omega) (Ev.pos (by omega) ?_))
    refine Ev.step (fun k => by simp only [ledger_Debit.j0]; rfl) ?_
    by_cases h1 : balL l a < n
    · simp only [if_pos h1]; exact Ev.pos (by simpa using h1) (Ev.now _)
    · simp only [if_neg h1]
      refine Ev.neg (by simpa using h1) ?_
      by_cases h2 : c = 1000000000
      · simp only [h2, if_true]; exact Ev.now _
      · simp only [h2, if_false]
        refine Ev.pos (by omega) (Ev.pos (by omega) ?_)
        simp only [Option.bind_some, hrd]
        rw [w64 (i := balL l a - n) (by omega) (by omega), w64 (i := c + 1) (by omega) (by omega), Int.toNat_natCast]
        have hrd2 : rd_T31 (l.set (posL l a) ⟨a, balL l a - n⟩) (posL l a : Int) = ⟨a, balL l a - n⟩ := by
          unfold rd_T31
          rw [Int.toNat_natCast, List.getD_eq_getElem?_getD, List.getElem?_set_self hlt]; rfl
        rw [hrd2]
        by_cases h3 : balL l a - n = 0
        · refine Ev.pos h3 ?_
          rw [del_f _ _ (by rw [List.length_set]; exact hlt) (by rw [List.length_set]; omega), h3, set_zero l a hh]
          simp only [Option.bind_some]
          have e : (l.set (posL l a) ⟨a, 0⟩).take (posL l a) ++ (l.set (posL l a) ⟨a, 0⟩).drop (posL l a + 1) = l.take (posL l a) ++ l.drop (posL l a + 1) := by
            rw [List.take_set_of_le (Nat.le_refl _), List.drop_set_of_lt (by omega)]
          rw [e]
          exact Ev.now _
        · refine Ev.neg h3 ?_
          rw [set_has l a _ h3 hh]
          exact Ev.now _
  | false =>
    have hb0 := not_pos hh ho
    refine Ev.neg (by simp) ?_
    refine Ev.step (fun k => by simp only [ledger_Debit.j0]; rfl) ?_
    have h1 : balL l a < n := by omega
    simp only [h1, if_true]
    exact Ev.now _

set_option maxRecDepth 100000 in
theorem live_ev : Ev (fun k => rialtolaw12_live.f k) true := Ev.of (k := 12) rialtolaw12_live.mono (by kernel_rfl)
end Go.Proofs.Ythblegfihenflaa.Plain
