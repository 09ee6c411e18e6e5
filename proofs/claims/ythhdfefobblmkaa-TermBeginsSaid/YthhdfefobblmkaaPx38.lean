/- Functions that the laws reach, told as plain functions, each with a proof that the call computes it; for every input. Written by a program of ours out of the translation. -/
import Derived.Test.YthhdfefobblmkaaPx0
import Derived.Test.YthhdfefobblmkaaPx16
namespace Go.Proofs.Ythhdfefobblmkaa.P
open Go.RowKit Go.Proofs.YthhdfefobblmkaaW.PrintWords Go.Proofs.YthhdfefobblmkaaW.PrintLast Go.Proofs.YthhdfefobblmkaaW.PrintMore
open Go.Proofs.YthhdfefobblmkaaG (bk_ bl_ rk_)
attribute [local go_sem] max2_int min2_int max_two min_two max_three min_three max_four min_four   -- for this text's walks alone
set_option linter.unusedVariables false
set_option linter.unusedSimpArgs false

/-! ### rialtoref07_Begin: function 21 -/
/-! by hand -/
open Go.Proofs.YthhdfefobblmkaaG
def rialtoref07_Begin.f (k : Nat) (b0 : Int) (b1 : Int) (b2 : Int) (l0 : List Int) (me : Int) (n : Int) : Option (Int × Int × Int × List Int × Int) :=
  (rialtoref07_May.f k b0 b1 b2 l0).bind fun t => if t = true then if (1 ≤ n ∧ n ≤ 7) ∧ (1 ≤ me ∧ me ≤ n) then if b0 = 1000000 then some (0, 0, 0, [], 2) else some (wrap64 (b0 + 1), me, if n = 1 then 3 else 2, [me], 0) else some (0, 0, 0, [], 1) else some (0, 0, 0, [], 70)
theorem rialtoref07_Begin.mono : ∀ a0 a1 a2 a3 a4 a5 k, LeO (rialtoref07_Begin.f k a0 a1 a2 a3 a4 a5) (rialtoref07_Begin.f (k + 1) a0 a1 a2 a3 a4 a5) := by
  intro a0 a1 a2 a3 a4 a5 k
  unfold rialtoref07_Begin.f
  exact LeO.bind (rialtoref07_May.mono _ _ _ _ _) (fun t => LeO.refl _)
theorem cellsB4 {w : World} {g : Nat} {t : TypeId} {a0 a1 a2 a3 : Value} (h : w.heap[g]? = some (.cells #[a0, a1, a2, a3] t (0, 0))) : w.cell? ⟨g, 0, none⟩ = some a0 ∧ w.cell? ⟨g, 1, none⟩ = some a1 ∧ w.cell? ⟨g, 2, none⟩ = some a2 ∧ w.cell? ⟨g, 3, none⟩ = some a3 := ⟨(blk_cell h 0).trans rfl, (blk_cell h 1).trans rfl, (blk_cell h 2).trans rfl, (blk_cell h 3).trans rfl⟩
theorem put4B {W w : World} {g : Nat} {x0 x1 x2 x3 a b c v : Value} {l : List Int} (hb : W.heap[g]? = some (.cells #[x0, x1, x2, x3] 26 (0, 0))) (hg : w.heap.size ≤ g) (hB : Below w.heap.size w W) (ok : Nat → Prop) (ho : Kd.R (Kd.int .i64) 3 W w.heap.size ok v l) :
    ((((W.setCell ⟨g, 0, none⟩ a).setCell ⟨g, 1, none⟩ b).setCell ⟨g, 2, none⟩ c).setCell ⟨g, 3, none⟩ v).heap[g]? = some (.cells #[a, b, c, v] 26 (0, 0)) ∧ Kd.R (Kd.int .i64) 3 ((((W.setCell ⟨g, 0, none⟩ a).setCell ⟨g, 1, none⟩ b).setCell ⟨g, 2, none⟩ c).setCell ⟨g, 3, none⟩ v) w.heap.size (fun _ => True) v l ∧ Below w.heap.size w ((((W.setCell ⟨g, 0, none⟩ a).setCell ⟨g, 1, none⟩ b).setCell ⟨g, 2, none⟩ c).setCell ⟨g, 3, none⟩ v) := by
  have h0 := blk_put hb 0 a rfl
  have h1 := blk_put h0 1 b rfl
  have h2 := blk_put h1 2 c rfl
  have h3 := blk_put h2 3 v rfl
  have o := Kd.R_set (Kd.R_set (Kd.R_set (Kd.R_set ho hb (by decide) 0 a) h0 (by decide) 1 b) h1 (by decide) 2 c) h2 (by decide) 3 v
  exact ⟨h3, Kd.R_mono o (fun _ _ => trivial), below_set (below_set (below_set (below_set hB hg) hg) hg) hg⟩
set_option maxHeartbeats 4000000 in
set_option maxRecDepth 100000 in
theorem rialtoref07_Begin.calls (k : Nat) (a0_0 : Int) (a0_1 : Int) (a0_2 : Int) (A0_3 : Option Addr) (c0_3 : Nat) (l0_3 : List Int) (a1 : Int) (a2 : Int) (r1 : Int) (r2 : Int) (r3 : Int) (r4 : List Int) (r5 : Int) (w : World) (hr0_3 : Kd.C (Kd.int .i64) w A0_3 l0_3.length l0_3) (hc0_3 : l0_3.length ≤ c0_3) (h : rialtoref07_Begin.f k a0_0 a0_1 a0_2 l0_3 a1 a2 = some (r1, r2, r3, r4, r5)) :
    Calls Try.prog 21 #[.agg #[.int .i64 a0_0, .int .i64 a0_1, .int .i64 a0_2, .slice A0_3 l0_3.length c0_3], .int .i64 a1, .int .i64 a2] w fun e w' => ∃ v3_ : Value, e = .returned (.tuple #[.agg #[.int .i64 r1, .int .i64 r2, .int .i64 r3, v3_], .int .i64 r5]) ∧ Kd.R (Kd.int .i64) 3 w' w.heap.size (fun _ => True) v3_ r4 ∧ Below w.heap.size w w' := by
  have hu26 := Try.underlying26
  have L0 := Aside0.mk hc0_3
  unfold rialtoref07_Begin.f at h
  obtain ⟨t0, ht0, H1⟩ := Option.bind_eq_some_iff.1 h
  have HT := Aside0.mk ht0
  have H' := Aside0.mk H1
  clear h ht0 H1 hc0_3
  have C0 := Aside0.mk (hr0_3)
  clear hr0_3
  have B := Aside0.mk (Below.refl w.heap.size w)
  have n_C0 := Aside0.mk (Kd.C_below C0.out (below_alloc (Below.refl _ _) (.cells #[.int .i64 a0_0, .int .i64 a0_1, .int .i64 a0_2, .slice A0_3 l0_3.length c0_3] 26)))
  have n_B := Aside0.mk (below_alloc B.out (.cells #[.int .i64 a0_0, .int .i64 a0_1, .int .i64 a0_2, .slice A0_3 l0_3.length c0_3] 26))
  clear C0 B
  have C0 := n_C0
  have B := n_B
  clear n_C0 n_B
  have b3 := Aside0.mk (blk_new w (.cells #[.int .i64 a0_0, .int .i64 a0_1, .int .i64 a0_2, .slice A0_3 l0_3.length c0_3] 26))
  have n_C0 := Aside0.mk (Kd.C_below C0.out (below_alloc (Below.refl _ _) (.cells #[.int .i64 0, .int .i64 0, .int .i64 0, .slice none 0 0] 26)))
  have n_B := Aside0.mk (below_alloc B.out (.cells #[.int .i64 0, .int .i64 0, .int .i64 0, .slice none 0 0] 26))
  have n_b3 := Aside0.mk (blk_alloc b3.out (.cells #[.int .i64 0, .int .i64 0, .int .i64 0, .slice none 0 0] 26))
  clear C0 B b3
  have C0 := n_C0
  have B := n_B
  have b3 := n_b3
  clear n_C0 n_B n_b3
  have b6 := Aside0.mk (blk_new (w.alloc (.cells #[.int .i64 a0_0, .int .i64 a0_1, .int .i64 a0_2, .slice A0_3 l0_3.length c0_3] 26)) (.cells #[.int .i64 0, .int .i64 0, .int .i64 0, .slice none 0 0] 26))
  obtain ⟨z1, z2, z3, z4⟩ := cellsB4 b3.out
  go_enter Try.func21, Try.ntmps21
  go_wp2_with fail
  clear z1 z2 z3 z4
  obtain ⟨g3, hg3⟩ : ∃ g_, g_ = w.heap.size := ⟨_, rfl⟩
  obtain ⟨g6, hg6⟩ : ∃ g_, g_ = w.heap.size + 1 := ⟨_, rfl⟩
  have n3 := b3.out
  have n6 := b6.out
  rw [World.size_alloc, ← hg6] at n6
  rw [← hg3] at n3
  rw [← hg6, ← hg3]
  have G6 := Aside0.mk (show w.heap.size ≤ g6 by omega)
  clear b3 b6 hg3 hg6
  have b3 := Aside0.mk n3
  have b6 := Aside0.mk n6
  clear n3 n6
  generalize (w.alloc (.cells #[.int .i64 a0_0, .int .i64 a0_1, .int .i64 a0_2, .slice A0_3 l0_3.length c0_3] 26)).alloc (.cells #[.int .i64 0, .int .i64 0, .int .i64 0, .slice none 0 0] 26) = wa at b3 b6 C0 B ⊢
  refine (rialtoref07_May.calls k a0_0 a0_1 a0_2 A0_3 c0_3 l0_3 t0 _ C0.out L0.out HT.out).mono ?_
  rintro e wb ⟨rfl, hb⟩
  have n_C0 := Aside0.mk (Kd.C_below C0.out hb)
  have n_B := Aside0.mk (below_step B.out hb)
  have n_b3 := Aside0.mk (blk_below b3.out hb)
  have n_b6 := Aside0.mk (blk_below b6.out hb)
  clear C0 B b3 b6
  have C0 := n_C0
  have B := n_B
  have b3 := n_b3
  have b6 := n_b6
  clear n_C0 n_B n_b3 n_b6
  clear hb HT
  have H := H'.out
  clear H'
  by_cases ht : t0 = true
  rotate_left
  · obtain rfl : t0 = false := by cases t0 <;> simp_all
    rw [if_neg (by decide)] at H
    simp only [Option.some.injEq, Prod.mk.injEq] at H
    obtain ⟨rfl, rfl, rfl, rfl, rfl⟩ := H
    have hz := fun j => blk_frozen b6.out j
    obtain ⟨z0, z1, z2, z3⟩ := cellsB4 b6.out
    obtain ⟨q0, q1, q2, q3⟩ := cellsB4 b3.out
    have P := Aside0.mk (put4B (a := .int .i64 0) (b := .int .i64 0) (c := .int .i64 0) b6.out G6.out B.out _ (Kd.R_nil (Kd.int .i64) 3 wb w.heap.size (fun _ => True)))
    clear ht
    go_wp2
    exact bodyPost_ret (results_ct rfl _ _ g6 26 #[.int .i64 0, .int .i64 0, .int .i64 0, .slice none 0 0] (0, 0) _ rfl P.out.1 Try.underlying26 rfl (by kernel_rfl)) rfl ⟨_, rfl, P.out.2.1, P.out.2.2⟩
  subst ht
  rw [if_pos rfl] at H
  by_cases hok : (1 ≤ a2 ∧ a2 ≤ 7) ∧ (1 ≤ a1 ∧ a1 ≤ a2)
  rotate_left
  · rw [if_neg hok] at H
    simp only [Option.some.injEq, Prod.mk.injEq] at H
    obtain ⟨rfl, rfl, rfl, rfl, rfl⟩ := H
    have hz := fun j => blk_frozen b6.out j
    obtain ⟨z0, z1, z2, z3⟩ := cellsB4 b6.out
    obtain ⟨q0, q1, q2, q3⟩ := cellsB4 b3.out
    have P := Aside0.mk (put4B (a := .int .i64 0) (b := .int .i64 0) (c := .int .i64 0) b6.out G6.out B.out _ (Kd.R_nil (Kd.int .i64) 3 wb w.heap.size (fun _ => True)))
    have hbad : a2 < 1 ∨ 7 < a2 ∨ (1 ≤ a2 ∧ a2 ≤ 7 ∧ a1 < 1) ∨ (1 ≤ a2 ∧ a2 ≤ 7 ∧ a2 < a1) := by omega
    clear hok
    rcases hbad with h | h | ⟨h1, h2, h⟩ | ⟨h1, h2, h⟩
    rotate_left 3
    have hd : decide (a1 ≤ a2) = false := decide_eq_false (by omega)
    rotate_right 3
    all_goals
      go_wp2
      exact bodyPost_ret (results_ct rfl _ _ g6 26 #[.int .i64 0, .int .i64 0, .int .i64 0, .slice none 0 0] (0, 0) _ rfl P.out.1 Try.underlying26 rfl (by kernel_rfl)) rfl ⟨_, rfl, P.out.2.1, P.out.2.2⟩
  rw [if_pos hok] at H
  obtain ⟨⟨h1, h2⟩, h3, h4⟩ := hok
  have hd : decide (a1 ≤ a2) = true := decide_eq_true h4
  by_cases hm : a0_0 = 1000000
  · rw [if_pos hm] at H
    simp only [Option.some.injEq, Prod.mk.injEq] at H
    obtain ⟨rfl, rfl, rfl, rfl, rfl⟩ := H
    have hz := fun j => blk_frozen b6.out j
    obtain ⟨z0, z1, z2, z3⟩ := cellsB4 b6.out
    obtain ⟨q0, q1, q2, q3⟩ := cellsB4 b3.out
    have P := Aside0.mk (put4B (a := .int .i64 0) (b := .int .i64 0) (c := .int .i64 0) b6.out G6.out B.out _ (Kd.R_nil (Kd.int .i64) 3 wb w.heap.size (fun _ => True)))
    have hmb : (a0_0 == 1000000) = true := beq_iff_eq.mpr hm
    clear hm
    go_wp2
    exact bodyPost_ret (results_ct rfl _ _ g6 26 #[.int .i64 0, .int .i64 0, .int .i64 0, .slice none 0 0] (0, 0) _ rfl P.out.1 Try.underlying26 rfl (by kernel_rfl)) rfl ⟨_, rfl, P.out.2.1, P.out.2.2⟩
  rw [if_neg hm] at H
  simp only [Option.some.injEq, Prod.mk.injEq] at H
  obtain ⟨rfl, rfl, rfl, rfl, rfl⟩ := H
  have hmb : (a0_0 == 1000000) = false := beq_eq_false_iff_ne.mpr hm
  clear hm
  have G3 := Aside0.mk (blk_lt b3.out)
  have SZ := Aside0.mk B.out.size
  have L6 := Aside0.mk (blk_lt b6.out)
  obtain ⟨z5, z6, z7, z8⟩ := cellsB4 b3.out
  have n_C0 := Aside0.mk (Kd.C_below C0.out (below_alloc (Below.refl _ _) (.cells #[.int .i64 a1] 3)))
  have n_B := Aside0.mk (below_alloc B.out (.cells #[.int .i64 a1] 3))
  have n_b3 := Aside0.mk (blk_alloc b3.out (.cells #[.int .i64 a1] 3))
  have n_b6 := Aside0.mk (blk_alloc b6.out (.cells #[.int .i64 a1] 3))
  clear C0 B b3 b6
  have C0 := n_C0
  have B := n_B
  have b3 := n_b3
  have b6 := n_b6
  clear n_C0 n_B n_b3 n_b6
  have bl := Aside0.mk (blk_new wb (.cells #[.int .i64 a1] 3))
  have n_C0 := Aside0.mk (Kd.C_below C0.out (below_alloc (Below.refl _ _) (.cells #[.int .i64 (wrap64 (a0_0 + 1)), .int .i64 a1, .int .i64 2, .slice (some ⟨wb.heap.size, 0, none⟩) 1 1] 26)))
  have n_B := Aside0.mk (below_alloc B.out (.cells #[.int .i64 (wrap64 (a0_0 + 1)), .int .i64 a1, .int .i64 2, .slice (some ⟨wb.heap.size, 0, none⟩) 1 1] 26))
  have n_b3 := Aside0.mk (blk_alloc b3.out (.cells #[.int .i64 (wrap64 (a0_0 + 1)), .int .i64 a1, .int .i64 2, .slice (some ⟨wb.heap.size, 0, none⟩) 1 1] 26))
  have n_b6 := Aside0.mk (blk_alloc b6.out (.cells #[.int .i64 (wrap64 (a0_0 + 1)), .int .i64 a1, .int .i64 2, .slice (some ⟨wb.heap.size, 0, none⟩) 1 1] 26))
  have n_bl := Aside0.mk (blk_alloc bl.out (.cells #[.int .i64 (wrap64 (a0_0 + 1)), .int .i64 a1, .int .i64 2, .slice (some ⟨wb.heap.size, 0, none⟩) 1 1] 26))
  clear C0 B b3 b6 bl
  have C0 := n_C0
  have B := n_B
  have b3 := n_b3
  have b6 := n_b6
  have bl := n_bl
  clear n_C0 n_B n_b3 n_b6 n_bl
  have b8 := Aside0.mk (blk_new (wb.alloc (.cells #[.int .i64 a1] 3)) (.cells #[.int .i64 (wrap64 (a0_0 + 1)), .int .i64 a1, .int .i64 2, .slice (some ⟨wb.heap.size, 0, none⟩) 1 1] 26))
  go_upto_region 8 with (go_in)
  clear z5 z6 z7 z8
  obtain ⟨gl, hgl⟩ : ∃ g_, g_ = wb.heap.size := ⟨_, rfl⟩
  obtain ⟨g8, hg8⟩ : ∃ g_, g_ = wb.heap.size + 1 := ⟨_, rfl⟩
  have ml := Kd.R_of_own (h1 := fun _ => rfl) (enc := Value.int .i64) (ok := fun _ => True) (own_lit wb w.heap.size 3 .i64 [a1] SZ.out (by simp)) (fun k hk => trivial)
  have Rl := Aside0.mk (show Kd.R (Kd.int .i64) 3 ((wb.alloc (.cells #[.int .i64 a1] 3)).alloc (.cells #[.int .i64 (wrap64 (a0_0 + 1)), .int .i64 a1, .int .i64 2, .slice (some ⟨wb.heap.size, 0, none⟩) 1 1] 26)) w.heap.size (fun _ => True) (.slice (some ⟨wb.heap.size, 0, none⟩) 1 1) [a1] from Kd.R_alloc ml (.cells #[.int .i64 (wrap64 (a0_0 + 1)), .int .i64 a1, .int .i64 2, .slice (some ⟨wb.heap.size, 0, none⟩) 1 1] 26))
  clear ml
  have n8 := b8.out
  rw [World.size_alloc, ← hg8] at n8
  have G8 := Aside0.mk (show w.heap.size ≤ g8 by have := SZ.out; omega)
  have N86 := Aside0.mk (show g6 ≠ g8 by have := L6.out; omega)
  rw [← hg8]
  rw [← hgl] at n8 Rl ⊢
  have m6 := b6.out
  have mB := B.out
  rw [← hgl] at m6 mB
  clear b8 bl b6 b3 C0 B hgl hg8 L6 SZ G3
  have b8 := Aside0.mk n8
  have b6 := Aside0.mk m6
  have B := Aside0.mk mB
  clear n8 m6 mB
  generalize (wb.alloc (.cells #[.int .i64 a1] 3)).alloc (.cells #[.int .i64 (wrap64 (a0_0 + 1)), .int .i64 a1, .int .i64 2, .slice (some ⟨gl, 0, none⟩) 1 1] 26) = wz at b8 b6 B Rl ⊢
  have hz6 := fun j => blk_frozen b6.out j
  have hz8 := fun j => blk_frozen b8.out j
  obtain ⟨z0, z1, z2, z3⟩ := cellsB4 b6.out
  obtain ⟨q0, q1, q2, q3⟩ := cellsB4 b8.out
  by_cases hn : a2 = 1
  · have HP := Aside0.mk (show (if a2 = 1 then (3 : Int) else 2) = 3 from if_pos hn)
    have hnb : (a2 == 1) = true := beq_iff_eq.mpr hn
    have x8 := blk_put b8.out 2 (.int .i64 3) rfl
    have x6 := blk_far b6.out (p := ⟨g8, 2, none⟩) N86.out (.int .i64 3)
    have P := Aside0.mk (put4B (a := .int .i64 (wrap64 (a0_0 + 1))) (b := .int .i64 a1) (c := .int .i64 3) x6 G6.out (below_set (j := 2) (v := .int .i64 3) B.out G8.out) _ (Kd.R_set Rl.out b8.out (by decide) 2 (.int .i64 3)))
    clear x6 x8 h1 h2 h3 h4 hnb
    subst hn
    have N68 := N86.out
    go_wp2
    exact bodyPost_ret (results_ct rfl _ _ g6 26 #[.int .i64 (wrap64 (a0_0 + 1)), .int .i64 a1, .int .i64 3, .slice (some ⟨gl, 0, none⟩) 1 1] (0, 0) _ rfl P.out.1 Try.underlying26 rfl (by kernel_rfl)) rfl (by first | exact ⟨_, rfl, P.out.2.1, P.out.2.2⟩ | (rw [HP.out]; exact ⟨_, rfl, P.out.2.1, P.out.2.2⟩))
  · have HP := Aside0.mk (show (if a2 = 1 then (3 : Int) else 2) = 2 from if_neg hn)
    have hnb : (a2 == 1) = false := beq_eq_false_iff_ne.mpr hn
    have P := Aside0.mk (put4B (a := .int .i64 (wrap64 (a0_0 + 1))) (b := .int .i64 a1) (c := .int .i64 2) b6.out G6.out B.out _ Rl.out)
    have hnd : decide (a2 = 1) = false := decide_eq_false hn
    clear h1 h2 h3 h4
    go_wp2
    exact bodyPost_ret (results_ct rfl _ _ g6 26 #[.int .i64 (wrap64 (a0_0 + 1)), .int .i64 a1, .int .i64 2, .slice (some ⟨gl, 0, none⟩) 1 1] (0, 0) _ rfl P.out.1 Try.underlying26 rfl (by kernel_rfl)) rfl (by first | exact ⟨_, rfl, P.out.2.1, P.out.2.2⟩ | (rw [HP.out]; exact ⟨_, rfl, P.out.2.1, P.out.2.2⟩))
/-! end by hand -/

end Go.Proofs.Ythhdfefobblmkaa.P
