/- Functions that the laws reach, told as plain functions, each with a proof that the call computes it; for every input. Written by a program of ours out of the translation. -/
import Derived.Test.YthhdfefobblmkaaPx0
import Derived.Test.YthhdfefobblmkaaPx12
import Derived.Test.YthhdfefobblmkaaPx28
import Derived.Test.YthhdfefobblmkaaPx29
namespace Go.Proofs.Ythhdfefobblmkaa.P
open Go.RowKit Go.Proofs.YthhdfefobblmkaaW.PrintWords Go.Proofs.YthhdfefobblmkaaW.PrintLast Go.Proofs.YthhdfefobblmkaaW.PrintMore
open Go.Proofs.YthhdfefobblmkaaG (bk_ bl_ rk_)
attribute [local go_sem] max2_int min2_int max_two min_two max_three min_three max_four min_four   -- for this text's walks alone
set_option linter.unusedVariables false
set_option linter.unusedSimpArgs false

/-! ### rialtolaw07_live: function 16 -/
/-! by hand -/
open Go.Proofs.YthhdfefobblmkaaG
def rialtolaw07_live.f (k : Nat) : Option Bool :=
  (term_Begin.f k 0 0 1 ([] : List Int) 2 3).bind fun x => if x = (1, 2, 2, [2], 0) then (term_Count.f k 1 2 2 [2] 3 1 true 3).bind fun y => if y = (1, 2, 3, [2, 3], 0) then (term_Grant.f k 1 3 1 ([] : List Int) 1 2 0 0 0 0).bind fun z => if z = (2, 1, 1, [], true, 0) then some true else none else none else none
theorem rialtolaw07_live.mono : ∀ k, LeO (rialtolaw07_live.f k) (rialtolaw07_live.f (k + 1)) := by
  intro k
  unfold rialtolaw07_live.f
  exact LeO.bind (term_Begin.mono _ _ _ _ _ _ _) (fun x => LeO.ite (LeO.bind (term_Count.mono _ _ _ _ _ _ _ _ _) (fun y => LeO.ite (LeO.bind (term_Grant.mono _ _ _ _ _ _ _ _ _ _ _) (fun z => LeO.refl _)) (LeO.refl _))) (LeO.refl _))
theorem cellsV4 {w : World} {g : Nat} {t : TypeId} {a0 a1 a2 a3 : Value} (h : w.heap[g]? = some (.cells #[a0, a1, a2, a3] t (0, 0))) : w.cell? ⟨g, 0, none⟩ = some a0 ∧ w.cell? ⟨g, 1, none⟩ = some a1 ∧ w.cell? ⟨g, 2, none⟩ = some a2 ∧ w.cell? ⟨g, 3, none⟩ = some a3 := ⟨(blk_cell h 0).trans rfl, (blk_cell h 1).trans rfl, (blk_cell h 2).trans rfl, (blk_cell h 3).trans rfl⟩
set_option maxHeartbeats 4000000 in
set_option maxRecDepth 100000 in
theorem rialtolaw07_live.calls (k : Nat) (r : Bool) (w : World) (h : rialtolaw07_live.f k = some r) :
    Calls Try.prog 16 #[] w fun e w' => e = .returned (.bool r) ∧ Below w.heap.size w w' := by
  unfold rialtolaw07_live.f at h
  obtain ⟨x, c1, h1⟩ := Option.bind_eq_some_iff.1 h
  split at h1
  rotate_left
  · cases h1
  next e1 =>
  obtain ⟨y, c2, h2⟩ := Option.bind_eq_some_iff.1 h1
  split at h2
  rotate_left
  · cases h2
  next e2 =>
  obtain ⟨z, c3, h3⟩ := Option.bind_eq_some_iff.1 h2
  split at h3
  rotate_left
  · cases h3
  next e3 =>
  subst e1 e2 e3
  obtain rfl := Option.some.inj h3
  have C1 := Aside0.mk c1
  have C2 := Aside0.mk c2
  have C3 := Aside0.mk c3
  clear h h1 h2 h3 c1 c2 c3
  have hu26 := Try.underlying26
  have B := Aside0.mk (Below.refl w.heap.size w)
  go_enter Try.func16, Try.ntmps16
  go_wp2_with fail
  refine (term_Begin.calls k 0 0 1 none 0 [] 2 3 1 2 2 [2] 0 _ (Kd.C_nil _ _) (Nat.le_refl _) C1.out).mono ?_
  rintro e w1 ⟨v, rfl, ho, hb⟩
  obtain ⟨A1, d1, ev, L1_, hC1⟩ := Kd.R_reads ho
  obtain rfl : v = .slice A1 1 d1 := ev
  have L1 := Aside0.mk L1_
  clear L1_
  have n_B := Aside0.mk (below_step B.out hb)
  clear B
  have B := n_B
  clear n_B
  have K1 := Aside0.mk (hC1)
  clear ho hb hC1
  have n_B := Aside0.mk (below_alloc B.out (.cells #[.int .i64 1, .int .i64 2, .int .i64 2, .slice A1 1 d1] 26))
  have n_K1 := Aside0.mk (Kd.C_below K1.out (below_alloc (Below.refl _ _) (.cells #[.int .i64 1, .int .i64 2, .int .i64 2, .slice A1 1 d1] 26)))
  clear B K1
  have B := n_B
  have K1 := n_K1
  clear n_B n_K1
  have b1 := Aside0.mk (blk_new w1 (.cells #[.int .i64 1, .int .i64 2, .int .i64 2, .slice A1 1 d1] 26))
  obtain ⟨z1, z2, z3, z4⟩ := cellsV4 b1.out
  go_wp2_with fail
  clear z1 z2 z3 z4
  obtain ⟨g1, hg1⟩ : ∃ g_, g_ = w1.heap.size := ⟨_, rfl⟩
  have n_b1 := b1.out
  clear b1
  rw [← hg1] at n_b1
  rw [← hg1]
  have b1 := Aside0.mk n_b1
  clear n_b1 hg1
  generalize w1.alloc (.cells #[.int .i64 1, .int .i64 2, .int .i64 2, .slice A1 1 d1] 26) = wb at B K1 b1 ⊢
  refine (term_Count.calls k 1 2 2 A1 d1 [2] 3 1 true 3 1 2 3 [2, 3] 0 _ K1.out L1.out C2.out).mono ?_
  rintro e w2 ⟨v, rfl, ho, hb⟩
  obtain ⟨A2, d2, ev, L2_, hC2⟩ := Kd.R_reads ho
  obtain rfl : v = .slice A2 2 d2 := ev
  have L2 := Aside0.mk L2_
  clear L2_
  have n_B := Aside0.mk (below_step B.out hb)
  have n_K1 := Aside0.mk (Kd.C_below K1.out hb)
  have n_b1 := Aside0.mk (blk_below b1.out hb)
  clear B K1 b1
  have B := n_B
  have K1 := n_K1
  have b1 := n_b1
  clear n_B n_K1 n_b1
  have K2 := Aside0.mk (hC2)
  clear ho hb hC2
  have n_B := Aside0.mk (below_alloc B.out (.cells #[.int .i64 1, .int .i64 2, .int .i64 3, .slice A2 2 d2] 26))
  have n_K1 := Aside0.mk (Kd.C_below K1.out (below_alloc (Below.refl _ _) (.cells #[.int .i64 1, .int .i64 2, .int .i64 3, .slice A2 2 d2] 26)))
  have n_b1 := Aside0.mk (blk_alloc b1.out (.cells #[.int .i64 1, .int .i64 2, .int .i64 3, .slice A2 2 d2] 26))
  have n_K2 := Aside0.mk (Kd.C_below K2.out (below_alloc (Below.refl _ _) (.cells #[.int .i64 1, .int .i64 2, .int .i64 3, .slice A2 2 d2] 26)))
  clear B K1 b1 K2
  have B := n_B
  have K1 := n_K1
  have b1 := n_b1
  have K2 := n_K2
  clear n_B n_K1 n_b1 n_K2
  have b3 := Aside0.mk (blk_new w2 (.cells #[.int .i64 1, .int .i64 2, .int .i64 3, .slice A2 2 d2] 26))
  go_wp2_with fail
  obtain ⟨g3, hg3⟩ : ∃ g_, g_ = w2.heap.size := ⟨_, rfl⟩
  have n_b3 := b3.out
  clear b3
  rw [← hg3] at n_b3
  rw [← hg3]
  have b3 := Aside0.mk n_b3
  clear n_b3 hg3
  generalize w2.alloc (.cells #[.int .i64 1, .int .i64 2, .int .i64 3, .slice A2 2 d2] 26) = wc at B K1 b1 K2 b3 ⊢
  refine (term_Grant.calls k 1 3 1 none 0 [] 1 2 0 0 0 0 2 1 1 [] true 0 _ (Kd.C_nil _ _) (Nat.le_refl _) C3.out).mono ?_
  rintro e w3 ⟨v, rfl, ho, hb⟩
  obtain ⟨A3, d3, ev, L3_, hC3⟩ := Kd.R_reads ho
  obtain rfl : v = .slice A3 0 d3 := ev
  have L3 := Aside0.mk L3_
  clear L3_
  have n_B := Aside0.mk (below_step B.out hb)
  have n_K1 := Aside0.mk (Kd.C_below K1.out hb)
  have n_b1 := Aside0.mk (blk_below b1.out hb)
  have n_K2 := Aside0.mk (Kd.C_below K2.out hb)
  have n_b3 := Aside0.mk (blk_below b3.out hb)
  clear B K1 b1 K2 b3
  have B := n_B
  have K1 := n_K1
  have b1 := n_b1
  have K2 := n_K2
  have b3 := n_b3
  clear n_B n_K1 n_b1 n_K2 n_b3
  have K3 := Aside0.mk (hC3)
  clear ho hb hC3
  have n_B := Aside0.mk (below_alloc B.out (.cells #[.int .i64 2, .int .i64 1, .int .i64 1, .slice A3 0 d3] 26))
  have n_K1 := Aside0.mk (Kd.C_below K1.out (below_alloc (Below.refl _ _) (.cells #[.int .i64 2, .int .i64 1, .int .i64 1, .slice A3 0 d3] 26)))
  have n_b1 := Aside0.mk (blk_alloc b1.out (.cells #[.int .i64 2, .int .i64 1, .int .i64 1, .slice A3 0 d3] 26))
  have n_K2 := Aside0.mk (Kd.C_below K2.out (below_alloc (Below.refl _ _) (.cells #[.int .i64 2, .int .i64 1, .int .i64 1, .slice A3 0 d3] 26)))
  have n_b3 := Aside0.mk (blk_alloc b3.out (.cells #[.int .i64 2, .int .i64 1, .int .i64 1, .slice A3 0 d3] 26))
  have n_K3 := Aside0.mk (Kd.C_below K3.out (below_alloc (Below.refl _ _) (.cells #[.int .i64 2, .int .i64 1, .int .i64 1, .slice A3 0 d3] 26)))
  clear B K1 b1 K2 b3 K3
  have B := n_B
  have K1 := n_K1
  have b1 := n_b1
  have K2 := n_K2
  have b3 := n_b3
  have K3 := n_K3
  clear n_B n_K1 n_b1 n_K2 n_b3 n_K3
  have b5 := Aside0.mk (blk_new w3 (.cells #[.int .i64 2, .int .i64 1, .int .i64 1, .slice A3 0 d3] 26))
  obtain ⟨z5, z6, z7, z8⟩ := cellsV4 b1.out
  obtain ⟨z9, z10, z11, z12⟩ := cellsV4 b3.out
  obtain ⟨z13, z14, z15, z16⟩ := cellsV4 b5.out
  go_wp2

  go_ret
  exact ⟨rfl, B.out⟩
/-! end by hand -/

end Go.Proofs.Ythhdfefobblmkaa.P
