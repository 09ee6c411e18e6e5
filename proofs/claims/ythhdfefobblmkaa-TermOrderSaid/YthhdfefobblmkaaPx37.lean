/- Functions that the laws reach, told as plain functions, each with a proof that the call computes it; for every input. Written by a program of ours out of the translation. -/
import Derived.Test.YthhdfefobblmkaaPx0
import Derived.Test.YthhdfefobblmkaaPx2
import Derived.Test.YthhdfefobblmkaaPx4
import Derived.Test.YthhdfefobblmkaaPx30
namespace Go.Proofs.Ythhdfefobblmkaa.P
open Go.RowKit Go.Proofs.YthhdfefobblmkaaW.PrintWords Go.Proofs.YthhdfefobblmkaaW.PrintLast Go.Proofs.YthhdfefobblmkaaW.PrintMore
open Go.Proofs.YthhdfefobblmkaaG (bk_ bl_ rk_)
attribute [local go_sem] max2_int min2_int max_two min_two max_three min_three max_four min_four   -- for this text's walks alone
set_option linter.unusedVariables false
set_option linter.unusedSimpArgs false

attribute [local go_sem high] eqA28
/-! ### rialtolaw07_TermOrder: function 6 -/
def rialtolaw07_TermOrder.j0 : Nat → Bool → Bool → Int → Int → Int → Int → Int → Int → Option (Bool)
 | 0, _, _, _, _, _, _, _, _ => none
 | k + 1, x7, x28, x359000, x359001, x360000, x360001, x361000, x361001 => if x28 = true then (some false) else (if x7 = true then ((term_Less.f x360000 x360001 x361000 x361001).bind fun t363 => (if t363 = true then ((term_Less.f x359000 x359001 x361000 x361001).bind fun t364 => (if t364 = true then ((rialtolaw07_live.f k).bind fun t365 => (some t365)) else (some false))) else ((rialtolaw07_live.f k).bind fun t366 => (some t366)))) else ((rialtolaw07_live.f k).bind fun t367 => (some t367)))
def rialtolaw07_TermOrder.f (k : Nat) (a0_0 : Int) (a0_1 : Int) (a1_0 : Int) (a1_1 : Int) (a2_0 : Int) (a2_1 : Int) : Option (Bool) := (term_Less.f a0_0 a0_1 a1_0 a1_1).bind fun t361 => ((term_Less.f a1_0 a1_1 a0_0 a0_1).bind fun t362 => (if t361 = true then (if t362 = true then (rialtolaw07_TermOrder.j0 k t361 true a0_0 a0_1 a1_0 a1_1 a2_0 a2_1) else (rialtolaw07_TermOrder.j0 k t361 ((!(a0_0 == a1_0) || (!(a0_1 == a1_1))) != true) a0_0 a0_1 a1_0 a1_1 a2_0 a2_1)) else (rialtolaw07_TermOrder.j0 k t361 ((!(a0_0 == a1_0) || (!(a0_1 == a1_1))) != t362) a0_0 a0_1 a1_0 a1_1 a2_0 a2_1)))
theorem rialtolaw07_TermOrder.mono_l : ∀ k, (∀ y0 y1 y2 y3 y4 y5 y6 y7, LeO (rialtolaw07_TermOrder.j0 k y0 y1 y2 y3 y4 y5 y6 y7) (rialtolaw07_TermOrder.j0 (k + 1) y0 y1 y2 y3 y4 y5 y6 y7))
 | 0 => fun _ _ _ _ _ _ _ _ r h => by simp [rialtolaw07_TermOrder.j0] at h
 | k + 1 => by
  have ih0 := rialtolaw07_TermOrder.mono_l k
  ·intro y0 y1 y2 y3 y4 y5 y6 y7
   unfold rialtolaw07_TermOrder.j0
   repeat' first
   | (with_reducible exact ih0 _ _ _ _ _ _ _ _)
   | (with_reducible exact rialtolaw07_live.mono _)
   | (with_reducible exact LeO.refl _)
   | (with_reducible exact LeO.none _)
   | (with_reducible refine LeO.ite ?_ ?_)
   | (with_reducible refine LeO.bind ?_ (fun _ => ?_))
   | exact ih0 _ _ _ _ _ _ _ _
   | exact rialtolaw07_live.mono _
   | exact LeO.none _
   | refine LeO.ite ?_ ?_
   | refine LeO.bind ?_ (fun _ => ?_)
theorem rialtolaw07_TermOrder.mono : ∀ a0 a1 a2 a3 a4 a5 k, LeO (rialtolaw07_TermOrder.f k a0 a1 a2 a3 a4 a5) (rialtolaw07_TermOrder.f (k + 1) a0 a1 a2 a3 a4 a5) := by
 intro a0 a1 a2 a3 a4 a5 k
 have ih0 := rialtolaw07_TermOrder.mono_l k
 unfold rialtolaw07_TermOrder.f
 repeat' first
   | (with_reducible exact ih0 _ _ _ _ _ _ _ _)
   | (with_reducible exact rialtolaw07_live.mono _)
   | (with_reducible exact LeO.refl _)
   | (with_reducible exact LeO.none _)
   | (with_reducible refine LeO.ite ?_ ?_)
   | (with_reducible refine LeO.bind ?_ (fun _ => ?_))
   | exact ih0 _ _ _ _ _ _ _ _
   | exact rialtolaw07_live.mono _
   | exact LeO.none _
   | refine LeO.ite ?_ ?_
   | refine LeO.bind ?_ (fun _ => ?_)
set_option maxHeartbeats 8000000 in
set_option maxRecDepth 100000 in
theorem rialtolaw07_TermOrder.calls (k : Nat) (a0_0 : Int) (a0_1 : Int) (a1_0 : Int) (a1_1 : Int) (a2_0 : Int) (a2_1 : Int) (r : Bool) (w : World) (h : rialtolaw07_TermOrder.f k a0_0 a0_1 a1_0 a1_1 a2_0 a2_1 = some r) :
  Calls Try.prog 6 #[.agg #[.int .i64 a0_0, .int .i64 a0_1], .agg #[.int .i64 a1_0, .int .i64 a1_1], .agg #[.int .i64 a2_0, .int .i64 a2_1]] w fun e w' => e = .returned (.bool r) ∧ Below w.heap.size w w' := by
 have hu28 := Try.underlying28
 have HB := Aside0.mk (Below.refl w.heap.size w)
 have H : ((term_Less.f a0_0 a0_1 a1_0 a1_1).bind fun t361 => ((term_Less.f a1_0 a1_1 a0_0 a0_1).bind fun t362 => (if t361 = true then (if t362 = true then (rialtolaw07_TermOrder.j0 k t361 true a0_0 a0_1 a1_0 a1_1 a2_0 a2_1) else (rialtolaw07_TermOrder.j0 k t361 ((!(a0_0 == a1_0) || (!(a0_1 == a1_1))) != true) a0_0 a0_1 a1_0 a1_1 a2_0 a2_1)) else (rialtolaw07_TermOrder.j0 k t361 ((!(a0_0 == a1_0) || (!(a0_1 == a1_1))) != t362) a0_0 a0_1 a1_0 a1_1 a2_0 a2_1)))) = some r := h
 clear h
 replace H := Option.bind_eq_some_iff.mp H
 obtain ⟨t361, A40, H⟩ := H
 replace H : ((term_Less.f a1_0 a1_1 a0_0 a0_1).bind fun t362 => (if t361 = true then (if t362 = true then (rialtolaw07_TermOrder.j0 k t361 true a0_0 a0_1 a1_0 a1_1 a2_0 a2_1) else (rialtolaw07_TermOrder.j0 k t361 ((!(a0_0 == a1_0) || (!(a0_1 == a1_1))) != true) a0_0 a0_1 a1_0 a1_1 a2_0 a2_1)) else (rialtolaw07_TermOrder.j0 k t361 ((!(a0_0 == a1_0) || (!(a0_1 == a1_1))) != t362) a0_0 a0_1 a1_0 a1_1 a2_0 a2_1))) = some r := H
 have A4 := Aside0.mk A40
 clear A40
 replace H := Option.bind_eq_some_iff.mp H
 obtain ⟨t362, A50, H⟩ := H
 replace H : (if t361 = true then (if t362 = true then (rialtolaw07_TermOrder.j0 k t361 true a0_0 a0_1 a1_0 a1_1 a2_0 a2_1) else (rialtolaw07_TermOrder.j0 k t361 ((!(a0_0 == a1_0) || (!(a0_1 == a1_1))) != true) a0_0 a0_1 a1_0 a1_1 a2_0 a2_1)) else (rialtolaw07_TermOrder.j0 k t361 ((!(a0_0 == a1_0) || (!(a0_1 == a1_1))) != t362) a0_0 a0_1 a1_0 a1_1 a2_0 a2_1)) = some r := H
 have A5 := Aside0.mk A50
 clear A50
 have HC6 := Aside0.mk H
 clear H
 go_enter Try.func6, Try.ntmps6
 go_upto_region 3 with (first | ((with_reducible refine gate_dst (N := 3) rfl ?_); refine box_event ?hg (N := 3) ?hd (cs := #[.int .i64 a0_0, .int .i64 a0_1]) (t := 28) ?hr ?_; (case hd => rfl); (case hg => rfl); (case hr => first | (go_simp; done) | (go_simp; rfl)); intro gb358 hg w7 hbox hb; have n0_ := Aside0.mk (below_step (by exact bl_ HB.out) hb); have n1_ := Aside0.mk (hbox); have n2_ := Aside0.mk ((by rw [hg]; exact (below_size (by exact bl_ HB.out)) : w.heap.size ≤ gb358)); have n3_ := Aside0.mk ((by rw [hg]; exact (below_size (by exact bl_ HB.out)) : w.heap.size ≤ gb358)); clear HB; have HB := n0_; have BK358 := n1_; have GW358 := n2_; have GE358 := n3_; clear n0_ n1_ n2_ n3_; clear hb hbox hg) | ((with_reducible refine gate_dst (N := 4) rfl ?_); refine box_event ?hg (N := 4) ?hd (cs := #[.int .i64 a1_0, .int .i64 a1_1]) (t := 28) ?hr ?_; (case hd => rfl); (case hg => rfl); (case hr => first | (go_simp; done) | (go_simp; rfl)); intro gb359 hg w8 hbox hb; have n0_ := Aside0.mk (blk_below (g := gb358) (o := .cells #[.int .i64 a0_0, .int .i64 a0_1] 28 (0, 0)) (by exact bk_ BK358.out) hb); have n1_ := Aside0.mk (below_step (by repeat (first | (with_reducible first | exact HB.out | apply below_alloc | apply pw_below_drewN | apply below_drew1 | refine below_set ?_ GE358.out) | exact HB.out)) hb); have n2_ := Aside0.mk (hbox); have n3_ := Aside0.mk ((by rw [hg]; exact (below_size (by repeat (first | (with_reducible first | exact HB.out | apply below_alloc | apply pw_below_drewN | apply below_drew1 | refine below_set ?_ GE358.out) | exact HB.out))) : w.heap.size ≤ gb359)); have n4_ := Aside0.mk ((by rw [hg]; exact (below_size (by repeat (first | (with_reducible first | exact HB.out | apply below_alloc | apply pw_below_drewN | apply below_drew1 | refine below_set ?_ GE358.out) | exact HB.out))) : w.heap.size ≤ gb359)); have n5_ := Aside0.mk ((by rw [hg]; exact Nat.ne_of_lt (blk_lt (g := gb358) (o := .cells #[.int .i64 a0_0, .int .i64 a0_1] 28 (0, 0)) (by exact bk_ BK358.out)) : gb358 ≠ gb359)); have n6_ := Aside0.mk ((by rw [hg]; exact Nat.ne_of_gt (blk_lt (g := gb358) (o := .cells #[.int .i64 a0_0, .int .i64 a0_1] 28 (0, 0)) (by exact bk_ BK358.out)) : gb359 ≠ gb358)); clear BK358; clear HB; have BK358 := n0_; have HB := n1_; have BK359 := n2_; have GW359 := n3_; have GE359 := n4_; have NB358_359 := n5_; have NB359_358 := n6_; clear n0_ n1_ n2_ n3_ n4_ n5_ n6_; clear hb hbox hg) | ((with_reducible refine gate_dst (N := 5) rfl ?_); refine box_event ?hg (N := 5) ?hd (cs := #[.int .i64 a2_0, .int .i64 a2_1]) (t := 28) ?hr ?_; (case hd => rfl); (case hg => rfl); (case hr => first | (go_simp; done) | (go_simp; rfl)); intro gb360 hg w9 hbox hb; have n0_ := Aside0.mk (blk_below (g := gb358) (o := .cells #[.int .i64 a0_0, .int .i64 a0_1] 28 (0, 0)) (by exact bk_ BK358.out) hb); have n1_ := Aside0.mk (blk_below (g := gb359) (o := .cells #[.int .i64 a1_0, .int .i64 a1_1] 28 (0, 0)) (by exact bk_ BK359.out) hb); have n2_ := Aside0.mk (below_step (by repeat (first | (with_reducible first | exact HB.out | apply below_alloc | apply pw_below_drewN | apply below_drew1 | refine below_set ?_ GE358.out | refine below_set ?_ GE359.out) | exact HB.out)) hb); have n3_ := Aside0.mk (hbox); have n4_ := Aside0.mk ((by rw [hg]; exact (below_size (by repeat (first | (with_reducible first | exact HB.out | apply below_alloc | apply pw_below_drewN | apply below_drew1 | refine below_set ?_ GE358.out | refine below_set ?_ GE359.out) | exact HB.out))) : w.heap.size ≤ gb360)); have n5_ := Aside0.mk ((by rw [hg]; exact (below_size (by repeat (first | (with_reducible first | exact HB.out | apply below_alloc | apply pw_below_drewN | apply below_drew1 | refine below_set ?_ GE358.out | refine below_set ?_ GE359.out) | exact HB.out))) : w.heap.size ≤ gb360)); have n6_ := Aside0.mk ((by rw [hg]; exact Nat.ne_of_lt (blk_lt (g := gb358) (o := .cells #[.int .i64 a0_0, .int .i64 a0_1] 28 (0, 0)) (by exact bk_ BK358.out)) : gb358 ≠ gb360)); have n7_ := Aside0.mk ((by rw [hg]; exact Nat.ne_of_gt (blk_lt (g := gb358) (o := .cells #[.int .i64 a0_0, .int .i64 a0_1] 28 (0, 0)) (by exact bk_ BK358.out)) : gb360 ≠ gb358)); have n8_ := Aside0.mk ((by rw [hg]; exact Nat.ne_of_lt (blk_lt (g := gb359) (o := .cells #[.int .i64 a1_0, .int .i64 a1_1] 28 (0, 0)) (by exact bk_ BK359.out)) : gb359 ≠ gb360)); have n9_ := Aside0.mk ((by rw [hg]; exact Nat.ne_of_gt (blk_lt (g := gb359) (o := .cells #[.int .i64 a1_0, .int .i64 a1_1] 28 (0, 0)) (by exact bk_ BK359.out)) : gb360 ≠ gb359)); clear BK358; clear BK359; clear HB; have BK358 := n0_; have BK359 := n1_; have HB := n2_; have BK360 := n3_; have GW360 := n4_; have GE360 := n5_; have NB358_360 := n6_; have NB360_358 := n7_; have NB359_360 := n8_; have NB360_359 := n9_; clear n0_ n1_ n2_ n3_ n4_ n5_ n6_ n7_ n8_ n9_; clear hb hbox hg; have hnb10 := NB358_359.out; have hnc10 := NB359_358.out; have hnb11 := NB358_360.out; have hnc11 := NB360_358.out; have hcz12_0 : w9.cell? ⟨gb358, 0, none⟩ = some (.int .i64 a0_0) := (blk_cell BK358.out 0).trans rfl; have hcz12_1 : w9.cell? ⟨gb358, 1, none⟩ = some (.int .i64 a0_1) := (blk_cell BK358.out 1).trans rfl; have hfz12_0 := blk_frozen BK358.out 0; have hfz12_1 := blk_frozen BK358.out 1; have hnb13 := NB359_360.out; have hnc13 := NB360_359.out; have hcz14_0 : w9.cell? ⟨gb359, 0, none⟩ = some (.int .i64 a1_0) := (blk_cell BK359.out 0).trans rfl; have hcz14_1 : w9.cell? ⟨gb359, 1, none⟩ = some (.int .i64 a1_1) := (blk_cell BK359.out 1).trans rfl; have hfz14_0 := blk_frozen BK359.out 0; have hfz14_1 := blk_frozen BK359.out 1) | ((with_reducible refine gate_callee (f := 13) rfl ?_); refine goesL_ (some 11) rfl rfl Try.func13 (by kernel_rfl) rfl #[.agg #[.int .i64 a0_0, .int .i64 a0_1], .agg #[.int .i64 a1_0, .int .i64 a1_1]] rfl (by (try simp only [List.map_toArray, List.map_cons, List.map_nil]); first | done | rfl | (simp only [List.length_drop, List.length_take]; rfl)) ?_; (with_reducible refine (term_Less.calls a0_0 a0_1 a1_0 a1_1 t361 _ A4.out).mono ?_); rintro e w15 ⟨rfl, hb⟩; refine ⟨_, rfl, ?_⟩; have n0_ := Aside0.mk (blk_below (g := gb358) (o := .cells #[.int .i64 a0_0, .int .i64 a0_1] 28 (0, 0)) (by exact bk_ BK358.out) hb); have n1_ := Aside0.mk (blk_below (g := gb359) (o := .cells #[.int .i64 a1_0, .int .i64 a1_1] 28 (0, 0)) (by exact bk_ BK359.out) hb); have n2_ := Aside0.mk (blk_below (g := gb360) (o := .cells #[.int .i64 a2_0, .int .i64 a2_1] 28 (0, 0)) (by exact bk_ BK360.out) hb); have n3_ := Aside0.mk (below_step (by repeat (first | (with_reducible first | exact HB.out | apply below_alloc | apply pw_below_drewN | apply below_drew1 | refine below_set ?_ GE358.out | refine below_set ?_ GE359.out | refine below_set ?_ GE360.out) | exact HB.out)) hb); clear BK358; clear BK359; clear BK360; clear HB; have BK358 := n0_; have BK359 := n1_; have BK360 := n2_; have HB := n3_; clear n0_ n1_ n2_ n3_; (try clear hb); (try clear hb2); (try clear hk); (try clear hi); have hcz16_0 : w15.cell? ⟨gb359, 0, none⟩ = some (.int .i64 a1_0) := (blk_cell BK359.out 0).trans rfl; have hcz16_1 : w15.cell? ⟨gb359, 1, none⟩ = some (.int .i64 a1_1) := (blk_cell BK359.out 1).trans rfl; have hfz16_0 := blk_frozen BK359.out 0; have hfz16_1 := blk_frozen BK359.out 1; have hcz17_0 : w15.cell? ⟨gb358, 0, none⟩ = some (.int .i64 a0_0) := (blk_cell BK358.out 0).trans rfl; have hcz17_1 : w15.cell? ⟨gb358, 1, none⟩ = some (.int .i64 a0_1) := (blk_cell BK358.out 1).trans rfl; have hfz17_0 := blk_frozen BK358.out 0; have hfz17_1 := blk_frozen BK358.out 1) | ((with_reducible refine gate_callee (f := 13) rfl ?_); refine goesL_ (some 14) rfl rfl Try.func13 (by kernel_rfl) rfl #[.agg #[.int .i64 a1_0, .int .i64 a1_1], .agg #[.int .i64 a0_0, .int .i64 a0_1]] rfl (by (try simp only [List.map_toArray, List.map_cons, List.map_nil]); first | done | rfl | (simp only [List.length_drop, List.length_take]; rfl)) ?_; (with_reducible refine (term_Less.calls a1_0 a1_1 a0_0 a0_1 t362 _ A5.out).mono ?_); rintro e w18 ⟨rfl, hb⟩; refine ⟨_, rfl, ?_⟩; have n0_ := Aside0.mk (blk_below (g := gb358) (o := .cells #[.int .i64 a0_0, .int .i64 a0_1] 28 (0, 0)) (by exact bk_ BK358.out) hb); have n1_ := Aside0.mk (blk_below (g := gb359) (o := .cells #[.int .i64 a1_0, .int .i64 a1_1] 28 (0, 0)) (by exact bk_ BK359.out) hb); have n2_ := Aside0.mk (blk_below (g := gb360) (o := .cells #[.int .i64 a2_0, .int .i64 a2_1] 28 (0, 0)) (by exact bk_ BK360.out) hb); have n3_ := Aside0.mk (below_step (by repeat (first | (with_reducible first | exact HB.out | apply below_alloc | apply pw_below_drewN | apply below_drew1 | refine below_set ?_ GE358.out | refine below_set ?_ GE359.out | refine below_set ?_ GE360.out) | exact HB.out)) hb); clear BK358; clear BK359; clear BK360; clear HB; have BK358 := n0_; have BK359 := n1_; have BK360 := n2_; have HB := n3_; clear n0_ n1_ n2_ n3_; (try clear hb); (try clear hb2); (try clear hk); (try clear hi)))
 (try simp only [Act.put, List.setIfInBounds_toArray, List.set_cons_zero, List.set_cons_succ])
 go_cut [28] (fun v28 wc => ∃ (kq : Nat) (x28_5 : Bool), v28 = .bool x28_5 ∧ Aside0 (rialtolaw07_TermOrder.j0 kq t361 x28_5 a0_0 a0_1 a1_0 a1_1 a2_0 a2_1 = some r) ∧ Aside0 (kq ≤ k) ∧ Aside0 (wc.heap[gb358]? = some (.cells #[.int .i64 a0_0, .int .i64 a0_1] 28 (0, 0))) ∧ Aside0 (wc.heap[gb359]? = some (.cells #[.int .i64 a1_0, .int .i64 a1_1] 28 (0, 0))) ∧ Aside0 (wc.heap[gb360]? = some (.cells #[.int .i64 a2_0, .int .i64 a2_1] 28 (0, 0))) ∧ Aside0 (Below w.heap.size w wc))
 case first =>
  have H := HC6.out
  clear HC6
  by_cases c19 : t361 = true
  ·subst c19
   have H1 : (if t362 = true then (rialtolaw07_TermOrder.j0 k true true a0_0 a0_1 a1_0 a1_1 a2_0 a2_1) else (rialtolaw07_TermOrder.j0 k true ((!(a0_0 == a1_0) || (!(a0_1 == a1_1))) != true) a0_0 a0_1 a1_0 a1_1 a2_0 a2_1)) = some r := by rw [if_pos rfl] at H; exact H
   clear H
   have H := H1
   clear H1
   by_cases c20 : t362 = true
   ·subst c20
    have H1 : (rialtolaw07_TermOrder.j0 k true true a0_0 a0_1 a1_0 a1_1 a2_0 a2_1) = some r := by rw [if_pos rfl] at H; exact H
    clear H
    have H := H1
    clear H1
    have H' := Aside0.mk H
    clear H
    go_wp2
    go_meet
    case rel => exact ⟨_, (true), (by first | rfl | (simp; done) | (simp [*]; done)), H', ⟨by first | omega | exact Nat.le_refl _⟩, ⟨by exact bk_ BK358.out⟩, ⟨by exact bk_ BK359.out⟩, ⟨by exact bk_ BK360.out⟩, ⟨by repeat (first | (with_reducible first | exact HB.out | apply below_alloc | apply pw_below_drewN | apply below_drew1 | refine below_set ?_ GE358.out | refine below_set ?_ GE359.out | refine below_set ?_ GE360.out) | exact HB.out)⟩⟩
   ·replace c20 := Bool.eq_false_iff.mpr c20
    subst c20
    have H1 : (rialtolaw07_TermOrder.j0 k true ((!(a0_0 == a1_0) || (!(a0_1 == a1_1))) != true) a0_0 a0_1 a1_0 a1_1 a2_0 a2_1) = some r := by rw [if_neg (show ¬ (false = true) by decide)] at H; exact H
    clear H
    have H := H1
    clear H1
    have H' := Aside0.mk H
    clear H
    have hnb21 := NB358_359.out
    have hnc21 := NB359_358.out
    have hnb22 := NB358_360.out
    have hnc22 := NB360_358.out
    have hcz23_0 : w18.cell? ⟨gb358, 0, none⟩ = some (.int .i64 a0_0) := (blk_cell BK358.out 0).trans rfl
    have hcz23_1 : w18.cell? ⟨gb358, 1, none⟩ = some (.int .i64 a0_1) := (blk_cell BK358.out 1).trans rfl
    have hfz23_0 := blk_frozen BK358.out 0
    have hfz23_1 := blk_frozen BK358.out 1
    have hnb24 := NB359_360.out
    have hnc24 := NB360_359.out
    have hcz25_0 : w18.cell? ⟨gb359, 0, none⟩ = some (.int .i64 a1_0) := (blk_cell BK359.out 0).trans rfl
    have hcz25_1 : w18.cell? ⟨gb359, 1, none⟩ = some (.int .i64 a1_1) := (blk_cell BK359.out 1).trans rfl
    have hfz25_0 := blk_frozen BK359.out 0
    have hfz25_1 := blk_frozen BK359.out 1
    go_wp2
    go_meet
    case rel => exact ⟨_, (((!(a0_0 == a1_0) || (!(a0_1 == a1_1))) != true)), (by first | rfl | (simp; done) | (simp [*]; done)), H', ⟨by first | omega | exact Nat.le_refl _⟩, ⟨by exact bk_ BK358.out⟩, ⟨by exact bk_ BK359.out⟩, ⟨by exact bk_ BK360.out⟩, ⟨by repeat (first | (with_reducible first | exact HB.out | apply below_alloc | apply pw_below_drewN | apply below_drew1 | refine below_set ?_ GE358.out | refine below_set ?_ GE359.out | refine below_set ?_ GE360.out) | exact HB.out)⟩⟩
  ·replace c19 := Bool.eq_false_iff.mpr c19
   subst c19
   have H1 : (rialtolaw07_TermOrder.j0 k false ((!(a0_0 == a1_0) || (!(a0_1 == a1_1))) != t362) a0_0 a0_1 a1_0 a1_1 a2_0 a2_1) = some r := by rw [if_neg (show ¬ (false = true) by decide)] at H; exact H
   clear H
   have H := H1
   clear H1
   have H' := Aside0.mk H
   clear H
   have hnb26 := NB358_359.out
   have hnc26 := NB359_358.out
   have hnb27 := NB358_360.out
   have hnc27 := NB360_358.out
   have hcz28_0 : w18.cell? ⟨gb358, 0, none⟩ = some (.int .i64 a0_0) := (blk_cell BK358.out 0).trans rfl
   have hcz28_1 : w18.cell? ⟨gb358, 1, none⟩ = some (.int .i64 a0_1) := (blk_cell BK358.out 1).trans rfl
   have hfz28_0 := blk_frozen BK358.out 0
   have hfz28_1 := blk_frozen BK358.out 1
   have hnb29 := NB359_360.out
   have hnc29 := NB360_359.out
   have hcz30_0 : w18.cell? ⟨gb359, 0, none⟩ = some (.int .i64 a1_0) := (blk_cell BK359.out 0).trans rfl
   have hcz30_1 : w18.cell? ⟨gb359, 1, none⟩ = some (.int .i64 a1_1) := (blk_cell BK359.out 1).trans rfl
   have hfz30_0 := blk_frozen BK359.out 0
   have hfz30_1 := blk_frozen BK359.out 1
   go_wp2
   go_meet
   case rel => exact ⟨_, (((!(a0_0 == a1_0) || (!(a0_1 == a1_1))) != t362)), (by first | rfl | (simp; done) | (simp [*]; done)), H', ⟨by first | omega | exact Nat.le_refl _⟩, ⟨by exact bk_ BK358.out⟩, ⟨by exact bk_ BK359.out⟩, ⟨by exact bk_ BK360.out⟩, ⟨by repeat (first | (with_reducible first | exact HB.out | apply below_alloc | apply pw_below_drewN | apply below_drew1 | refine below_set ?_ GE358.out | refine below_set ?_ GE359.out | refine below_set ?_ GE360.out) | exact HB.out)⟩⟩
 case rest =>
  clear HC6
  try clear c1
  try clear c2
  try clear p2
  try clear c6
  try clear c10
  try clear c11
  try clear c13
  try clear c19
  try clear c20
  try clear c21
  try clear c22
  try clear c24
  try clear c26
  try clear c27
  try clear c29
  try clear hcz12_0
  try clear hcz12_1
  try clear hcz14_0
  try clear hcz14_1
  try clear hcz16_0
  try clear hcz16_1
  try clear hcz17_0
  try clear hcz17_1
  try clear hcz23_0
  try clear hcz23_1
  try clear hcz25_0
  try clear hcz25_1
  try clear hcz28_0
  try clear hcz28_1
  try clear hcz30_0
  try clear hcz30_1
  try clear hfz12_0
  try clear hfz12_1
  try clear hfz14_0
  try clear hfz14_1
  try clear hfz16_0
  try clear hfz16_1
  try clear hfz17_0
  try clear hfz17_1
  try clear hfz23_0
  try clear hfz23_1
  try clear hfz25_0
  try clear hfz25_1
  try clear hfz28_0
  try clear hfz28_1
  try clear hfz30_0
  try clear hfz30_1
  obtain ⟨kq, x28_5, rfl, HA, HJ5, BK358, BK359, BK360, HB⟩ := hcut
  cases kq with
  | zero => exact absurd HA.out (by simp [rialtolaw07_TermOrder.j0])
  | succ kj5 =>
   have H := HA.out
   clear HA
   simp only [rialtolaw07_TermOrder.j0] at H
   by_cases c31 : x28_5 = true
   ·subst c31
    have H1 : (some false) = some r := by rw [if_pos rfl] at H; exact H
    clear H
    have H := H1
    clear H1
    obtain rfl := Option.some.inj H
    go_wp2
    go_ret
    exact ⟨by first | rfl | (simp [errW_none, errW_some] <;> rfl) | (simp [*, errW_none, errW_some] <;> rfl), by repeat (first | (with_reducible first | exact HB.out | apply below_alloc | apply pw_below_drewN | apply below_drew1 | refine below_set ?_ GE358.out | refine below_set ?_ GE359.out | refine below_set ?_ GE360.out) | exact HB.out)⟩
   ·replace c31 := Bool.eq_false_iff.mpr c31
    subst c31
    have H1 : (if t361 = true then ((term_Less.f a1_0 a1_1 a2_0 a2_1).bind fun t363 => (if t363 = true then ((term_Less.f a0_0 a0_1 a2_0 a2_1).bind fun t364 => (if t364 = true then ((rialtolaw07_live.f kj5).bind fun t365 => (some t365)) else (some false))) else ((rialtolaw07_live.f kj5).bind fun t366 => (some t366)))) else ((rialtolaw07_live.f kj5).bind fun t367 => (some t367))) = some r := by rw [if_neg (show ¬ (false = true) by decide)] at H; exact H
    clear H
    have H := H1
    clear H1
    by_cases c32 : t361 = true
    ·subst c32
     have H1 : ((term_Less.f a1_0 a1_1 a2_0 a2_1).bind fun t363 => (if t363 = true then ((term_Less.f a0_0 a0_1 a2_0 a2_1).bind fun t364 => (if t364 = true then ((rialtolaw07_live.f kj5).bind fun t365 => (some t365)) else (some false))) else ((rialtolaw07_live.f kj5).bind fun t366 => (some t366)))) = some r := by rw [if_pos rfl] at H; exact H
     clear H
     have H := H1
     clear H1
     replace H := Option.bind_eq_some_iff.mp H
     obtain ⟨t363, A330, H⟩ := H
     replace H : (if t363 = true then ((term_Less.f a0_0 a0_1 a2_0 a2_1).bind fun t364 => (if t364 = true then ((rialtolaw07_live.f kj5).bind fun t365 => (some t365)) else (some false))) else ((rialtolaw07_live.f kj5).bind fun t366 => (some t366))) = some r := H
     have A33 := Aside0.mk A330
     clear A330
     by_cases c34 : t363 = true
     ·subst c34
      have H1 : ((term_Less.f a0_0 a0_1 a2_0 a2_1).bind fun t364 => (if t364 = true then ((rialtolaw07_live.f kj5).bind fun t365 => (some t365)) else (some false))) = some r := by rw [if_pos rfl] at H; exact H
      clear H
      have H := H1
      clear H1
      replace H := Option.bind_eq_some_iff.mp H
      obtain ⟨t364, A350, H⟩ := H
      replace H : (if t364 = true then ((rialtolaw07_live.f kj5).bind fun t365 => (some t365)) else (some false)) = some r := H
      have A35 := Aside0.mk A350
      clear A350
      by_cases c36 : t364 = true
      ·subst c36
       have H1 : ((rialtolaw07_live.f kj5).bind fun t365 => (some t365)) = some r := by rw [if_pos rfl] at H; exact H
       clear H
       have H := H1
       clear H1
       replace H := Option.bind_eq_some_iff.mp H
       obtain ⟨t365, A370, H⟩ := H
       replace H : (some t365) = some r := H
       have A37 := Aside0.mk A370
       clear A370
       obtain rfl := Option.some.inj H
       have hnb38 := NB359_358.out
       have hnc38 := NB358_359.out
       have hnb39 := NB359_360.out
       have hnc39 := NB360_359.out
       have hcz40_0 : wc.cell? ⟨gb359, 0, none⟩ = some (.int .i64 a1_0) := (blk_cell BK359.out 0).trans rfl
       have hcz40_1 : wc.cell? ⟨gb359, 1, none⟩ = some (.int .i64 a1_1) := (blk_cell BK359.out 1).trans rfl
       have hfz40_0 := blk_frozen BK359.out 0
       have hfz40_1 := blk_frozen BK359.out 1
       have hnb41 := NB360_358.out
       have hnc41 := NB358_360.out
       have hcz42_0 : wc.cell? ⟨gb360, 0, none⟩ = some (.int .i64 a2_0) := (blk_cell BK360.out 0).trans rfl
       have hcz42_1 : wc.cell? ⟨gb360, 1, none⟩ = some (.int .i64 a2_1) := (blk_cell BK360.out 1).trans rfl
       have hfz42_0 := blk_frozen BK360.out 0
       have hfz42_1 := blk_frozen BK360.out 1
       go_wp2_with (first | (go_at_call 13; (with_reducible refine (term_Less.calls a1_0 a1_1 a2_0 a2_1 true _ A33.out).mono ?_); rintro e w43 ⟨rfl, hb⟩; have n0_ := Aside0.mk (blk_below (g := gb358) (o := .cells #[.int .i64 a0_0, .int .i64 a0_1] 28 (0, 0)) (by exact bk_ BK358.out) hb); have n1_ := Aside0.mk (blk_below (g := gb359) (o := .cells #[.int .i64 a1_0, .int .i64 a1_1] 28 (0, 0)) (by exact bk_ BK359.out) hb); have n2_ := Aside0.mk (blk_below (g := gb360) (o := .cells #[.int .i64 a2_0, .int .i64 a2_1] 28 (0, 0)) (by exact bk_ BK360.out) hb); have n3_ := Aside0.mk (below_step (by repeat (first | (with_reducible first | exact HB.out | apply below_alloc | apply pw_below_drewN | apply below_drew1 | refine below_set ?_ GE358.out | refine below_set ?_ GE359.out | refine below_set ?_ GE360.out) | exact HB.out)) hb); clear BK358; clear BK359; clear BK360; clear HB; have BK358 := n0_; have BK359 := n1_; have BK360 := n2_; have HB := n3_; clear n0_ n1_ n2_ n3_; (try clear hb); (try clear hb2); (try clear hk); (try clear hi); have hcz44_0 : w43.cell? ⟨gb358, 0, none⟩ = some (.int .i64 a0_0) := (blk_cell BK358.out 0).trans rfl; have hcz44_1 : w43.cell? ⟨gb358, 1, none⟩ = some (.int .i64 a0_1) := (blk_cell BK358.out 1).trans rfl; have hfz44_0 := blk_frozen BK358.out 0; have hfz44_1 := blk_frozen BK358.out 1; have hcz45_0 : w43.cell? ⟨gb360, 0, none⟩ = some (.int .i64 a2_0) := (blk_cell BK360.out 0).trans rfl; have hcz45_1 : w43.cell? ⟨gb360, 1, none⟩ = some (.int .i64 a2_1) := (blk_cell BK360.out 1).trans rfl; have hfz45_0 := blk_frozen BK360.out 0; have hfz45_1 := blk_frozen BK360.out 1) | (go_at_call 13; (with_reducible refine (term_Less.calls a0_0 a0_1 a2_0 a2_1 true _ A35.out).mono ?_); rintro e w46 ⟨rfl, hb⟩; have n0_ := Aside0.mk (blk_below (g := gb358) (o := .cells #[.int .i64 a0_0, .int .i64 a0_1] 28 (0, 0)) (by exact bk_ BK358.out) hb); have n1_ := Aside0.mk (blk_below (g := gb359) (o := .cells #[.int .i64 a1_0, .int .i64 a1_1] 28 (0, 0)) (by exact bk_ BK359.out) hb); have n2_ := Aside0.mk (blk_below (g := gb360) (o := .cells #[.int .i64 a2_0, .int .i64 a2_1] 28 (0, 0)) (by exact bk_ BK360.out) hb); have n3_ := Aside0.mk (below_step (by repeat (first | (with_reducible first | exact HB.out | apply below_alloc | apply pw_below_drewN | apply below_drew1 | refine below_set ?_ GE358.out | refine below_set ?_ GE359.out | refine below_set ?_ GE360.out) | exact HB.out)) hb); clear BK358; clear BK359; clear BK360; clear HB; have BK358 := n0_; have BK359 := n1_; have BK360 := n2_; have HB := n3_; clear n0_ n1_ n2_ n3_; (try clear hb); (try clear hb2); (try clear hk); (try clear hi)) | (go_at_call 16; (with_reducible refine (rialtolaw07_live.calls kj5  t365 _ A37.out).mono ?_); rintro e w47 ⟨rfl, hb⟩; have n0_ := Aside0.mk (blk_below (g := gb358) (o := .cells #[.int .i64 a0_0, .int .i64 a0_1] 28 (0, 0)) (by exact bk_ BK358.out) hb); have n1_ := Aside0.mk (blk_below (g := gb359) (o := .cells #[.int .i64 a1_0, .int .i64 a1_1] 28 (0, 0)) (by exact bk_ BK359.out) hb); have n2_ := Aside0.mk (blk_below (g := gb360) (o := .cells #[.int .i64 a2_0, .int .i64 a2_1] 28 (0, 0)) (by exact bk_ BK360.out) hb); have n3_ := Aside0.mk (below_step (by repeat (first | (with_reducible first | exact HB.out | apply below_alloc | apply pw_below_drewN | apply below_drew1 | refine below_set ?_ GE358.out | refine below_set ?_ GE359.out | refine below_set ?_ GE360.out) | exact HB.out)) hb); clear BK358; clear BK359; clear BK360; clear HB; have BK358 := n0_; have BK359 := n1_; have BK360 := n2_; have HB := n3_; clear n0_ n1_ n2_ n3_; (try clear hb); (try clear hb2); (try clear hk); (try clear hi)))
       go_ret
       exact ⟨by first | rfl | (simp [errW_none, errW_some] <;> rfl) | (simp [*, errW_none, errW_some] <;> rfl), by repeat (first | (with_reducible first | exact HB.out | apply below_alloc | apply pw_below_drewN | apply below_drew1 | refine below_set ?_ GE358.out | refine below_set ?_ GE359.out | refine below_set ?_ GE360.out) | exact HB.out)⟩
      ·replace c36 := Bool.eq_false_iff.mpr c36
       subst c36
       have H1 : (some false) = some r := by rw [if_neg (show ¬ (false = true) by decide)] at H; exact H
       clear H
       have H := H1
       clear H1
       obtain rfl := Option.some.inj H
       have hnb48 := NB359_358.out
       have hnc48 := NB358_359.out
       have hnb49 := NB359_360.out
       have hnc49 := NB360_359.out
       have hcz50_0 : wc.cell? ⟨gb359, 0, none⟩ = some (.int .i64 a1_0) := (blk_cell BK359.out 0).trans rfl
       have hcz50_1 : wc.cell? ⟨gb359, 1, none⟩ = some (.int .i64 a1_1) := (blk_cell BK359.out 1).trans rfl
       have hfz50_0 := blk_frozen BK359.out 0
       have hfz50_1 := blk_frozen BK359.out 1
       have hnb51 := NB360_358.out
       have hnc51 := NB358_360.out
       have hcz52_0 : wc.cell? ⟨gb360, 0, none⟩ = some (.int .i64 a2_0) := (blk_cell BK360.out 0).trans rfl
       have hcz52_1 : wc.cell? ⟨gb360, 1, none⟩ = some (.int .i64 a2_1) := (blk_cell BK360.out 1).trans rfl
       have hfz52_0 := blk_frozen BK360.out 0
       have hfz52_1 := blk_frozen BK360.out 1
       go_wp2_with (first | (go_at_call 13; (with_reducible refine (term_Less.calls a1_0 a1_1 a2_0 a2_1 true _ A33.out).mono ?_); rintro e w53 ⟨rfl, hb⟩; have n0_ := Aside0.mk (blk_below (g := gb358) (o := .cells #[.int .i64 a0_0, .int .i64 a0_1] 28 (0, 0)) (by exact bk_ BK358.out) hb); have n1_ := Aside0.mk (blk_below (g := gb359) (o := .cells #[.int .i64 a1_0, .int .i64 a1_1] 28 (0, 0)) (by exact bk_ BK359.out) hb); have n2_ := Aside0.mk (blk_below (g := gb360) (o := .cells #[.int .i64 a2_0, .int .i64 a2_1] 28 (0, 0)) (by exact bk_ BK360.out) hb); have n3_ := Aside0.mk (below_step (by repeat (first | (with_reducible first | exact HB.out | apply below_alloc | apply pw_below_drewN | apply below_drew1 | refine below_set ?_ GE358.out | refine below_set ?_ GE359.out | refine below_set ?_ GE360.out) | exact HB.out)) hb); clear BK358; clear BK359; clear BK360; clear HB; have BK358 := n0_; have BK359 := n1_; have BK360 := n2_; have HB := n3_; clear n0_ n1_ n2_ n3_; (try clear hb); (try clear hb2); (try clear hk); (try clear hi); have hcz54_0 : w53.cell? ⟨gb358, 0, none⟩ = some (.int .i64 a0_0) := (blk_cell BK358.out 0).trans rfl; have hcz54_1 : w53.cell? ⟨gb358, 1, none⟩ = some (.int .i64 a0_1) := (blk_cell BK358.out 1).trans rfl; have hfz54_0 := blk_frozen BK358.out 0; have hfz54_1 := blk_frozen BK358.out 1; have hcz55_0 : w53.cell? ⟨gb360, 0, none⟩ = some (.int .i64 a2_0) := (blk_cell BK360.out 0).trans rfl; have hcz55_1 : w53.cell? ⟨gb360, 1, none⟩ = some (.int .i64 a2_1) := (blk_cell BK360.out 1).trans rfl; have hfz55_0 := blk_frozen BK360.out 0; have hfz55_1 := blk_frozen BK360.out 1) | (go_at_call 13; (with_reducible refine (term_Less.calls a0_0 a0_1 a2_0 a2_1 false _ A35.out).mono ?_); rintro e w56 ⟨rfl, hb⟩; have n0_ := Aside0.mk (blk_below (g := gb358) (o := .cells #[.int .i64 a0_0, .int .i64 a0_1] 28 (0, 0)) (by exact bk_ BK358.out) hb); have n1_ := Aside0.mk (blk_below (g := gb359) (o := .cells #[.int .i64 a1_0, .int .i64 a1_1] 28 (0, 0)) (by exact bk_ BK359.out) hb); have n2_ := Aside0.mk (blk_below (g := gb360) (o := .cells #[.int .i64 a2_0, .int .i64 a2_1] 28 (0, 0)) (by exact bk_ BK360.out) hb); have n3_ := Aside0.mk (below_step (by repeat (first | (with_reducible first | exact HB.out | apply below_alloc | apply pw_below_drewN | apply below_drew1 | refine below_set ?_ GE358.out | refine below_set ?_ GE359.out | refine below_set ?_ GE360.out) | exact HB.out)) hb); clear BK358; clear BK359; clear BK360; clear HB; have BK358 := n0_; have BK359 := n1_; have BK360 := n2_; have HB := n3_; clear n0_ n1_ n2_ n3_; (try clear hb); (try clear hb2); (try clear hk); (try clear hi)))
       go_ret
       exact ⟨by first | rfl | (simp [errW_none, errW_some] <;> rfl) | (simp [*, errW_none, errW_some] <;> rfl), by repeat (first | (with_reducible first | exact HB.out | apply below_alloc | apply pw_below_drewN | apply below_drew1 | refine below_set ?_ GE358.out | refine below_set ?_ GE359.out | refine below_set ?_ GE360.out) | exact HB.out)⟩
     ·replace c34 := Bool.eq_false_iff.mpr c34
      subst c34
      have H1 : ((rialtolaw07_live.f kj5).bind fun t366 => (some t366)) = some r := by rw [if_neg (show ¬ (false = true) by decide)] at H; exact H
      clear H
      have H := H1
      clear H1
      replace H := Option.bind_eq_some_iff.mp H
      obtain ⟨t366, A570, H⟩ := H
      replace H : (some t366) = some r := H
      have A57 := Aside0.mk A570
      clear A570
      obtain rfl := Option.some.inj H
      have hnb58 := NB359_358.out
      have hnc58 := NB358_359.out
      have hnb59 := NB359_360.out
      have hnc59 := NB360_359.out
      have hcz60_0 : wc.cell? ⟨gb359, 0, none⟩ = some (.int .i64 a1_0) := (blk_cell BK359.out 0).trans rfl
      have hcz60_1 : wc.cell? ⟨gb359, 1, none⟩ = some (.int .i64 a1_1) := (blk_cell BK359.out 1).trans rfl
      have hfz60_0 := blk_frozen BK359.out 0
      have hfz60_1 := blk_frozen BK359.out 1
      have hnb61 := NB360_358.out
      have hnc61 := NB358_360.out
      have hcz62_0 : wc.cell? ⟨gb360, 0, none⟩ = some (.int .i64 a2_0) := (blk_cell BK360.out 0).trans rfl
      have hcz62_1 : wc.cell? ⟨gb360, 1, none⟩ = some (.int .i64 a2_1) := (blk_cell BK360.out 1).trans rfl
      have hfz62_0 := blk_frozen BK360.out 0
      have hfz62_1 := blk_frozen BK360.out 1
      go_wp2_with (first | (go_at_call 13; (with_reducible refine (term_Less.calls a1_0 a1_1 a2_0 a2_1 false _ A33.out).mono ?_); rintro e w63 ⟨rfl, hb⟩; have n0_ := Aside0.mk (blk_below (g := gb358) (o := .cells #[.int .i64 a0_0, .int .i64 a0_1] 28 (0, 0)) (by exact bk_ BK358.out) hb); have n1_ := Aside0.mk (blk_below (g := gb359) (o := .cells #[.int .i64 a1_0, .int .i64 a1_1] 28 (0, 0)) (by exact bk_ BK359.out) hb); have n2_ := Aside0.mk (blk_below (g := gb360) (o := .cells #[.int .i64 a2_0, .int .i64 a2_1] 28 (0, 0)) (by exact bk_ BK360.out) hb); have n3_ := Aside0.mk (below_step (by repeat (first | (with_reducible first | exact HB.out | apply below_alloc | apply pw_below_drewN | apply below_drew1 | refine below_set ?_ GE358.out | refine below_set ?_ GE359.out | refine below_set ?_ GE360.out) | exact HB.out)) hb); clear BK358; clear BK359; clear BK360; clear HB; have BK358 := n0_; have BK359 := n1_; have BK360 := n2_; have HB := n3_; clear n0_ n1_ n2_ n3_; (try clear hb); (try clear hb2); (try clear hk); (try clear hi)) | (go_at_call 16; (with_reducible refine (rialtolaw07_live.calls kj5  t366 _ A57.out).mono ?_); rintro e w64 ⟨rfl, hb⟩; have n0_ := Aside0.mk (blk_below (g := gb358) (o := .cells #[.int .i64 a0_0, .int .i64 a0_1] 28 (0, 0)) (by exact bk_ BK358.out) hb); have n1_ := Aside0.mk (blk_below (g := gb359) (o := .cells #[.int .i64 a1_0, .int .i64 a1_1] 28 (0, 0)) (by exact bk_ BK359.out) hb); have n2_ := Aside0.mk (blk_below (g := gb360) (o := .cells #[.int .i64 a2_0, .int .i64 a2_1] 28 (0, 0)) (by exact bk_ BK360.out) hb); have n3_ := Aside0.mk (below_step (by repeat (first | (with_reducible first | exact HB.out | apply below_alloc | apply pw_below_drewN | apply below_drew1 | refine below_set ?_ GE358.out | refine below_set ?_ GE359.out | refine below_set ?_ GE360.out) | exact HB.out)) hb); clear BK358; clear BK359; clear BK360; clear HB; have BK358 := n0_; have BK359 := n1_; have BK360 := n2_; have HB := n3_; clear n0_ n1_ n2_ n3_; (try clear hb); (try clear hb2); (try clear hk); (try clear hi)))
      go_ret
      exact ⟨by first | rfl | (simp [errW_none, errW_some] <;> rfl) | (simp [*, errW_none, errW_some] <;> rfl), by repeat (first | (with_reducible first | exact HB.out | apply below_alloc | apply pw_below_drewN | apply below_drew1 | refine below_set ?_ GE358.out | refine below_set ?_ GE359.out | refine below_set ?_ GE360.out) | exact HB.out)⟩
    ·replace c32 := Bool.eq_false_iff.mpr c32
     subst c32
     have H1 : ((rialtolaw07_live.f kj5).bind fun t367 => (some t367)) = some r := by rw [if_neg (show ¬ (false = true) by decide)] at H; exact H
     clear H
     have H := H1
     clear H1
     replace H := Option.bind_eq_some_iff.mp H
     obtain ⟨t367, A650, H⟩ := H
     replace H : (some t367) = some r := H
     have A65 := Aside0.mk A650
     clear A650
     obtain rfl := Option.some.inj H
     go_wp2_with (first | (go_at_call 16; (with_reducible refine (rialtolaw07_live.calls kj5  t367 _ A65.out).mono ?_); rintro e w66 ⟨rfl, hb⟩; have n0_ := Aside0.mk (blk_below (g := gb358) (o := .cells #[.int .i64 a0_0, .int .i64 a0_1] 28 (0, 0)) (by exact bk_ BK358.out) hb); have n1_ := Aside0.mk (blk_below (g := gb359) (o := .cells #[.int .i64 a1_0, .int .i64 a1_1] 28 (0, 0)) (by exact bk_ BK359.out) hb); have n2_ := Aside0.mk (blk_below (g := gb360) (o := .cells #[.int .i64 a2_0, .int .i64 a2_1] 28 (0, 0)) (by exact bk_ BK360.out) hb); have n3_ := Aside0.mk (below_step (by repeat (first | (with_reducible first | exact HB.out | apply below_alloc | apply pw_below_drewN | apply below_drew1 | refine below_set ?_ GE358.out | refine below_set ?_ GE359.out | refine below_set ?_ GE360.out) | exact HB.out)) hb); clear BK358; clear BK359; clear BK360; clear HB; have BK358 := n0_; have BK359 := n1_; have BK360 := n2_; have HB := n3_; clear n0_ n1_ n2_ n3_; (try clear hb); (try clear hb2); (try clear hk); (try clear hi)))
     go_ret
     exact ⟨by first | rfl | (simp [errW_none, errW_some] <;> rfl) | (simp [*, errW_none, errW_some] <;> rfl), by repeat (first | (with_reducible first | exact HB.out | apply below_alloc | apply pw_below_drewN | apply below_drew1 | refine below_set ?_ GE358.out | refine below_set ?_ GE359.out | refine below_set ?_ GE360.out) | exact HB.out)⟩

open Go.Proofs.YthhdfefobblmkaaG
def B28_TermOrder (x : S28) : Prop := ((Lit.int .i64 x.f0).wf = true) ∧ ((Lit.int .i64 x.f1).wf = true)
theorem opens28_TermOrder : Opens Try.prog k28 28 B28_TermOrder := opens_struct (g := fun y => (⟨y.1, y.2⟩ : S28)) Try.underlying28 (by kernel_rfl) (fun _ => rfl) (opensL_cons rfl (by kernel_rfl) (opens_int Try.underlying3) (opensL_one rfl (by kernel_rfl) (opens_int Try.underlying3)))
/-- THE PURE STATEMENT of rialtolaw07_TermOrder. -/
def rialtolaw07_TermOrder.Pure : Prop := ∀ (x0 : S28) (x1 : S28) (x2 : S28), (B28_TermOrder x0) → (B28_TermOrder x1) → (B28_TermOrder x2) → ∃ k, rialtolaw07_TermOrder.f k x0.f0 x0.f1 x1.f0 x1.f1 x2.f0 x2.f1 = some true

end Go.Proofs.Ythhdfefobblmkaa.P
