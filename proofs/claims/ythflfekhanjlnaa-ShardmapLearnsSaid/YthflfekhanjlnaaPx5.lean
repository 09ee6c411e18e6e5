/- Functions that the laws reach, told as plain functions, each with a proof that the call computes it; for every input. Written by a program of ours out of the translation. -/
import Derived.Test.YthflfekhanjlnaaPx0
import Derived.Test.YthflfekhanjlnaaPx3
import Derived.Test.YthflfekhanjlnaaPx4
namespace Go.Proofs.Ythflfekhanjlnaa.P
open Go.RowKit Go.Proofs.YthflfekhanjlnaaW.PrintWords Go.Proofs.YthflfekhanjlnaaW.PrintLast Go.Proofs.YthflfekhanjlnaaW.PrintMore
open Go.Proofs.YthflfekhanjlnaaG (bk_ bl_ rk_)
attribute [local go_sem] max2_int min2_int max_two min_two max_three min_three max_four min_four   -- for this text's walks alone
set_option linter.unusedVariables false
set_option linter.unusedSimpArgs false

/-! ### shardmap_Home: function 9 -/
def shardmap_Home.j0 : Nat → Int → Bool → Int → Int → Option (Int × Int)
 | 0, _, _, _, _ => none
 | k + 1, x1, x13, x109000, x109001 => if x13 = true then (some (0, 1)) else (if x1 = 0 then (none) else (some (Int.tmod x109001 x1, 0)))
def shardmap_Home.f (k : Nat) (a0_0 : Int) (a0_1 : Int) (a1 : Int) : Option (Int × Int) := (shardmap_isKey.f a0_0 a0_1).bind fun t109 => (if t109 = true then ((shardmap_within.f a1 1 4).bind fun t110 => (shardmap_Home.j0 k a1 (!t110) a0_0 a0_1)) else (shardmap_Home.j0 k a1 true a0_0 a0_1))
theorem shardmap_Home.mono_l : ∀ k, (∀ y0 y1 y2 y3, LeO (shardmap_Home.j0 k y0 y1 y2 y3) (shardmap_Home.j0 (k + 1) y0 y1 y2 y3))
 | 0 => fun _ _ _ _ r h => by simp [shardmap_Home.j0] at h
 | k + 1 => by
  have ih0 := shardmap_Home.mono_l k
  ·intro y0 y1 y2 y3
   unfold shardmap_Home.j0
   repeat' first
   | (with_reducible exact ih0 _ _ _ _)
   | (with_reducible exact LeO.refl _)
   | (with_reducible exact LeO.none _)
   | (with_reducible refine LeO.ite ?_ ?_)
   | (with_reducible refine LeO.bind ?_ (fun _ => ?_))
   | exact ih0 _ _ _ _
   | exact LeO.none _
   | refine LeO.ite ?_ ?_
   | refine LeO.bind ?_ (fun _ => ?_)
theorem shardmap_Home.mono : ∀ a0 a1 a2 k, LeO (shardmap_Home.f k a0 a1 a2) (shardmap_Home.f (k + 1) a0 a1 a2) := by
 intro a0 a1 a2 k
 have ih0 := shardmap_Home.mono_l k
 unfold shardmap_Home.f
 repeat' first
   | (with_reducible exact ih0 _ _ _ _)
   | (with_reducible exact LeO.refl _)
   | (with_reducible exact LeO.none _)
   | (with_reducible refine LeO.ite ?_ ?_)
   | (with_reducible refine LeO.bind ?_ (fun _ => ?_))
   | exact ih0 _ _ _ _
   | exact LeO.none _
   | refine LeO.ite ?_ ?_
   | refine LeO.bind ?_ (fun _ => ?_)
set_option maxHeartbeats 8000000 in
set_option maxRecDepth 100000 in
theorem shardmap_Home.calls (k : Nat) (a0_0 : Int) (a0_1 : Int) (a1 : Int) (r1 : Int) (r2 : Int) (w : World) (h : shardmap_Home.f k a0_0 a0_1 a1 = some (r1, r2)) :
  Calls Try.prog 9 #[.agg #[.int .i64 a0_0, .int .i64 a0_1], .int .i64 a1] w fun e w' => e = .returned (.tuple #[.int .i64 r1, .int .i64 r2]) ∧ Below w.heap.size w w' := by
 have hu24 := Try.underlying24
 have HB := Aside0.mk (Below.refl w.heap.size w)
 have H : ((shardmap_isKey.f a0_0 a0_1).bind fun t109 => (if t109 = true then ((shardmap_within.f a1 1 4).bind fun t110 => (shardmap_Home.j0 k a1 (!t110) a0_0 a0_1)) else (shardmap_Home.j0 k a1 true a0_0 a0_1))) = some (r1, r2) := h
 clear h
 have HC3 := Aside0.mk H
 clear H
 go_enter Try.func9, Try.ntmps9
 go_upto_region 1 with (first | ((with_reducible refine gate_dst (N := 2) rfl ?_); refine box_event ?hg (N := 2) ?hd (cs := #[.int .i64 a0_0, .int .i64 a0_1]) (t := 24) ?hr ?_; (case hd => rfl); (case hg => rfl); (case hr => first | (go_simp; done) | (go_simp; rfl)); intro gb108 hg w4 hbox hb; have n0_ := Aside0.mk (below_step (by exact bl_ HB.out) hb); have n1_ := Aside0.mk (hbox); have n2_ := Aside0.mk ((by rw [hg]; exact (below_size (by exact bl_ HB.out)) : w.heap.size ≤ gb108)); have n3_ := Aside0.mk ((by rw [hg]; exact (below_size (by exact bl_ HB.out)) : w.heap.size ≤ gb108)); clear HB; have HB := n0_; have BK108 := n1_; have GW108 := n2_; have GE108 := n3_; clear n0_ n1_ n2_ n3_; clear hb hbox hg))
 (try simp only [Act.put, List.setIfInBounds_toArray, List.set_cons_zero, List.set_cons_succ])
 go_cut [13] (fun v13 wc => ∃ (kq : Nat) (x13_2 : Bool), v13 = .bool x13_2 ∧ Aside0 (shardmap_Home.j0 kq a1 x13_2 a0_0 a0_1 = some (r1, r2)) ∧ Aside0 (kq ≤ k) ∧ Aside0 (wc.heap[gb108]? = some (.cells #[.int .i64 a0_0, .int .i64 a0_1] 24 (0, 0))) ∧ Aside0 (Below w.heap.size w wc))
 case first =>
  have H := HC3.out
  clear HC3
  replace H := Option.bind_eq_some_iff.mp H
  obtain ⟨t109, A50, H⟩ := H
  replace H : (if t109 = true then ((shardmap_within.f a1 1 4).bind fun t110 => (shardmap_Home.j0 k a1 (!t110) a0_0 a0_1)) else (shardmap_Home.j0 k a1 true a0_0 a0_1)) = some (r1, r2) := H
  have A5 := Aside0.mk A50
  clear A50
  by_cases c6 : t109 = true
  ·subst c6
   have H1 : ((shardmap_within.f a1 1 4).bind fun t110 => (shardmap_Home.j0 k a1 (!t110) a0_0 a0_1)) = some (r1, r2) := by rw [if_pos rfl] at H; exact H
   clear H
   have H := H1
   clear H1
   replace H := Option.bind_eq_some_iff.mp H
   obtain ⟨t110, A70, H⟩ := H
   replace H : (shardmap_Home.j0 k a1 (!t110) a0_0 a0_1) = some (r1, r2) := H
   have A7 := Aside0.mk A70
   clear A70
   have H' := Aside0.mk H
   clear H
   have hcz8_0 : w4.cell? ⟨gb108, 0, none⟩ = some (.int .i64 a0_0) := (blk_cell BK108.out 0).trans rfl
   have hcz8_1 : w4.cell? ⟨gb108, 1, none⟩ = some (.int .i64 a0_1) := (blk_cell BK108.out 1).trans rfl
   have hfz8_0 := blk_frozen BK108.out 0
   have hfz8_1 := blk_frozen BK108.out 1
   go_wp2_with (first | ((with_reducible refine gate_callee (f := 17) rfl ?_); refine goesL_ (some 7) rfl rfl Try.func17 (by kernel_rfl) rfl #[.agg #[.int .i64 a0_0, .int .i64 a0_1]] rfl (by (try simp only [List.map_toArray, List.map_cons, List.map_nil]); first | done | rfl | (simp only [List.length_drop, List.length_take]; rfl)) ?_; (with_reducible refine (shardmap_isKey.calls a0_0 a0_1 true _ A5.out).mono ?_); rintro e w9 ⟨rfl, hb⟩; refine ⟨_, rfl, ?_⟩; have n0_ := Aside0.mk (blk_below (g := gb108) (o := .cells #[.int .i64 a0_0, .int .i64 a0_1] 24 (0, 0)) (by exact bk_ BK108.out) hb); have n1_ := Aside0.mk (below_step (by repeat (first | (with_reducible first | exact HB.out | apply below_alloc | apply pw_below_drewN | apply below_drew1 | refine below_set ?_ GE108.out) | exact HB.out)) hb); clear BK108; clear HB; have BK108 := n0_; have HB := n1_; clear n0_ n1_; (try clear hb); (try clear hb2); (try clear hk); (try clear hi)) | (go_at_call 18; (with_reducible refine (shardmap_within.calls a1 1 4 t110 _ A7.out).mono ?_); rintro e w' ⟨rfl, ⟨nd, rfl⟩⟩))
   go_meet
   case rel => exact ⟨_, (!t110), (by first | rfl | (simp; done) | (simp [*]; done)), H', ⟨by first | omega | exact Nat.le_refl _⟩, ⟨by exact bk_ BK108.out⟩, ⟨by repeat (first | (with_reducible first | exact HB.out | apply below_alloc | apply pw_below_drewN | apply below_drew1 | refine below_set ?_ GE108.out) | exact HB.out)⟩⟩
  ·replace c6 := Bool.eq_false_iff.mpr c6
   subst c6
   have H1 : (shardmap_Home.j0 k a1 true a0_0 a0_1) = some (r1, r2) := by rw [if_neg (show ¬ (false = true) by decide)] at H; exact H
   clear H
   have H := H1
   clear H1
   have H' := Aside0.mk H
   clear H
   have hcz10_0 : w4.cell? ⟨gb108, 0, none⟩ = some (.int .i64 a0_0) := (blk_cell BK108.out 0).trans rfl
   have hcz10_1 : w4.cell? ⟨gb108, 1, none⟩ = some (.int .i64 a0_1) := (blk_cell BK108.out 1).trans rfl
   have hfz10_0 := blk_frozen BK108.out 0
   have hfz10_1 := blk_frozen BK108.out 1
   go_wp2_with (first | ((with_reducible refine gate_callee (f := 17) rfl ?_); refine goesL_ (some 7) rfl rfl Try.func17 (by kernel_rfl) rfl #[.agg #[.int .i64 a0_0, .int .i64 a0_1]] rfl (by (try simp only [List.map_toArray, List.map_cons, List.map_nil]); first | done | rfl | (simp only [List.length_drop, List.length_take]; rfl)) ?_; (with_reducible refine (shardmap_isKey.calls a0_0 a0_1 false _ A5.out).mono ?_); rintro e w11 ⟨rfl, hb⟩; refine ⟨_, rfl, ?_⟩; have n0_ := Aside0.mk (blk_below (g := gb108) (o := .cells #[.int .i64 a0_0, .int .i64 a0_1] 24 (0, 0)) (by exact bk_ BK108.out) hb); have n1_ := Aside0.mk (below_step (by repeat (first | (with_reducible first | exact HB.out | apply below_alloc | apply pw_below_drewN | apply below_drew1 | refine below_set ?_ GE108.out) | exact HB.out)) hb); clear BK108; clear HB; have BK108 := n0_; have HB := n1_; clear n0_ n1_; (try clear hb); (try clear hb2); (try clear hk); (try clear hi)))
   go_meet
   case rel => exact ⟨_, (true), (by first | rfl | (simp; done) | (simp [*]; done)), H', ⟨by first | omega | exact Nat.le_refl _⟩, ⟨by exact bk_ BK108.out⟩, ⟨by repeat (first | (with_reducible first | exact HB.out | apply below_alloc | apply pw_below_drewN | apply below_drew1 | refine below_set ?_ GE108.out) | exact HB.out)⟩⟩
 case rest =>
  clear HC3
  try clear c1
  try clear p2
  try clear c6
  try clear c9
  try clear hcz10_0
  try clear hcz10_1
  try clear hcz8_0
  try clear hcz8_1
  try clear hfz10_0
  try clear hfz10_1
  try clear hfz8_0
  try clear hfz8_1
  obtain ⟨kq, x13_2, rfl, HA, HJ2, BK108, HB⟩ := hcut
  cases kq with
  | zero => exact absurd HA.out (by simp [shardmap_Home.j0])
  | succ kj2 =>
   have H := HA.out
   clear HA
   simp only [shardmap_Home.j0] at H
   by_cases c12 : x13_2 = true
   ·subst c12
    have H1 : (some (0, 1)) = some (r1, r2) := by rw [if_pos rfl] at H; exact H
    clear H
    have H := H1
    clear H1
    simp only [Option.some.injEq, Prod.mk.injEq] at H
    obtain ⟨rfl, rfl⟩ := H
    go_wp2
    go_ret2
    exact ⟨by first | rfl | (simp [errW_none, errW_some] <;> rfl) | (simp [*, errW_none, errW_some] <;> rfl), by repeat (first | (with_reducible first | exact HB.out | apply below_alloc | apply pw_below_drewN | apply below_drew1 | refine below_set ?_ GE108.out) | exact HB.out)⟩
   ·replace c12 := Bool.eq_false_iff.mpr c12
    subst c12
    have H1 : (if a1 = 0 then (none) else (some (Int.tmod a0_1 a1, 0))) = some (r1, r2) := by rw [if_neg (show ¬ (false = true) by decide)] at H; exact H
    clear H
    have H := H1
    clear H1
    by_cases c13 : a1 = 0
    ·rw [if_pos c13] at H
     exact absurd H (by simp)
    ·rw [if_neg c13] at H
     have c13b0 : (a1 == 0) = false := beq_eq_false_iff_ne.mpr c13
     have c13b1 : (a1 != 0) = true := bne_iff_ne.mpr c13
     simp only [Option.some.injEq, Prod.mk.injEq] at H
     obtain ⟨rfl, rfl⟩ := H
     have hcz14_0 : wc.cell? ⟨gb108, 0, none⟩ = some (.int .i64 a0_0) := (blk_cell BK108.out 0).trans rfl
     have hcz14_1 : wc.cell? ⟨gb108, 1, none⟩ = some (.int .i64 a0_1) := (blk_cell BK108.out 1).trans rfl
     have hfz14_0 := blk_frozen BK108.out 0
     have hfz14_1 := blk_frozen BK108.out 1
     go_wp2
     go_ret2
     exact ⟨by first | rfl | (simp [errW_none, errW_some] <;> rfl) | (simp [*, errW_none, errW_some] <;> rfl), by repeat (first | (with_reducible first | exact HB.out | apply below_alloc | apply pw_below_drewN | apply below_drew1 | refine below_set ?_ GE108.out) | exact HB.out)⟩

end Go.Proofs.Ythflfekhanjlnaa.P
