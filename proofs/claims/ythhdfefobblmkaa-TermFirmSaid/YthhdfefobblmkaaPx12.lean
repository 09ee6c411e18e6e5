/- Functions that the laws reach, told as plain functions, each with a proof that the call computes it; for every input. Written by a program of ours out of the translation. -/
import Derived.Test.YthhdfefobblmkaaPx0
import Derived.Test.YthhdfefobblmkaaPx4
import Derived.Test.YthhdfefobblmkaaPx8
import Derived.Test.YthhdfefobblmkaaPx9
import Derived.Test.YthhdfefobblmkaaPx11
namespace Go.Proofs.Ythhdfefobblmkaa.P
open Go.RowKit Go.Proofs.YthhdfefobblmkaaW.PrintWords Go.Proofs.YthhdfefobblmkaaW.PrintLast Go.Proofs.YthhdfefobblmkaaW.PrintMore
open Go.Proofs.YthhdfefobblmkaaG (bk_ bl_ rk_)
attribute [local go_sem] max2_int min2_int max_two min_two max_three min_three max_four min_four   -- for this text's walks alone
set_option linter.unusedVariables false
set_option linter.unusedSimpArgs false

/-! ### term_Grant: function 10 -/
mutual
def term_Grant.j0 : Nat → Bool → Int → Int → Int → List Int → Int → Int → Int → Int → Int → Int → Option (Int × Int × Int × List Int × Bool × Int)
 | 0, _, _, _, _, _, _, _, _, _, _, _ => none
 | k + 1, x16, x125000, x125001, x125002, x125003, x126000, x126001, x126002, x126003, x127000, x127001 => if x16 = true then (some (0, 0, 0, ([] : List Int), false, 1)) else ((term_ballot_heard.f x125000 x125001 x125002 x125003 x126001).bind fun bt133 => (if bt133.2.1 = 0 then (term_Grant.j1 k true x126000 x126001 x126002 x126003 x127000 x127001 bt133.1 bt133.2.1 bt133.2.2.1 bt133.2.2.2) else (term_Grant.j1 k (bt133.2.1 == x126000) x126000 x126001 x126002 x126003 x127000 x127001 bt133.1 bt133.2.1 bt133.2.2.1 bt133.2.2.2)))
def term_Grant.j1 : Nat → Bool → Int → Int → Int → Int → Int → Int → Int → Int → Int → List Int → Option (Int × Int × Int × List Int × Bool × Int)
 | 0, _, _, _, _, _, _, _, _, _, _, _ => none
 | k + 1, x10, x126000, x126001, x126002, x126003, x127000, x127001, x140000, x140001, x140002, x140003 => if x140000 > x126001 then (term_Grant.j2 k true x126000 x126001 x126002 x126003 x140000 x140001 x140002 x140003) else (if x140002 = 1 then (if x10 = true then ((term_Less.f x126002 x126003 x127000 x127001).bind fun t140 => (term_Grant.j2 k t140 x126000 x126001 x126002 x126003 x140000 x140001 x140002 x140003)) else (term_Grant.j2 k true x126000 x126001 x126002 x126003 x140000 x140001 x140002 x140003)) else (term_Grant.j2 k true x126000 x126001 x126002 x126003 x140000 x140001 x140002 x140003))
def term_Grant.j2 : Nat → Bool → Int → Int → Int → Int → Int → Int → Int → List Int → Option (Int × Int × Int × List Int × Bool × Int)
 | 0, _, _, _, _, _, _, _, _, _ => none
 | k + 1, x75, x126000, x126001, x126002, x126003, x140000, x140001, x140002, x140003 => if x75 = true then (some (x140000, x140001, x140002, x140003, false, 0)) else (some (x140000, x126000, x140002, x140003, true, 0))
end
def term_Grant.f (k : Nat) (a0_0 : Int) (a0_1 : Int) (a0_2 : Int) (l0_3 : List Int) (a1_0 : Int) (a1_1 : Int) (a1_2 : Int) (a1_3 : Int) (a2_0 : Int) (a2_1 : Int) : Option (Int × Int × Int × List Int × Bool × Int) := (term_ballot_fine.f k a0_0 a0_1 a0_2 l0_3).bind fun t128 => (if t128 = true then ((term_within.f a1_0 1 7).bind fun t129 => (if t129 = true then ((term_within.f a1_1 1 1000000).bind fun t130 => (if t130 = true then ((term_isMark.f a1_2 a1_3).bind fun t131 => (if t131 = true then ((term_isMark.f a2_0 a2_1).bind fun t132 => (term_Grant.j0 k (!t132) a0_0 a0_1 a0_2 l0_3 a1_0 a1_1 a1_2 a1_3 a2_0 a2_1)) else (term_Grant.j0 k true a0_0 a0_1 a0_2 l0_3 a1_0 a1_1 a1_2 a1_3 a2_0 a2_1))) else (term_Grant.j0 k true a0_0 a0_1 a0_2 l0_3 a1_0 a1_1 a1_2 a1_3 a2_0 a2_1))) else (term_Grant.j0 k true a0_0 a0_1 a0_2 l0_3 a1_0 a1_1 a1_2 a1_3 a2_0 a2_1))) else (some (0, 0, 0, ([] : List Int), false, 70)))
theorem term_Grant.mono_l : ∀ k, (∀ y0 y1 y2 y3 y4 y5 y6 y7 y8 y9 y10, LeO (term_Grant.j0 k y0 y1 y2 y3 y4 y5 y6 y7 y8 y9 y10) (term_Grant.j0 (k + 1) y0 y1 y2 y3 y4 y5 y6 y7 y8 y9 y10)) ∧ (∀ y0 y1 y2 y3 y4 y5 y6 y7 y8 y9 y10, LeO (term_Grant.j1 k y0 y1 y2 y3 y4 y5 y6 y7 y8 y9 y10) (term_Grant.j1 (k + 1) y0 y1 y2 y3 y4 y5 y6 y7 y8 y9 y10)) ∧ (∀ y0 y1 y2 y3 y4 y5 y6 y7 y8, LeO (term_Grant.j2 k y0 y1 y2 y3 y4 y5 y6 y7 y8) (term_Grant.j2 (k + 1) y0 y1 y2 y3 y4 y5 y6 y7 y8))
 | 0 => ⟨fun _ _ _ _ _ _ _ _ _ _ _ r h => by simp [term_Grant.j0] at h, fun _ _ _ _ _ _ _ _ _ _ _ r h => by simp [term_Grant.j1] at h, fun _ _ _ _ _ _ _ _ _ r h => by simp [term_Grant.j2] at h⟩
 | k + 1 => by
  obtain ⟨ih0, ih1, ih2⟩ := term_Grant.mono_l k
  refine ⟨?_, ?_, ?_⟩
  ·intro y0 y1 y2 y3 y4 y5 y6 y7 y8 y9 y10
   unfold term_Grant.j0
   repeat' first
   | (with_reducible exact ih0 _ _ _ _ _ _ _ _ _ _ _)
   | (with_reducible exact ih1 _ _ _ _ _ _ _ _ _ _ _)
   | (with_reducible exact ih2 _ _ _ _ _ _ _ _ _)
   | (with_reducible exact term_ballot_fine.mono _ _ _ _ _)
   | (with_reducible exact LeO.refl _)
   | (with_reducible exact LeO.none _)
   | (with_reducible refine LeO.ite ?_ ?_)
   | (with_reducible refine LeO.bind ?_ (fun _ => ?_))
   | exact ih0 _ _ _ _ _ _ _ _ _ _ _
   | exact ih1 _ _ _ _ _ _ _ _ _ _ _
   | exact ih2 _ _ _ _ _ _ _ _ _
   | exact term_ballot_fine.mono _ _ _ _ _
   | exact LeO.none _
   | refine LeO.ite ?_ ?_
   | refine LeO.bind ?_ (fun _ => ?_)
  ·intro y0 y1 y2 y3 y4 y5 y6 y7 y8 y9 y10
   unfold term_Grant.j1
   repeat' first
   | (with_reducible exact ih0 _ _ _ _ _ _ _ _ _ _ _)
   | (with_reducible exact ih1 _ _ _ _ _ _ _ _ _ _ _)
   | (with_reducible exact ih2 _ _ _ _ _ _ _ _ _)
   | (with_reducible exact term_ballot_fine.mono _ _ _ _ _)
   | (with_reducible exact LeO.refl _)
   | (with_reducible exact LeO.none _)
   | (with_reducible refine LeO.ite ?_ ?_)
   | (with_reducible refine LeO.bind ?_ (fun _ => ?_))
   | exact ih0 _ _ _ _ _ _ _ _ _ _ _
   | exact ih1 _ _ _ _ _ _ _ _ _ _ _
   | exact ih2 _ _ _ _ _ _ _ _ _
   | exact term_ballot_fine.mono _ _ _ _ _
   | exact LeO.none _
   | refine LeO.ite ?_ ?_
   | refine LeO.bind ?_ (fun _ => ?_)
  ·intro y0 y1 y2 y3 y4 y5 y6 y7 y8
   unfold term_Grant.j2
   repeat' first
   | (with_reducible exact ih0 _ _ _ _ _ _ _ _ _ _ _)
   | (with_reducible exact ih1 _ _ _ _ _ _ _ _ _ _ _)
   | (with_reducible exact ih2 _ _ _ _ _ _ _ _ _)
   | (with_reducible exact term_ballot_fine.mono _ _ _ _ _)
   | (with_reducible exact LeO.refl _)
   | (with_reducible exact LeO.none _)
   | (with_reducible refine LeO.ite ?_ ?_)
   | (with_reducible refine LeO.bind ?_ (fun _ => ?_))
   | exact ih0 _ _ _ _ _ _ _ _ _ _ _
   | exact ih1 _ _ _ _ _ _ _ _ _ _ _
   | exact ih2 _ _ _ _ _ _ _ _ _
   | exact term_ballot_fine.mono _ _ _ _ _
   | exact LeO.none _
   | refine LeO.ite ?_ ?_
   | refine LeO.bind ?_ (fun _ => ?_)
theorem term_Grant.mono : ∀ a0 a1 a2 a3 a4 a5 a6 a7 a8 a9 k, LeO (term_Grant.f k a0 a1 a2 a3 a4 a5 a6 a7 a8 a9) (term_Grant.f (k + 1) a0 a1 a2 a3 a4 a5 a6 a7 a8 a9) := by
 intro a0 a1 a2 a3 a4 a5 a6 a7 a8 a9 k
 obtain ⟨ih0, ih1, ih2⟩ := term_Grant.mono_l k
 unfold term_Grant.f
 repeat' first
   | (with_reducible exact ih0 _ _ _ _ _ _ _ _ _ _ _)
   | (with_reducible exact ih1 _ _ _ _ _ _ _ _ _ _ _)
   | (with_reducible exact ih2 _ _ _ _ _ _ _ _ _)
   | (with_reducible exact term_ballot_fine.mono _ _ _ _ _)
   | (with_reducible exact LeO.refl _)
   | (with_reducible exact LeO.none _)
   | (with_reducible refine LeO.ite ?_ ?_)
   | (with_reducible refine LeO.bind ?_ (fun _ => ?_))
   | exact ih0 _ _ _ _ _ _ _ _ _ _ _
   | exact ih1 _ _ _ _ _ _ _ _ _ _ _
   | exact ih2 _ _ _ _ _ _ _ _ _
   | exact term_ballot_fine.mono _ _ _ _ _
   | exact LeO.none _
   | refine LeO.ite ?_ ?_
   | refine LeO.bind ?_ (fun _ => ?_)
set_option maxHeartbeats 8000000 in
set_option maxRecDepth 100000 in
theorem term_Grant.calls (k : Nat) (a0_0 : Int) (a0_1 : Int) (a0_2 : Int) (A0_3 : Option Addr) (c0_3 : Nat) (l0_3 : List Int) (a1_0 : Int) (a1_1 : Int) (a1_2 : Int) (a1_3 : Int) (a2_0 : Int) (a2_1 : Int) (r1 : Int) (r2 : Int) (r3 : Int) (r4 : List Int) (r5 : Bool) (r6 : Int) (w : World) (hr0_3 : Kd.C (Kd.int .i64) w A0_3 l0_3.length l0_3) (hc0_3 : l0_3.length ≤ c0_3) (h : term_Grant.f k a0_0 a0_1 a0_2 l0_3 a1_0 a1_1 a1_2 a1_3 a2_0 a2_1 = some (r1, r2, r3, r4, r5, r6)) :
  Calls Try.prog 10 #[.agg #[.int .i64 a0_0, .int .i64 a0_1, .int .i64 a0_2, .slice A0_3 l0_3.length c0_3], .agg #[.int .i64 a1_0, .int .i64 a1_1, .int .i64 a1_2, .int .i64 a1_3], .agg #[.int .i64 a2_0, .int .i64 a2_1]] w fun e w' => ∃ v3_ : Value, e = .returned (.tuple #[.agg #[.int .i64 r1, .int .i64 r2, .int .i64 r3, v3_], .bool r5, .int .i64 r6]) ∧ Kd.R (Kd.int .i64) 3 w' w.heap.size (fun _ => True) v3_ r4 ∧ Below w.heap.size w w' := by
 have hu26 := Try.underlying26
 have hu30 := Try.underlying30
 have hu28 := Try.underlying28
 have HR0_3 := Aside0.mk hr0_3
 have HC0_3 := Aside0.mk hc0_3
 clear hr0_3 hc0_3
 have HB := Aside0.mk (Below.refl w.heap.size w)
 have H : ((term_ballot_fine.f k a0_0 a0_1 a0_2 l0_3).bind fun t128 => (if t128 = true then ((term_within.f a1_0 1 7).bind fun t129 => (if t129 = true then ((term_within.f a1_1 1 1000000).bind fun t130 => (if t130 = true then ((term_isMark.f a1_2 a1_3).bind fun t131 => (if t131 = true then ((term_isMark.f a2_0 a2_1).bind fun t132 => (term_Grant.j0 k (!t132) a0_0 a0_1 a0_2 l0_3 a1_0 a1_1 a1_2 a1_3 a2_0 a2_1)) else (term_Grant.j0 k true a0_0 a0_1 a0_2 l0_3 a1_0 a1_1 a1_2 a1_3 a2_0 a2_1))) else (term_Grant.j0 k true a0_0 a0_1 a0_2 l0_3 a1_0 a1_1 a1_2 a1_3 a2_0 a2_1))) else (term_Grant.j0 k true a0_0 a0_1 a0_2 l0_3 a1_0 a1_1 a1_2 a1_3 a2_0 a2_1))) else (some (0, 0, 0, ([] : List Int), false, 70)))) = some (r1, r2, r3, r4, r5, r6) := h
 clear h
 replace H := Option.bind_eq_some_iff.mp H
 obtain ⟨t128, A40, H⟩ := H
 replace H : (if t128 = true then ((term_within.f a1_0 1 7).bind fun t129 => (if t129 = true then ((term_within.f a1_1 1 1000000).bind fun t130 => (if t130 = true then ((term_isMark.f a1_2 a1_3).bind fun t131 => (if t131 = true then ((term_isMark.f a2_0 a2_1).bind fun t132 => (term_Grant.j0 k (!t132) a0_0 a0_1 a0_2 l0_3 a1_0 a1_1 a1_2 a1_3 a2_0 a2_1)) else (term_Grant.j0 k true a0_0 a0_1 a0_2 l0_3 a1_0 a1_1 a1_2 a1_3 a2_0 a2_1))) else (term_Grant.j0 k true a0_0 a0_1 a0_2 l0_3 a1_0 a1_1 a1_2 a1_3 a2_0 a2_1))) else (term_Grant.j0 k true a0_0 a0_1 a0_2 l0_3 a1_0 a1_1 a1_2 a1_3 a2_0 a2_1))) else (some (0, 0, 0, ([] : List Int), false, 70))) = some (r1, r2, r3, r4, r5, r6) := H
 have A4 := Aside0.mk A40
 clear A40
 by_cases c5 : t128 = true
 ·subst c5
  have H1 : ((term_within.f a1_0 1 7).bind fun t129 => (if t129 = true then ((term_within.f a1_1 1 1000000).bind fun t130 => (if t130 = true then ((term_isMark.f a1_2 a1_3).bind fun t131 => (if t131 = true then ((term_isMark.f a2_0 a2_1).bind fun t132 => (term_Grant.j0 k (!t132) a0_0 a0_1 a0_2 l0_3 a1_0 a1_1 a1_2 a1_3 a2_0 a2_1)) else (term_Grant.j0 k true a0_0 a0_1 a0_2 l0_3 a1_0 a1_1 a1_2 a1_3 a2_0 a2_1))) else (term_Grant.j0 k true a0_0 a0_1 a0_2 l0_3 a1_0 a1_1 a1_2 a1_3 a2_0 a2_1))) else (term_Grant.j0 k true a0_0 a0_1 a0_2 l0_3 a1_0 a1_1 a1_2 a1_3 a2_0 a2_1))) = some (r1, r2, r3, r4, r5, r6) := by rw [if_pos rfl] at H; exact H
  clear H
  have H := H1
  clear H1
  have HC6 := Aside0.mk H
  clear H
  go_enter Try.func10, Try.ntmps10
  go_upto_region 3 with (first | ((with_reducible refine gate_dst (N := 3) rfl ?_); refine box_event ?hg (N := 3) ?hd (cs := #[.int .i64 a0_0, .int .i64 a0_1, .int .i64 a0_2, .slice A0_3 l0_3.length c0_3]) (t := 26) ?hr ?_; (case hd => rfl); (case hg => rfl); (case hr => first | (go_simp; done) | (go_simp; rfl)); intro gb124 hg w7 hbox hb; have n0_ := Aside0.mk (below_step (by exact bl_ HB.out) hb); have n1_ := Aside0.mk (hbox); have n2_ := Aside0.mk ((by rw [hg]; exact (below_size (by exact bl_ HB.out)) : w.heap.size ≤ gb124)); have n3_ := Aside0.mk ((by rw [hg]; exact (below_size (by exact bl_ HB.out)) : w.heap.size ≤ gb124)); clear HB; have HB := n0_; have BK124 := n1_; have GW124 := n2_; have GE124 := n3_; clear n0_ n1_ n2_ n3_; clear hb hbox hg) | ((with_reducible refine gate_dst (N := 4) rfl ?_); refine box_event ?hg (N := 4) ?hd (cs := #[.int .i64 a1_0, .int .i64 a1_1, .int .i64 a1_2, .int .i64 a1_3]) (t := 30) ?hr ?_; (case hd => rfl); (case hg => rfl); (case hr => first | (go_simp; done) | (go_simp; rfl)); intro gb125 hg w8 hbox hb; have n0_ := Aside0.mk (blk_below (g := gb124) (o := .cells #[.int .i64 a0_0, .int .i64 a0_1, .int .i64 a0_2, .slice A0_3 l0_3.length c0_3] 26 (0, 0)) (by exact bk_ BK124.out) hb); have n1_ := Aside0.mk (below_step (by repeat (first | (with_reducible first | exact HB.out | apply below_alloc | apply pw_below_drewN | apply below_drew1 | refine below_set ?_ GE124.out) | exact HB.out)) hb); have n2_ := Aside0.mk (hbox); have n3_ := Aside0.mk ((by rw [hg]; exact (below_size (by repeat (first | (with_reducible first | exact HB.out | apply below_alloc | apply pw_below_drewN | apply below_drew1 | refine below_set ?_ GE124.out) | exact HB.out))) : w.heap.size ≤ gb125)); have n4_ := Aside0.mk ((by rw [hg]; exact (below_size (by repeat (first | (with_reducible first | exact HB.out | apply below_alloc | apply pw_below_drewN | apply below_drew1 | refine below_set ?_ GE124.out) | exact HB.out))) : w.heap.size ≤ gb125)); have n5_ := Aside0.mk ((by rw [hg]; exact Nat.ne_of_lt (blk_lt (g := gb124) (o := .cells #[.int .i64 a0_0, .int .i64 a0_1, .int .i64 a0_2, .slice A0_3 l0_3.length c0_3] 26 (0, 0)) (by exact bk_ BK124.out)) : gb124 ≠ gb125)); have n6_ := Aside0.mk ((by rw [hg]; exact Nat.ne_of_gt (blk_lt (g := gb124) (o := .cells #[.int .i64 a0_0, .int .i64 a0_1, .int .i64 a0_2, .slice A0_3 l0_3.length c0_3] 26 (0, 0)) (by exact bk_ BK124.out)) : gb125 ≠ gb124)); clear BK124; clear HB; have BK124 := n0_; have HB := n1_; have BK125 := n2_; have GW125 := n3_; have GE125 := n4_; have NB124_125 := n5_; have NB125_124 := n6_; clear n0_ n1_ n2_ n3_ n4_ n5_ n6_; clear hb hbox hg) | ((with_reducible refine gate_dst (N := 5) rfl ?_); refine box_event ?hg (N := 5) ?hd (cs := #[.int .i64 a2_0, .int .i64 a2_1]) (t := 28) ?hr ?_; (case hd => rfl); (case hg => rfl); (case hr => first | (go_simp; done) | (go_simp; rfl)); intro gb126 hg w9 hbox hb; have n0_ := Aside0.mk (blk_below (g := gb124) (o := .cells #[.int .i64 a0_0, .int .i64 a0_1, .int .i64 a0_2, .slice A0_3 l0_3.length c0_3] 26 (0, 0)) (by exact bk_ BK124.out) hb); have n1_ := Aside0.mk (blk_below (g := gb125) (o := .cells #[.int .i64 a1_0, .int .i64 a1_1, .int .i64 a1_2, .int .i64 a1_3] 30 (0, 0)) (by exact bk_ BK125.out) hb); have n2_ := Aside0.mk (below_step (by repeat (first | (with_reducible first | exact HB.out | apply below_alloc | apply pw_below_drewN | apply below_drew1 | refine below_set ?_ GE124.out | refine below_set ?_ GE125.out) | exact HB.out)) hb); have n3_ := Aside0.mk (hbox); have n4_ := Aside0.mk ((by rw [hg]; exact (below_size (by repeat (first | (with_reducible first | exact HB.out | apply below_alloc | apply pw_below_drewN | apply below_drew1 | refine below_set ?_ GE124.out | refine below_set ?_ GE125.out) | exact HB.out))) : w.heap.size ≤ gb126)); have n5_ := Aside0.mk ((by rw [hg]; exact (below_size (by repeat (first | (with_reducible first | exact HB.out | apply below_alloc | apply pw_below_drewN | apply below_drew1 | refine below_set ?_ GE124.out | refine below_set ?_ GE125.out) | exact HB.out))) : w.heap.size ≤ gb126)); have n6_ := Aside0.mk ((by rw [hg]; exact Nat.ne_of_lt (blk_lt (g := gb124) (o := .cells #[.int .i64 a0_0, .int .i64 a0_1, .int .i64 a0_2, .slice A0_3 l0_3.length c0_3] 26 (0, 0)) (by exact bk_ BK124.out)) : gb124 ≠ gb126)); have n7_ := Aside0.mk ((by rw [hg]; exact Nat.ne_of_gt (blk_lt (g := gb124) (o := .cells #[.int .i64 a0_0, .int .i64 a0_1, .int .i64 a0_2, .slice A0_3 l0_3.length c0_3] 26 (0, 0)) (by exact bk_ BK124.out)) : gb126 ≠ gb124)); have n8_ := Aside0.mk ((by rw [hg]; exact Nat.ne_of_lt (blk_lt (g := gb125) (o := .cells #[.int .i64 a1_0, .int .i64 a1_1, .int .i64 a1_2, .int .i64 a1_3] 30 (0, 0)) (by exact bk_ BK125.out)) : gb125 ≠ gb126)); have n9_ := Aside0.mk ((by rw [hg]; exact Nat.ne_of_gt (blk_lt (g := gb125) (o := .cells #[.int .i64 a1_0, .int .i64 a1_1, .int .i64 a1_2, .int .i64 a1_3] 30 (0, 0)) (by exact bk_ BK125.out)) : gb126 ≠ gb125)); clear BK124; clear BK125; clear HB; have BK124 := n0_; have BK125 := n1_; have HB := n2_; have BK126 := n3_; have GW126 := n4_; have GE126 := n5_; have NB124_126 := n6_; have NB126_124 := n7_; have NB125_126 := n8_; have NB126_125 := n9_; clear n0_ n1_ n2_ n3_ n4_ n5_ n6_ n7_ n8_ n9_; clear hb hbox hg) | ((with_reducible refine gate_dst (N := 6) rfl ?_); refine box_event ?hg (N := 6) ?hd (cs := #[.int .i64 0, .int .i64 0, .int .i64 0, .slice none 0 0]) (t := 26) ?hr ?_; (case hd => rfl); (case hg => rfl); (case hr => first | (go_simp; done) | (go_simp; rfl)); intro gb127 hg w10 hbox hb; have n0_ := Aside0.mk (blk_below (g := gb124) (o := .cells #[.int .i64 a0_0, .int .i64 a0_1, .int .i64 a0_2, .slice A0_3 l0_3.length c0_3] 26 (0, 0)) (by exact bk_ BK124.out) hb); have n1_ := Aside0.mk (blk_below (g := gb125) (o := .cells #[.int .i64 a1_0, .int .i64 a1_1, .int .i64 a1_2, .int .i64 a1_3] 30 (0, 0)) (by exact bk_ BK125.out) hb); have n2_ := Aside0.mk (blk_below (g := gb126) (o := .cells #[.int .i64 a2_0, .int .i64 a2_1] 28 (0, 0)) (by exact bk_ BK126.out) hb); have n3_ := Aside0.mk (below_step (by repeat (first | (with_reducible first | exact HB.out | apply below_alloc | apply pw_below_drewN | apply below_drew1 | refine below_set ?_ GE124.out | refine below_set ?_ GE125.out | refine below_set ?_ GE126.out) | exact HB.out)) hb); have n4_ := Aside0.mk (hbox); have n5_ := Aside0.mk ((by rw [hg]; exact (below_size (by repeat (first | (with_reducible first | exact HB.out | apply below_alloc | apply pw_below_drewN | apply below_drew1 | refine below_set ?_ GE124.out | refine below_set ?_ GE125.out | refine below_set ?_ GE126.out) | exact HB.out))) : w.heap.size ≤ gb127)); have n6_ := Aside0.mk ((by rw [hg]; exact (below_size (by repeat (first | (with_reducible first | exact HB.out | apply below_alloc | apply pw_below_drewN | apply below_drew1 | refine below_set ?_ GE124.out | refine below_set ?_ GE125.out | refine below_set ?_ GE126.out) | exact HB.out))) : w.heap.size ≤ gb127)); have n7_ := Aside0.mk ((by rw [hg]; exact Nat.ne_of_lt (blk_lt (g := gb124) (o := .cells #[.int .i64 a0_0, .int .i64 a0_1, .int .i64 a0_2, .slice A0_3 l0_3.length c0_3] 26 (0, 0)) (by exact bk_ BK124.out)) : gb124 ≠ gb127)); have n8_ := Aside0.mk ((by rw [hg]; exact Nat.ne_of_gt (blk_lt (g := gb124) (o := .cells #[.int .i64 a0_0, .int .i64 a0_1, .int .i64 a0_2, .slice A0_3 l0_3.length c0_3] 26 (0, 0)) (by exact bk_ BK124.out)) : gb127 ≠ gb124)); have n9_ := Aside0.mk ((by rw [hg]; exact Nat.ne_of_lt (blk_lt (g := gb125) (o := .cells #[.int .i64 a1_0, .int .i64 a1_1, .int .i64 a1_2, .int .i64 a1_3] 30 (0, 0)) (by exact bk_ BK125.out)) : gb125 ≠ gb127)); have n10_ := Aside0.mk ((by rw [hg]; exact Nat.ne_of_gt (blk_lt (g := gb125) (o := .cells #[.int .i64 a1_0, .int .i64 a1_1, .int .i64 a1_2, .int .i64 a1_3] 30 (0, 0)) (by exact bk_ BK125.out)) : gb127 ≠ gb125)); have n11_ := Aside0.mk ((by rw [hg]; exact Nat.ne_of_lt (blk_lt (g := gb126) (o := .cells #[.int .i64 a2_0, .int .i64 a2_1] 28 (0, 0)) (by exact bk_ BK126.out)) : gb126 ≠ gb127)); have n12_ := Aside0.mk ((by rw [hg]; exact Nat.ne_of_gt (blk_lt (g := gb126) (o := .cells #[.int .i64 a2_0, .int .i64 a2_1] 28 (0, 0)) (by exact bk_ BK126.out)) : gb127 ≠ gb126)); clear BK124; clear BK125; clear BK126; clear HB; have BK124 := n0_; have BK125 := n1_; have BK126 := n2_; have HB := n3_; have BK127 := n4_; have GW127 := n5_; have GE127 := n6_; have NB124_127 := n7_; have NB127_124 := n8_; have NB125_127 := n9_; have NB127_125 := n10_; have NB126_127 := n11_; have NB127_126 := n12_; clear n0_ n1_ n2_ n3_ n4_ n5_ n6_ n7_ n8_ n9_ n10_ n11_ n12_; clear hb hbox hg; have hnb11 := NB124_125.out; have hnc11 := NB125_124.out; have hnb12 := NB124_126.out; have hnc12 := NB126_124.out; have hnb13 := NB124_127.out; have hnc13 := NB127_124.out; have hcz14_0 : w10.cell? ⟨gb124, 0, none⟩ = some (.int .i64 a0_0) := (blk_cell BK124.out 0).trans rfl; have hcz14_1 : w10.cell? ⟨gb124, 1, none⟩ = some (.int .i64 a0_1) := (blk_cell BK124.out 1).trans rfl; have hcz14_2 : w10.cell? ⟨gb124, 2, none⟩ = some (.int .i64 a0_2) := (blk_cell BK124.out 2).trans rfl; have hcz14_3 : w10.cell? ⟨gb124, 3, none⟩ = some (.slice A0_3 l0_3.length c0_3) := (blk_cell BK124.out 3).trans rfl; have hfz14_0 := blk_frozen BK124.out 0; have hfz14_1 := blk_frozen BK124.out 1; have hfz14_2 := blk_frozen BK124.out 2; have hfz14_3 := blk_frozen BK124.out 3) | ((with_reducible refine gate_callee (f := 24) rfl ?_); refine goesL_ (some 13) rfl rfl Try.func24 (by kernel_rfl) rfl #[.agg #[.int .i64 a0_0, .int .i64 a0_1, .int .i64 a0_2, .slice A0_3 l0_3.length c0_3]] rfl (by (try simp only [List.map_toArray, List.map_cons, List.map_nil]); first | done | rfl | (simp only [List.length_drop, List.length_take]; rfl)) ?_; (with_reducible refine (term_ballot_fine.calls k a0_0 a0_1 a0_2 _ _ l0_3 true _ ?side1 ?side2 A4.out).mono ?_); (case side1 => repeat (first | exact (Kd.C_below HR0_3.out HB.out) | (with_reducible refine Kd.C_alloc ?_ _) | (with_reducible refine Kd.C_drewN ?_ _) | (with_reducible refine Kd.C_drew ?_))); (case side2 => exact HC0_3.out); rintro e w15 ⟨rfl, hb⟩; refine ⟨_, rfl, ?_⟩; have n0_ := Aside0.mk (blk_below (g := gb124) (o := .cells #[.int .i64 a0_0, .int .i64 a0_1, .int .i64 a0_2, .slice A0_3 l0_3.length c0_3] 26 (0, 0)) (by exact bk_ BK124.out) hb); have n1_ := Aside0.mk (blk_below (g := gb125) (o := .cells #[.int .i64 a1_0, .int .i64 a1_1, .int .i64 a1_2, .int .i64 a1_3] 30 (0, 0)) (by exact bk_ BK125.out) hb); have n2_ := Aside0.mk (blk_below (g := gb126) (o := .cells #[.int .i64 a2_0, .int .i64 a2_1] 28 (0, 0)) (by exact bk_ BK126.out) hb); have n3_ := Aside0.mk (blk_below (g := gb127) (o := .cells #[.int .i64 0, .int .i64 0, .int .i64 0, .slice none 0 0] 26 (0, 0)) (by exact bk_ BK127.out) hb); have n4_ := Aside0.mk (below_step (by repeat (first | (with_reducible first | exact HB.out | apply below_alloc | apply pw_below_drewN | apply below_drew1 | refine below_set ?_ GE124.out | refine below_set ?_ GE125.out | refine below_set ?_ GE126.out | refine below_set ?_ GE127.out) | exact HB.out)) hb); clear BK124; clear BK125; clear BK126; clear BK127; clear HB; have BK124 := n0_; have BK125 := n1_; have BK126 := n2_; have BK127 := n3_; have HB := n4_; clear n0_ n1_ n2_ n3_ n4_; (try clear hb); (try clear hb2); (try clear hk); (try clear hi)))
  (try simp only [Act.put, List.setIfInBounds_toArray, List.set_cons_zero, List.set_cons_succ])
  go_cut [16] (fun v16 wc => ∃ (kq : Nat) (x16_5 : Bool), v16 = .bool x16_5 ∧ Aside0 (term_Grant.j0 kq x16_5 a0_0 a0_1 a0_2 l0_3 a1_0 a1_1 a1_2 a1_3 a2_0 a2_1 = some (r1, r2, r3, r4, r5, r6)) ∧ Aside0 (kq ≤ k) ∧ Aside0 (wc.heap[gb124]? = some (.cells #[.int .i64 a0_0, .int .i64 a0_1, .int .i64 a0_2, (.slice A0_3 l0_3.length c0_3)] 26 (0, 0))) ∧ Aside0 (wc.heap[gb125]? = some (.cells #[.int .i64 a1_0, .int .i64 a1_1, .int .i64 a1_2, .int .i64 a1_3] 30 (0, 0))) ∧ Aside0 (wc.heap[gb126]? = some (.cells #[.int .i64 a2_0, .int .i64 a2_1] 28 (0, 0))) ∧ Aside0 (wc.heap[gb127]? = some (.cells #[.int .i64 0, .int .i64 0, .int .i64 0, (.slice none 0 0)] 26 (0, 0))) ∧ Aside0 (Below w.heap.size w wc))
  case first =>
   have H := HC6.out
   clear HC6
   replace H := Option.bind_eq_some_iff.mp H
   obtain ⟨t129, A160, H⟩ := H
   replace H : (if t129 = true then ((term_within.f a1_1 1 1000000).bind fun t130 => (if t130 = true then ((term_isMark.f a1_2 a1_3).bind fun t131 => (if t131 = true then ((term_isMark.f a2_0 a2_1).bind fun t132 => (term_Grant.j0 k (!t132) a0_0 a0_1 a0_2 l0_3 a1_0 a1_1 a1_2 a1_3 a2_0 a2_1)) else (term_Grant.j0 k true a0_0 a0_1 a0_2 l0_3 a1_0 a1_1 a1_2 a1_3 a2_0 a2_1))) else (term_Grant.j0 k true a0_0 a0_1 a0_2 l0_3 a1_0 a1_1 a1_2 a1_3 a2_0 a2_1))) else (term_Grant.j0 k true a0_0 a0_1 a0_2 l0_3 a1_0 a1_1 a1_2 a1_3 a2_0 a2_1)) = some (r1, r2, r3, r4, r5, r6) := H
   have A16 := Aside0.mk A160
   clear A160
   by_cases c17 : t129 = true
   ·subst c17
    have H1 : ((term_within.f a1_1 1 1000000).bind fun t130 => (if t130 = true then ((term_isMark.f a1_2 a1_3).bind fun t131 => (if t131 = true then ((term_isMark.f a2_0 a2_1).bind fun t132 => (term_Grant.j0 k (!t132) a0_0 a0_1 a0_2 l0_3 a1_0 a1_1 a1_2 a1_3 a2_0 a2_1)) else (term_Grant.j0 k true a0_0 a0_1 a0_2 l0_3 a1_0 a1_1 a1_2 a1_3 a2_0 a2_1))) else (term_Grant.j0 k true a0_0 a0_1 a0_2 l0_3 a1_0 a1_1 a1_2 a1_3 a2_0 a2_1))) = some (r1, r2, r3, r4, r5, r6) := by rw [if_pos rfl] at H; exact H
    clear H
    have H := H1
    clear H1
    replace H := Option.bind_eq_some_iff.mp H
    obtain ⟨t130, A180, H⟩ := H
    replace H : (if t130 = true then ((term_isMark.f a1_2 a1_3).bind fun t131 => (if t131 = true then ((term_isMark.f a2_0 a2_1).bind fun t132 => (term_Grant.j0 k (!t132) a0_0 a0_1 a0_2 l0_3 a1_0 a1_1 a1_2 a1_3 a2_0 a2_1)) else (term_Grant.j0 k true a0_0 a0_1 a0_2 l0_3 a1_0 a1_1 a1_2 a1_3 a2_0 a2_1))) else (term_Grant.j0 k true a0_0 a0_1 a0_2 l0_3 a1_0 a1_1 a1_2 a1_3 a2_0 a2_1)) = some (r1, r2, r3, r4, r5, r6) := H
    have A18 := Aside0.mk A180
    clear A180
    by_cases c19 : t130 = true
    ·subst c19
     have H1 : ((term_isMark.f a1_2 a1_3).bind fun t131 => (if t131 = true then ((term_isMark.f a2_0 a2_1).bind fun t132 => (term_Grant.j0 k (!t132) a0_0 a0_1 a0_2 l0_3 a1_0 a1_1 a1_2 a1_3 a2_0 a2_1)) else (term_Grant.j0 k true a0_0 a0_1 a0_2 l0_3 a1_0 a1_1 a1_2 a1_3 a2_0 a2_1))) = some (r1, r2, r3, r4, r5, r6) := by rw [if_pos rfl] at H; exact H
     clear H
     have H := H1
     clear H1
     replace H := Option.bind_eq_some_iff.mp H
     obtain ⟨t131, A200, H⟩ := H
     replace H : (if t131 = true then ((term_isMark.f a2_0 a2_1).bind fun t132 => (term_Grant.j0 k (!t132) a0_0 a0_1 a0_2 l0_3 a1_0 a1_1 a1_2 a1_3 a2_0 a2_1)) else (term_Grant.j0 k true a0_0 a0_1 a0_2 l0_3 a1_0 a1_1 a1_2 a1_3 a2_0 a2_1)) = some (r1, r2, r3, r4, r5, r6) := H
     have A20 := Aside0.mk A200
     clear A200
     by_cases c21 : t131 = true
     ·subst c21
      have H1 : ((term_isMark.f a2_0 a2_1).bind fun t132 => (term_Grant.j0 k (!t132) a0_0 a0_1 a0_2 l0_3 a1_0 a1_1 a1_2 a1_3 a2_0 a2_1)) = some (r1, r2, r3, r4, r5, r6) := by rw [if_pos rfl] at H; exact H
      clear H
      have H := H1
      clear H1
      replace H := Option.bind_eq_some_iff.mp H
      obtain ⟨t132, A220, H⟩ := H
      replace H : (term_Grant.j0 k (!t132) a0_0 a0_1 a0_2 l0_3 a1_0 a1_1 a1_2 a1_3 a2_0 a2_1) = some (r1, r2, r3, r4, r5, r6) := H
      have A22 := Aside0.mk A220
      clear A220
      have H' := Aside0.mk H
      clear H
      have hnb23 := NB125_124.out
      have hnc23 := NB124_125.out
      have hnb24 := NB125_126.out
      have hnc24 := NB126_125.out
      have hnb25 := NB125_127.out
      have hnc25 := NB127_125.out
      have hcz26_0 : w15.cell? ⟨gb125, 0, none⟩ = some (.int .i64 a1_0) := (blk_cell BK125.out 0).trans rfl
      have hcz26_1 : w15.cell? ⟨gb125, 1, none⟩ = some (.int .i64 a1_1) := (blk_cell BK125.out 1).trans rfl
      have hcz26_2 : w15.cell? ⟨gb125, 2, none⟩ = some (.int .i64 a1_2) := (blk_cell BK125.out 2).trans rfl
      have hcz26_3 : w15.cell? ⟨gb125, 3, none⟩ = some (.int .i64 a1_3) := (blk_cell BK125.out 3).trans rfl
      have hfz26_0 := blk_frozen BK125.out 0
      have hfz26_1 := blk_frozen BK125.out 1
      have hfz26_2 := blk_frozen BK125.out 2
      have hfz26_3 := blk_frozen BK125.out 3
      go_wp2_with (first | ((with_reducible refine gate_callee (f := 25) rfl ?_); refine goesL_ (some 19) rfl rfl Try.func25 (by kernel_rfl) rfl #[.int .i64 a1_0, .int .i64 1, .int .i64 7] rfl (by (try simp only [List.map_toArray, List.map_cons, List.map_nil]); first | done | rfl | (simp only [List.length_drop, List.length_take]; rfl)) ?_; (with_reducible refine (term_within.calls a1_0 1 7 true _ A16.out).mono ?_); rintro e w' ⟨rfl, ⟨nd, rfl⟩⟩; refine ⟨_, rfl, ?_⟩) | (go_at_call 25; (with_reducible refine (term_within.calls a1_1 1 1000000 true _ A18.out).mono ?_); rintro e w' ⟨rfl, ⟨nd, rfl⟩⟩) | (go_at_call 26; (with_reducible refine (term_isMark.calls a1_2 a1_3 true _ A20.out).mono ?_); rintro e w27 ⟨rfl, hb⟩; have n0_ := Aside0.mk (blk_below (g := gb124) (o := .cells #[.int .i64 a0_0, .int .i64 a0_1, .int .i64 a0_2, .slice A0_3 l0_3.length c0_3] 26 (0, 0)) (by exact bk_ BK124.out) hb); have n1_ := Aside0.mk (blk_below (g := gb125) (o := .cells #[.int .i64 a1_0, .int .i64 a1_1, .int .i64 a1_2, .int .i64 a1_3] 30 (0, 0)) (by exact bk_ BK125.out) hb); have n2_ := Aside0.mk (blk_below (g := gb126) (o := .cells #[.int .i64 a2_0, .int .i64 a2_1] 28 (0, 0)) (by exact bk_ BK126.out) hb); have n3_ := Aside0.mk (blk_below (g := gb127) (o := .cells #[.int .i64 0, .int .i64 0, .int .i64 0, .slice none 0 0] 26 (0, 0)) (by exact bk_ BK127.out) hb); have n4_ := Aside0.mk (below_step (by repeat (first | (with_reducible first | exact HB.out | apply below_alloc | apply pw_below_drewN | apply below_drew1 | refine below_set ?_ GE124.out | refine below_set ?_ GE125.out | refine below_set ?_ GE126.out | refine below_set ?_ GE127.out) | exact HB.out)) hb); clear BK124; clear BK125; clear BK126; clear BK127; clear HB; have BK124 := n0_; have BK125 := n1_; have BK126 := n2_; have BK127 := n3_; have HB := n4_; clear n0_ n1_ n2_ n3_ n4_; (try clear hb); (try clear hb2); (try clear hk); (try clear hi); have hnb28 := NB126_124.out; have hnc28 := NB124_126.out; have hnb29 := NB126_127.out; have hnc29 := NB127_126.out; have hcz30_0 : w27.cell? ⟨gb126, 0, none⟩ = some (.int .i64 a2_0) := (blk_cell BK126.out 0).trans rfl; have hcz30_1 : w27.cell? ⟨gb126, 1, none⟩ = some (.int .i64 a2_1) := (blk_cell BK126.out 1).trans rfl; have hfz30_0 := blk_frozen BK126.out 0; have hfz30_1 := blk_frozen BK126.out 1) | (go_at_call 26; (with_reducible refine (term_isMark.calls a2_0 a2_1 t132 _ A22.out).mono ?_); rintro e w31 ⟨rfl, hb⟩; have n0_ := Aside0.mk (blk_below (g := gb124) (o := .cells #[.int .i64 a0_0, .int .i64 a0_1, .int .i64 a0_2, .slice A0_3 l0_3.length c0_3] 26 (0, 0)) (by exact bk_ BK124.out) hb); have n1_ := Aside0.mk (blk_below (g := gb125) (o := .cells #[.int .i64 a1_0, .int .i64 a1_1, .int .i64 a1_2, .int .i64 a1_3] 30 (0, 0)) (by exact bk_ BK125.out) hb); have n2_ := Aside0.mk (blk_below (g := gb126) (o := .cells #[.int .i64 a2_0, .int .i64 a2_1] 28 (0, 0)) (by exact bk_ BK126.out) hb); have n3_ := Aside0.mk (blk_below (g := gb127) (o := .cells #[.int .i64 0, .int .i64 0, .int .i64 0, .slice none 0 0] 26 (0, 0)) (by exact bk_ BK127.out) hb); have n4_ := Aside0.mk (below_step (by repeat (first | (with_reducible first | exact HB.out | apply below_alloc | apply pw_below_drewN | apply below_drew1 | refine below_set ?_ GE124.out | refine below_set ?_ GE125.out | refine below_set ?_ GE126.out | refine below_set ?_ GE127.out) | exact HB.out)) hb); clear BK124; clear BK125; clear BK126; clear BK127; clear HB; have BK124 := n0_; have BK125 := n1_; have BK126 := n2_; have BK127 := n3_; have HB := n4_; clear n0_ n1_ n2_ n3_ n4_; (try clear hb); (try clear hb2); (try clear hk); (try clear hi)))
      go_meet
      case rel => exact ⟨_, (!t132), (by first | rfl | (simp; done) | (simp [*]; done)), H', ⟨by first | omega | exact Nat.le_refl _⟩, ⟨by exact bk_ BK124.out⟩, ⟨by exact bk_ BK125.out⟩, ⟨by exact bk_ BK126.out⟩, ⟨by exact bk_ BK127.out⟩, ⟨by repeat (first | (with_reducible first | exact HB.out | apply below_alloc | apply pw_below_drewN | apply below_drew1 | refine below_set ?_ GE124.out | refine below_set ?_ GE125.out | refine below_set ?_ GE126.out | refine below_set ?_ GE127.out) | exact HB.out)⟩⟩
     ·replace c21 := Bool.eq_false_iff.mpr c21
      subst c21
      have H1 : (term_Grant.j0 k true a0_0 a0_1 a0_2 l0_3 a1_0 a1_1 a1_2 a1_3 a2_0 a2_1) = some (r1, r2, r3, r4, r5, r6) := by rw [if_neg (show ¬ (false = true) by decide)] at H; exact H
      clear H
      have H := H1
      clear H1
      have H' := Aside0.mk H
      clear H
      have hnb32 := NB125_124.out
      have hnc32 := NB124_125.out
      have hnb33 := NB125_126.out
      have hnc33 := NB126_125.out
      have hnb34 := NB125_127.out
      have hnc34 := NB127_125.out
      have hcz35_0 : w15.cell? ⟨gb125, 0, none⟩ = some (.int .i64 a1_0) := (blk_cell BK125.out 0).trans rfl
      have hcz35_1 : w15.cell? ⟨gb125, 1, none⟩ = some (.int .i64 a1_1) := (blk_cell BK125.out 1).trans rfl
      have hcz35_2 : w15.cell? ⟨gb125, 2, none⟩ = some (.int .i64 a1_2) := (blk_cell BK125.out 2).trans rfl
      have hcz35_3 : w15.cell? ⟨gb125, 3, none⟩ = some (.int .i64 a1_3) := (blk_cell BK125.out 3).trans rfl
      have hfz35_0 := blk_frozen BK125.out 0
      have hfz35_1 := blk_frozen BK125.out 1
      have hfz35_2 := blk_frozen BK125.out 2
      have hfz35_3 := blk_frozen BK125.out 3
      go_wp2_with (first | ((with_reducible refine gate_callee (f := 25) rfl ?_); refine goesL_ (some 19) rfl rfl Try.func25 (by kernel_rfl) rfl #[.int .i64 a1_0, .int .i64 1, .int .i64 7] rfl (by (try simp only [List.map_toArray, List.map_cons, List.map_nil]); first | done | rfl | (simp only [List.length_drop, List.length_take]; rfl)) ?_; (with_reducible refine (term_within.calls a1_0 1 7 true _ A16.out).mono ?_); rintro e w' ⟨rfl, ⟨nd, rfl⟩⟩; refine ⟨_, rfl, ?_⟩) | (go_at_call 25; (with_reducible refine (term_within.calls a1_1 1 1000000 true _ A18.out).mono ?_); rintro e w' ⟨rfl, ⟨nd, rfl⟩⟩) | (go_at_call 26; (with_reducible refine (term_isMark.calls a1_2 a1_3 false _ A20.out).mono ?_); rintro e w36 ⟨rfl, hb⟩; have n0_ := Aside0.mk (blk_below (g := gb124) (o := .cells #[.int .i64 a0_0, .int .i64 a0_1, .int .i64 a0_2, .slice A0_3 l0_3.length c0_3] 26 (0, 0)) (by exact bk_ BK124.out) hb); have n1_ := Aside0.mk (blk_below (g := gb125) (o := .cells #[.int .i64 a1_0, .int .i64 a1_1, .int .i64 a1_2, .int .i64 a1_3] 30 (0, 0)) (by exact bk_ BK125.out) hb); have n2_ := Aside0.mk (blk_below (g := gb126) (o := .cells #[.int .i64 a2_0, .int .i64 a2_1] 28 (0, 0)) (by exact bk_ BK126.out) hb); have n3_ := Aside0.mk (blk_below (g := gb127) (o := .cells #[.int .i64 0, .int .i64 0, .int .i64 0, .slice none 0 0] 26 (0, 0)) (by exact bk_ BK127.out) hb); have n4_ := Aside0.mk (below_step (by repeat (first | (with_reducible first | exact HB.out | apply below_alloc | apply pw_below_drewN | apply below_drew1 | refine below_set ?_ GE124.out | refine below_set ?_ GE125.out | refine below_set ?_ GE126.out | refine below_set ?_ GE127.out) | exact HB.out)) hb); clear BK124; clear BK125; clear BK126; clear BK127; clear HB; have BK124 := n0_; have BK125 := n1_; have BK126 := n2_; have BK127 := n3_; have HB := n4_; clear n0_ n1_ n2_ n3_ n4_; (try clear hb); (try clear hb2); (try clear hk); (try clear hi)))
      go_meet
      case rel => exact ⟨_, (true), (by first | rfl | (simp; done) | (simp [*]; done)), H', ⟨by first | omega | exact Nat.le_refl _⟩, ⟨by exact bk_ BK124.out⟩, ⟨by exact bk_ BK125.out⟩, ⟨by exact bk_ BK126.out⟩, ⟨by exact bk_ BK127.out⟩, ⟨by repeat (first | (with_reducible first | exact HB.out | apply below_alloc | apply pw_below_drewN | apply below_drew1 | refine below_set ?_ GE124.out | refine below_set ?_ GE125.out | refine below_set ?_ GE126.out | refine below_set ?_ GE127.out) | exact HB.out)⟩⟩
    ·replace c19 := Bool.eq_false_iff.mpr c19
     subst c19
     have H1 : (term_Grant.j0 k true a0_0 a0_1 a0_2 l0_3 a1_0 a1_1 a1_2 a1_3 a2_0 a2_1) = some (r1, r2, r3, r4, r5, r6) := by rw [if_neg (show ¬ (false = true) by decide)] at H; exact H
     clear H
     have H := H1
     clear H1
     have H' := Aside0.mk H
     clear H
     have hnb37 := NB125_124.out
     have hnc37 := NB124_125.out
     have hnb38 := NB125_126.out
     have hnc38 := NB126_125.out
     have hnb39 := NB125_127.out
     have hnc39 := NB127_125.out
     have hcz40_0 : w15.cell? ⟨gb125, 0, none⟩ = some (.int .i64 a1_0) := (blk_cell BK125.out 0).trans rfl
     have hcz40_1 : w15.cell? ⟨gb125, 1, none⟩ = some (.int .i64 a1_1) := (blk_cell BK125.out 1).trans rfl
     have hcz40_2 : w15.cell? ⟨gb125, 2, none⟩ = some (.int .i64 a1_2) := (blk_cell BK125.out 2).trans rfl
     have hcz40_3 : w15.cell? ⟨gb125, 3, none⟩ = some (.int .i64 a1_3) := (blk_cell BK125.out 3).trans rfl
     have hfz40_0 := blk_frozen BK125.out 0
     have hfz40_1 := blk_frozen BK125.out 1
     have hfz40_2 := blk_frozen BK125.out 2
     have hfz40_3 := blk_frozen BK125.out 3
     go_wp2_with (first | ((with_reducible refine gate_callee (f := 25) rfl ?_); refine goesL_ (some 19) rfl rfl Try.func25 (by kernel_rfl) rfl #[.int .i64 a1_0, .int .i64 1, .int .i64 7] rfl (by (try simp only [List.map_toArray, List.map_cons, List.map_nil]); first | done | rfl | (simp only [List.length_drop, List.length_take]; rfl)) ?_; (with_reducible refine (term_within.calls a1_0 1 7 true _ A16.out).mono ?_); rintro e w' ⟨rfl, ⟨nd, rfl⟩⟩; refine ⟨_, rfl, ?_⟩) | (go_at_call 25; (with_reducible refine (term_within.calls a1_1 1 1000000 false _ A18.out).mono ?_); rintro e w' ⟨rfl, ⟨nd, rfl⟩⟩))
     go_meet
     case rel => exact ⟨_, (true), (by first | rfl | (simp; done) | (simp [*]; done)), H', ⟨by first | omega | exact Nat.le_refl _⟩, ⟨by exact bk_ BK124.out⟩, ⟨by exact bk_ BK125.out⟩, ⟨by exact bk_ BK126.out⟩, ⟨by exact bk_ BK127.out⟩, ⟨by repeat (first | (with_reducible first | exact HB.out | apply below_alloc | apply pw_below_drewN | apply below_drew1 | refine below_set ?_ GE124.out | refine below_set ?_ GE125.out | refine below_set ?_ GE126.out | refine below_set ?_ GE127.out) | exact HB.out)⟩⟩
   ·replace c17 := Bool.eq_false_iff.mpr c17
    subst c17
    have H1 : (term_Grant.j0 k true a0_0 a0_1 a0_2 l0_3 a1_0 a1_1 a1_2 a1_3 a2_0 a2_1) = some (r1, r2, r3, r4, r5, r6) := by rw [if_neg (show ¬ (false = true) by decide)] at H; exact H
    clear H
    have H := H1
    clear H1
    have H' := Aside0.mk H
    clear H
    have hnb41 := NB125_124.out
    have hnc41 := NB124_125.out
    have hnb42 := NB125_126.out
    have hnc42 := NB126_125.out
    have hnb43 := NB125_127.out
    have hnc43 := NB127_125.out
    have hcz44_0 : w15.cell? ⟨gb125, 0, none⟩ = some (.int .i64 a1_0) := (blk_cell BK125.out 0).trans rfl
    have hcz44_1 : w15.cell? ⟨gb125, 1, none⟩ = some (.int .i64 a1_1) := (blk_cell BK125.out 1).trans rfl
    have hcz44_2 : w15.cell? ⟨gb125, 2, none⟩ = some (.int .i64 a1_2) := (blk_cell BK125.out 2).trans rfl
    have hcz44_3 : w15.cell? ⟨gb125, 3, none⟩ = some (.int .i64 a1_3) := (blk_cell BK125.out 3).trans rfl
    have hfz44_0 := blk_frozen BK125.out 0
    have hfz44_1 := blk_frozen BK125.out 1
    have hfz44_2 := blk_frozen BK125.out 2
    have hfz44_3 := blk_frozen BK125.out 3
    go_wp2_with (first | ((with_reducible refine gate_callee (f := 25) rfl ?_); refine goesL_ (some 19) rfl rfl Try.func25 (by kernel_rfl) rfl #[.int .i64 a1_0, .int .i64 1, .int .i64 7] rfl (by (try simp only [List.map_toArray, List.map_cons, List.map_nil]); first | done | rfl | (simp only [List.length_drop, List.length_take]; rfl)) ?_; (with_reducible refine (term_within.calls a1_0 1 7 false _ A16.out).mono ?_); rintro e w' ⟨rfl, ⟨nd, rfl⟩⟩; refine ⟨_, rfl, ?_⟩))
    go_meet
    case rel => exact ⟨_, (true), (by first | rfl | (simp; done) | (simp [*]; done)), H', ⟨by first | omega | exact Nat.le_refl _⟩, ⟨by exact bk_ BK124.out⟩, ⟨by exact bk_ BK125.out⟩, ⟨by exact bk_ BK126.out⟩, ⟨by exact bk_ BK127.out⟩, ⟨by repeat (first | (with_reducible first | exact HB.out | apply below_alloc | apply pw_below_drewN | apply below_drew1 | refine below_set ?_ GE124.out | refine below_set ?_ GE125.out | refine below_set ?_ GE126.out | refine below_set ?_ GE127.out) | exact HB.out)⟩⟩
  case rest =>
   clear HC6
   try clear c1
   try clear c2
   try clear p2
   try clear c3
   try clear c4
   try clear c5
   try clear c10
   try clear c11
   try clear c12
   try clear c13
   try clear c17
   try clear c19
   try clear c21
   try clear c23
   try clear c24
   try clear c25
   try clear c28
   try clear c29
   try clear c32
   try clear c33
   try clear c34
   try clear c37
   try clear c38
   try clear c39
   try clear c41
   try clear c42
   try clear c43
   try clear hcz14_0
   try clear hcz14_1
   try clear hcz14_2
   try clear hcz14_3
   try clear hcz26_0
   try clear hcz26_1
   try clear hcz26_2
   try clear hcz26_3
   try clear hcz30_0
   try clear hcz30_1
   try clear hcz35_0
   try clear hcz35_1
   try clear hcz35_2
   try clear hcz35_3
   try clear hcz40_0
   try clear hcz40_1
   try clear hcz40_2
   try clear hcz40_3
   try clear hcz44_0
   try clear hcz44_1
   try clear hcz44_2
   try clear hcz44_3
   try clear hfz14_0
   try clear hfz14_1
   try clear hfz14_2
   try clear hfz14_3
   try clear hfz26_0
   try clear hfz26_1
   try clear hfz26_2
   try clear hfz26_3
   try clear hfz30_0
   try clear hfz30_1
   try clear hfz35_0
   try clear hfz35_1
   try clear hfz35_2
   try clear hfz35_3
   try clear hfz40_0
   try clear hfz40_1
   try clear hfz40_2
   try clear hfz40_3
   try clear hfz44_0
   try clear hfz44_1
   try clear hfz44_2
   try clear hfz44_3
   obtain ⟨kq, x16_5, rfl, HA, HJ5, BK124, BK125, BK126, BK127, HB⟩ := hcut
   cases kq with
   | zero => exact absurd HA.out (by simp [term_Grant.j0])
   | succ kj5 =>
    have H := HA.out
    clear HA
    simp only [term_Grant.j0] at H
    by_cases c45 : x16_5 = true
    ·subst c45
     have H1 : (some (0, 0, 0, ([] : List Int), false, 1)) = some (r1, r2, r3, r4, r5, r6) := by rw [if_pos rfl] at H; exact H
     clear H
     have H := H1
     clear H1
     simp only [Option.some.injEq, Prod.mk.injEq] at H
     obtain ⟨rfl, rfl, rfl, rfl, rfl, rfl⟩ := H
     have hnb46 := NB127_124.out
     have hnc46 := NB124_127.out
     have hnb47 := NB127_125.out
     have hnc47 := NB125_127.out
     have hnb48 := NB127_126.out
     have hnc48 := NB126_127.out
     have hcz49_0 : wc.cell? ⟨gb127, 0, none⟩ = some (.int .i64 0) := (blk_cell BK127.out 0).trans rfl
     have hcz49_1 : wc.cell? ⟨gb127, 1, none⟩ = some (.int .i64 0) := (blk_cell BK127.out 1).trans rfl
     have hcz49_2 : wc.cell? ⟨gb127, 2, none⟩ = some (.int .i64 0) := (blk_cell BK127.out 2).trans rfl
     have hcz49_3 : wc.cell? ⟨gb127, 3, none⟩ = some (.slice none 0 0) := (blk_cell BK127.out 3).trans rfl
     have hfz49_0 := blk_frozen BK127.out 0
     have hfz49_1 := blk_frozen BK127.out 1
     have hfz49_2 := blk_frozen BK127.out 2
     have hfz49_3 := blk_frozen BK127.out 3
     go_wp2
     refine bodyPost_ret (results_ctt rfl _ _ gb127 26 #[.int .i64 0, .int .i64 0, .int .i64 0, .slice none 0 0] (0, 0) _ rfl (by (with_reducible repeat (first | refine blk_drewN ?_ _ | refine blk_drew ?_ | refine blk_alloc ?_ _)); refine blk_put (cs := #[.int .i64 0, .int .i64 0, .int .i64 0, .slice none 0 0]) ?_ 3 _ rfl; (with_reducible repeat (first | refine blk_drewN ?_ _ | refine blk_drew ?_ | refine blk_alloc ?_ _)); refine blk_put (cs := #[.int .i64 0, .int .i64 0, .int .i64 0, .slice none 0 0]) ?_ 2 _ rfl; (with_reducible repeat (first | refine blk_drewN ?_ _ | refine blk_drew ?_ | refine blk_alloc ?_ _)); refine blk_put (cs := #[.int .i64 0, .int .i64 0, .int .i64 0, .slice none 0 0]) ?_ 1 _ rfl; (with_reducible repeat (first | refine blk_drewN ?_ _ | refine blk_drew ?_ | refine blk_alloc ?_ _)); refine blk_put (cs := #[.int .i64 0, .int .i64 0, .int .i64 0, .slice none 0 0]) ?_ 0 _ rfl; exact bk_ BK127.out) Try.underlying26 rfl (by kernel_rfl)) rfl ?_
     exact ⟨_, by first | rfl | (simp [errW_none, errW_some] <;> rfl) | (simp [*, errW_none, errW_some] <;> rfl), by first | exact Kd.R_nil _ _ _ _ _ | exact Kd.N_nil _ _ _ _ _ | exact Kd.V_nil _ _ _ _ _ | exact Kd.Q_nil _ _ _ _ _ | exact Kd.S_nil _ _ _ _ _, by repeat (first | (with_reducible first | exact HB.out | apply below_alloc | apply pw_below_drewN | apply below_drew1 | refine below_set ?_ GE124.out | refine below_set ?_ GE125.out | refine below_set ?_ GE126.out | refine below_set ?_ GE127.out) | exact HB.out)⟩
    ·replace c45 := Bool.eq_false_iff.mpr c45
     subst c45
     have H1 : ((term_ballot_heard.f a0_0 a0_1 a0_2 l0_3 a1_1).bind fun bt133 => (if bt133.2.1 = 0 then (term_Grant.j1 kj5 true a1_0 a1_1 a1_2 a1_3 a2_0 a2_1 bt133.1 bt133.2.1 bt133.2.2.1 bt133.2.2.2) else (term_Grant.j1 kj5 (bt133.2.1 == a1_0) a1_0 a1_1 a1_2 a1_3 a2_0 a2_1 bt133.1 bt133.2.1 bt133.2.2.1 bt133.2.2.2))) = some (r1, r2, r3, r4, r5, r6) := by rw [if_neg (show ¬ (false = true) by decide)] at H; exact H
     clear H
     have H := H1
     clear H1
     replace H := Option.bind_eq_some_iff.mp H
     obtain ⟨⟨t133, t134, t135, t136⟩, A500, H⟩ := H
     replace H : (if t134 = 0 then (term_Grant.j1 kj5 true a1_0 a1_1 a1_2 a1_3 a2_0 a2_1 t133 t134 t135 t136) else (term_Grant.j1 kj5 (t134 == a1_0) a1_0 a1_1 a1_2 a1_3 a2_0 a2_1 t133 t134 t135 t136)) = some (r1, r2, r3, r4, r5, r6) := H
     have A50 := Aside0.mk A500
     clear A500
     have HC51 := Aside0.mk H
     clear H
     have hnb52 := NB124_125.out
     have hnc52 := NB125_124.out
     have hnb53 := NB124_126.out
     have hnc53 := NB126_124.out
     have hnb54 := NB124_127.out
     have hnc54 := NB127_124.out
     have hcz55_0 : wc.cell? ⟨gb124, 0, none⟩ = some (.int .i64 a0_0) := (blk_cell BK124.out 0).trans rfl
     have hcz55_1 : wc.cell? ⟨gb124, 1, none⟩ = some (.int .i64 a0_1) := (blk_cell BK124.out 1).trans rfl
     have hcz55_2 : wc.cell? ⟨gb124, 2, none⟩ = some (.int .i64 a0_2) := (blk_cell BK124.out 2).trans rfl
     have hcz55_3 : wc.cell? ⟨gb124, 3, none⟩ = some (.slice A0_3 l0_3.length c0_3) := (blk_cell BK124.out 3).trans rfl
     have hfz55_0 := blk_frozen BK124.out 0
     have hfz55_1 := blk_frozen BK124.out 1
     have hfz55_2 := blk_frozen BK124.out 2
     have hfz55_3 := blk_frozen BK124.out 3
     have hnb56 := NB125_126.out
     have hnc56 := NB126_125.out
     have hnb57 := NB125_127.out
     have hnc57 := NB127_125.out
     have hcz58_0 : wc.cell? ⟨gb125, 0, none⟩ = some (.int .i64 a1_0) := (blk_cell BK125.out 0).trans rfl
     have hcz58_1 : wc.cell? ⟨gb125, 1, none⟩ = some (.int .i64 a1_1) := (blk_cell BK125.out 1).trans rfl
     have hcz58_2 : wc.cell? ⟨gb125, 2, none⟩ = some (.int .i64 a1_2) := (blk_cell BK125.out 2).trans rfl
     have hcz58_3 : wc.cell? ⟨gb125, 3, none⟩ = some (.int .i64 a1_3) := (blk_cell BK125.out 3).trans rfl
     have hfz58_0 := blk_frozen BK125.out 0
     have hfz58_1 := blk_frozen BK125.out 1
     have hfz58_2 := blk_frozen BK125.out 2
     have hfz58_3 := blk_frozen BK125.out 3
     go_upto_region 6 with (first | ((with_reducible refine gate_callee (f := 27) rfl ?_); refine goesL_ (some 42) rfl rfl Try.func27 (by kernel_rfl) rfl #[.agg #[.int .i64 a0_0, .int .i64 a0_1, .int .i64 a0_2, .slice A0_3 l0_3.length c0_3], .int .i64 a1_1] rfl (by (try simp only [List.map_toArray, List.map_cons, List.map_nil]); first | done | rfl | (simp only [List.length_drop, List.length_take]; rfl)) ?_; (with_reducible refine (term_ballot_heard.calls a0_0 a0_1 a0_2 _ _ l0_3 a1_1 t133 t134 t135 t136 _ ?side1 ?side2 A50.out).mono ?_); (case side1 => repeat (first | exact (Kd.C_below HR0_3.out HB.out) | (with_reducible refine Kd.C_alloc ?_ _) | (with_reducible refine Kd.C_drewN ?_ _) | (with_reducible refine Kd.C_drew ?_))); (case side2 => exact HC0_3.out); rintro e w59 ⟨v137, rfl, ho0, hb⟩; refine ⟨_, rfl, ?_⟩; have n0_ := Aside0.mk (Kd.R_lower ho0 (below_size (by repeat (first | (with_reducible first | exact HB.out | apply below_alloc | apply pw_below_drewN | apply below_drew1 | refine below_set ?_ GE124.out | refine below_set ?_ GE125.out | refine below_set ?_ GE126.out | refine below_set ?_ GE127.out) | exact HB.out)))); have n1_ := Aside0.mk (blk_below (g := gb124) (o := .cells #[.int .i64 a0_0, .int .i64 a0_1, .int .i64 a0_2, .slice A0_3 l0_3.length c0_3] 26 (0, 0)) (by exact bk_ BK124.out) hb); have n2_ := Aside0.mk (blk_below (g := gb125) (o := .cells #[.int .i64 a1_0, .int .i64 a1_1, .int .i64 a1_2, .int .i64 a1_3] 30 (0, 0)) (by exact bk_ BK125.out) hb); have n3_ := Aside0.mk (blk_below (g := gb126) (o := .cells #[.int .i64 a2_0, .int .i64 a2_1] 28 (0, 0)) (by exact bk_ BK126.out) hb); have n4_ := Aside0.mk (blk_below (g := gb127) (o := .cells #[.int .i64 0, .int .i64 0, .int .i64 0, .slice none 0 0] 26 (0, 0)) (by exact bk_ BK127.out) hb); have n5_ := Aside0.mk (below_step (by repeat (first | (with_reducible first | exact HB.out | apply below_alloc | apply pw_below_drewN | apply below_drew1 | refine below_set ?_ GE124.out | refine below_set ?_ GE125.out | refine below_set ?_ GE126.out | refine below_set ?_ GE127.out) | exact HB.out)) hb); clear BK124; clear BK125; clear BK126; clear BK127; clear HB; have HO138 := n0_; have BK124 := n1_; have BK125 := n2_; have BK126 := n3_; have BK127 := n4_; have HB := n5_; clear n0_ n1_ n2_ n3_ n4_ n5_; (try clear hb); (try clear hb2); (try clear hk); (try clear hi); (try clear ho0)) | ((with_reducible refine gate_dst (N := 9) rfl ?_); refine box_event ?hg (N := 9) ?hd (cs := #[.int .i64 0, .int .i64 0, .int .i64 0, .slice none 0 0]) (t := 26) ?hr ?_; (case hd => rfl); (case hg => rfl); (case hr => first | (go_simp; done) | (go_simp; rfl)); intro gb139 hg w60 hbox hb; have n0_ := Aside0.mk (Kd.R_below (by exact rk_ HO138.out) hb); have n1_ := Aside0.mk (blk_below (g := gb124) (o := .cells #[.int .i64 a0_0, .int .i64 a0_1, .int .i64 a0_2, .slice A0_3 l0_3.length c0_3] 26 (0, 0)) (by exact bk_ BK124.out) hb); have n2_ := Aside0.mk (blk_below (g := gb125) (o := .cells #[.int .i64 a1_0, .int .i64 a1_1, .int .i64 a1_2, .int .i64 a1_3] 30 (0, 0)) (by exact bk_ BK125.out) hb); have n3_ := Aside0.mk (blk_below (g := gb126) (o := .cells #[.int .i64 a2_0, .int .i64 a2_1] 28 (0, 0)) (by exact bk_ BK126.out) hb); have n4_ := Aside0.mk (blk_below (g := gb127) (o := .cells #[.int .i64 0, .int .i64 0, .int .i64 0, .slice none 0 0] 26 (0, 0)) (by exact bk_ BK127.out) hb); have n5_ := Aside0.mk (below_step (by repeat (first | (with_reducible first | exact HB.out | apply below_alloc | apply pw_below_drewN | apply below_drew1 | refine below_set ?_ GE124.out | refine below_set ?_ GE125.out | refine below_set ?_ GE126.out | refine below_set ?_ GE127.out) | exact HB.out)) hb); have n6_ := Aside0.mk (hbox); have n7_ := Aside0.mk ((by rw [hg]; exact (below_size (by repeat (first | (with_reducible first | exact HB.out | apply below_alloc | apply pw_below_drewN | apply below_drew1 | refine below_set ?_ GE124.out | refine below_set ?_ GE125.out | refine below_set ?_ GE126.out | refine below_set ?_ GE127.out) | exact HB.out))) : w.heap.size ≤ gb139)); have n8_ := Aside0.mk ((by rw [hg]; exact (below_size (by repeat (first | (with_reducible first | exact HB.out | apply below_alloc | apply pw_below_drewN | apply below_drew1 | refine below_set ?_ GE124.out | refine below_set ?_ GE125.out | refine below_set ?_ GE126.out | refine below_set ?_ GE127.out) | exact HB.out))) : w.heap.size ≤ gb139)); have n9_ := Aside0.mk ((by rw [hg]; exact Nat.ne_of_lt (blk_lt (g := gb124) (o := .cells #[.int .i64 a0_0, .int .i64 a0_1, .int .i64 a0_2, .slice A0_3 l0_3.length c0_3] 26 (0, 0)) (by exact bk_ BK124.out)) : gb124 ≠ gb139)); have n10_ := Aside0.mk ((by rw [hg]; exact Nat.ne_of_gt (blk_lt (g := gb124) (o := .cells #[.int .i64 a0_0, .int .i64 a0_1, .int .i64 a0_2, .slice A0_3 l0_3.length c0_3] 26 (0, 0)) (by exact bk_ BK124.out)) : gb139 ≠ gb124)); have n11_ := Aside0.mk ((by rw [hg]; exact Nat.ne_of_lt (blk_lt (g := gb125) (o := .cells #[.int .i64 a1_0, .int .i64 a1_1, .int .i64 a1_2, .int .i64 a1_3] 30 (0, 0)) (by exact bk_ BK125.out)) : gb125 ≠ gb139)); have n12_ := Aside0.mk ((by rw [hg]; exact Nat.ne_of_gt (blk_lt (g := gb125) (o := .cells #[.int .i64 a1_0, .int .i64 a1_1, .int .i64 a1_2, .int .i64 a1_3] 30 (0, 0)) (by exact bk_ BK125.out)) : gb139 ≠ gb125)); have n13_ := Aside0.mk ((by rw [hg]; exact Nat.ne_of_lt (blk_lt (g := gb126) (o := .cells #[.int .i64 a2_0, .int .i64 a2_1] 28 (0, 0)) (by exact bk_ BK126.out)) : gb126 ≠ gb139)); have n14_ := Aside0.mk ((by rw [hg]; exact Nat.ne_of_gt (blk_lt (g := gb126) (o := .cells #[.int .i64 a2_0, .int .i64 a2_1] 28 (0, 0)) (by exact bk_ BK126.out)) : gb139 ≠ gb126)); have n15_ := Aside0.mk ((by rw [hg]; exact Nat.ne_of_lt (blk_lt (g := gb127) (o := .cells #[.int .i64 0, .int .i64 0, .int .i64 0, .slice none 0 0] 26 (0, 0)) (by exact bk_ BK127.out)) : gb127 ≠ gb139)); have n16_ := Aside0.mk ((by rw [hg]; exact Nat.ne_of_gt (blk_lt (g := gb127) (o := .cells #[.int .i64 0, .int .i64 0, .int .i64 0, .slice none 0 0] 26 (0, 0)) (by exact bk_ BK127.out)) : gb139 ≠ gb127)); clear HO138; clear BK124; clear BK125; clear BK126; clear BK127; clear HB; have HO138 := n0_; have BK124 := n1_; have BK125 := n2_; have BK126 := n3_; have BK127 := n4_; have HB := n5_; have BK139 := n6_; have GW139 := n7_; have GE139 := n8_; have NB124_139 := n9_; have NB139_124 := n10_; have NB125_139 := n11_; have NB139_125 := n12_; have NB126_139 := n13_; have NB139_126 := n14_; have NB127_139 := n15_; have NB139_127 := n16_; clear n0_ n1_ n2_ n3_ n4_ n5_ n6_ n7_ n8_ n9_ n10_ n11_ n12_ n13_ n14_ n15_ n16_; clear hb hbox hg; have hnb61 := NB139_124.out; have hnc61 := NB124_139.out; have hnb62 := NB139_125.out; have hnc62 := NB125_139.out; have hnb63 := NB139_126.out; have hnc63 := NB126_139.out; have hnb64 := NB139_127.out; have hnc64 := NB127_139.out; have hcz65_0 : w60.cell? ⟨gb139, 0, none⟩ = some (.int .i64 0) := (blk_cell BK139.out 0).trans rfl; have hcz65_1 : w60.cell? ⟨gb139, 1, none⟩ = some (.int .i64 0) := (blk_cell BK139.out 1).trans rfl; have hcz65_2 : w60.cell? ⟨gb139, 2, none⟩ = some (.int .i64 0) := (blk_cell BK139.out 2).trans rfl; have hcz65_3 : w60.cell? ⟨gb139, 3, none⟩ = some (.slice none 0 0) := (blk_cell BK139.out 3).trans rfl; have hfz65_0 := blk_frozen BK139.out 0; have hfz65_1 := blk_frozen BK139.out 1; have hfz65_2 := blk_frozen BK139.out 2; have hfz65_3 := blk_frozen BK139.out 3; obtain ⟨Ao66, co66, eo66⟩ := Kd.R_slice HO138.out; subst eo66))
     (try simp only [Act.put, List.setIfInBounds_toArray, List.set_cons_zero, List.set_cons_succ])
     go_cut [10] (fun v10 wc => ∃ (kq : Nat) (x10_50 : Bool), v10 = .bool x10_50 ∧ Aside0 (term_Grant.j1 kq x10_50 a1_0 a1_1 a1_2 a1_3 a2_0 a2_1 t133 t134 t135 t136 = some (r1, r2, r3, r4, r5, r6)) ∧ Aside0 (kq ≤ kj5) ∧ Aside0 (Kd.R (Kd.int .i64) 3 wc w.heap.size (fun _ => True) (.slice Ao66 t136.length co66) t136) ∧ Aside0 (wc.heap[gb124]? = some (.cells #[.int .i64 a0_0, .int .i64 a0_1, .int .i64 a0_2, (.slice A0_3 l0_3.length c0_3)] 26 (0, 0))) ∧ Aside0 (wc.heap[gb125]? = some (.cells #[.int .i64 a1_0, .int .i64 a1_1, .int .i64 a1_2, .int .i64 a1_3] 30 (0, 0))) ∧ Aside0 (wc.heap[gb126]? = some (.cells #[.int .i64 a2_0, .int .i64 a2_1] 28 (0, 0))) ∧ Aside0 (wc.heap[gb127]? = some (.cells #[.int .i64 0, .int .i64 0, .int .i64 0, (.slice none 0 0)] 26 (0, 0))) ∧ Aside0 (wc.heap[gb139]? = some (.cells #[.int .i64 t133, .int .i64 t134, .int .i64 t135, (.slice Ao66 t136.length co66)] 26 (0, 0))) ∧ Aside0 (Below w.heap.size w wc))
     case first =>
      have H := HC51.out
      clear HC51
      by_cases c67 : t134 = 0
      ·rw [if_pos c67] at H
       have c67b0 : (t134 == 0) = true := beq_iff_eq.mpr c67
       have c67b1 : (t134 != 0) = false := bne_eq_false_iff_eq.mpr c67
       clear c67
       (first | rw [c67b0] | (simp only [i64_w, i32_w]; rw [c67b0]) | skip)
       have H' := Aside0.mk H
       clear H
       have hnb68 := NB139_124.out
       have hnc68 := NB124_139.out
       have hnb69 := NB139_125.out
       have hnc69 := NB125_139.out
       have hnb70 := NB139_126.out
       have hnc70 := NB126_139.out
       have hnb71 := NB139_127.out
       have hnc71 := NB127_139.out
       have hcz72_0 : w60.cell? ⟨gb139, 0, none⟩ = some (.int .i64 0) := (blk_cell BK139.out 0).trans rfl
       have hcz72_1 : w60.cell? ⟨gb139, 1, none⟩ = some (.int .i64 0) := (blk_cell BK139.out 1).trans rfl
       have hcz72_2 : w60.cell? ⟨gb139, 2, none⟩ = some (.int .i64 0) := (blk_cell BK139.out 2).trans rfl
       have hcz72_3 : w60.cell? ⟨gb139, 3, none⟩ = some (.slice none 0 0) := (blk_cell BK139.out 3).trans rfl
       have hfz72_0 := blk_frozen BK139.out 0
       have hfz72_1 := blk_frozen BK139.out 1
       have hfz72_2 := blk_frozen BK139.out 2
       have hfz72_3 := blk_frozen BK139.out 3
       go_wp2
       go_meet
       case rel => exact ⟨_, (true), (by first | rfl | (simp; done) | (simp [*]; done)), H', ⟨by have := HJ5.out; first | omega | exact Nat.le_refl _⟩, ⟨by (with_reducible repeat (first | apply Kd.R_alloc | apply Kd.R_drewN | apply Kd.R_drew)); exact Kd.R_mono (Kd.R_far (p := ⟨gb139, 3, none⟩) (Kd.R_far (p := ⟨gb139, 2, none⟩) (Kd.R_far (p := ⟨gb139, 1, none⟩) (Kd.R_far (p := ⟨gb139, 0, none⟩) (Kd.R_types HO138.out BK139.out (by decide)) (fun _ hk => hk.2) (.int .i64 t133)) (fun _ hk => hk.2) (.int .i64 t134)) (fun _ hk => hk.2) (.int .i64 t135)) (fun _ hk => hk.2) (.slice Ao66 t136.length co66)) (fun _ hk => trivial)⟩, ⟨by (with_reducible repeat (first | refine blk_drewN ?_ _ | refine blk_drew ?_ | refine blk_alloc ?_ _)); refine blk_far ?_ NB124_139.out _; (with_reducible repeat (first | refine blk_drewN ?_ _ | refine blk_drew ?_ | refine blk_alloc ?_ _)); refine blk_far ?_ NB124_139.out _; (with_reducible repeat (first | refine blk_drewN ?_ _ | refine blk_drew ?_ | refine blk_alloc ?_ _)); refine blk_far ?_ NB124_139.out _; (with_reducible repeat (first | refine blk_drewN ?_ _ | refine blk_drew ?_ | refine blk_alloc ?_ _)); refine blk_far ?_ NB124_139.out _; exact bk_ BK124.out⟩, ⟨by (with_reducible repeat (first | refine blk_drewN ?_ _ | refine blk_drew ?_ | refine blk_alloc ?_ _)); refine blk_far ?_ NB125_139.out _; (with_reducible repeat (first | refine blk_drewN ?_ _ | refine blk_drew ?_ | refine blk_alloc ?_ _)); refine blk_far ?_ NB125_139.out _; (with_reducible repeat (first | refine blk_drewN ?_ _ | refine blk_drew ?_ | refine blk_alloc ?_ _)); refine blk_far ?_ NB125_139.out _; (with_reducible repeat (first | refine blk_drewN ?_ _ | refine blk_drew ?_ | refine blk_alloc ?_ _)); refine blk_far ?_ NB125_139.out _; exact bk_ BK125.out⟩, ⟨by (with_reducible repeat (first | refine blk_drewN ?_ _ | refine blk_drew ?_ | refine blk_alloc ?_ _)); refine blk_far ?_ NB126_139.out _; (with_reducible repeat (first | refine blk_drewN ?_ _ | refine blk_drew ?_ | refine blk_alloc ?_ _)); refine blk_far ?_ NB126_139.out _; (with_reducible repeat (first | refine blk_drewN ?_ _ | refine blk_drew ?_ | refine blk_alloc ?_ _)); refine blk_far ?_ NB126_139.out _; (with_reducible repeat (first | refine blk_drewN ?_ _ | refine blk_drew ?_ | refine blk_alloc ?_ _)); refine blk_far ?_ NB126_139.out _; exact bk_ BK126.out⟩, ⟨by (with_reducible repeat (first | refine blk_drewN ?_ _ | refine blk_drew ?_ | refine blk_alloc ?_ _)); refine blk_far ?_ NB127_139.out _; (with_reducible repeat (first | refine blk_drewN ?_ _ | refine blk_drew ?_ | refine blk_alloc ?_ _)); refine blk_far ?_ NB127_139.out _; (with_reducible repeat (first | refine blk_drewN ?_ _ | refine blk_drew ?_ | refine blk_alloc ?_ _)); refine blk_far ?_ NB127_139.out _; (with_reducible repeat (first | refine blk_drewN ?_ _ | refine blk_drew ?_ | refine blk_alloc ?_ _)); refine blk_far ?_ NB127_139.out _; exact bk_ BK127.out⟩, ⟨by (with_reducible repeat (first | refine blk_drewN ?_ _ | refine blk_drew ?_ | refine blk_alloc ?_ _)); refine blk_put (cs := #[.int .i64 t133, .int .i64 t134, .int .i64 t135, .slice none 0 0]) ?_ 3 _ rfl; (with_reducible repeat (first | refine blk_drewN ?_ _ | refine blk_drew ?_ | refine blk_alloc ?_ _)); refine blk_put (cs := #[.int .i64 t133, .int .i64 t134, .int .i64 0, .slice none 0 0]) ?_ 2 _ rfl; (with_reducible repeat (first | refine blk_drewN ?_ _ | refine blk_drew ?_ | refine blk_alloc ?_ _)); refine blk_put (cs := #[.int .i64 t133, .int .i64 0, .int .i64 0, .slice none 0 0]) ?_ 1 _ rfl; (with_reducible repeat (first | refine blk_drewN ?_ _ | refine blk_drew ?_ | refine blk_alloc ?_ _)); refine blk_put (cs := #[.int .i64 0, .int .i64 0, .int .i64 0, .slice none 0 0]) ?_ 0 _ rfl; exact bk_ BK139.out⟩, ⟨by repeat (first | (with_reducible first | exact HB.out | apply below_alloc | apply pw_below_drewN | apply below_drew1 | refine below_set ?_ GE124.out | refine below_set ?_ GE125.out | refine below_set ?_ GE126.out | refine below_set ?_ GE127.out | refine below_set ?_ GE139.out) | exact HB.out)⟩⟩
      ·rw [if_neg c67] at H
       have c67b0 : (t134 == 0) = false := beq_eq_false_iff_ne.mpr c67
       have c67b1 : (t134 != 0) = true := bne_iff_ne.mpr c67
       (first | rw [c67b0] | (simp only [i64_w, i32_w]; rw [c67b0]) | skip)
       have H' := Aside0.mk H
       clear H
       have hnb73 := NB139_124.out
       have hnc73 := NB124_139.out
       have hnb74 := NB139_125.out
       have hnc74 := NB125_139.out
       have hnb75 := NB139_126.out
       have hnc75 := NB126_139.out
       have hnb76 := NB139_127.out
       have hnc76 := NB127_139.out
       have hcz77_0 : w60.cell? ⟨gb139, 0, none⟩ = some (.int .i64 0) := (blk_cell BK139.out 0).trans rfl
       have hcz77_1 : w60.cell? ⟨gb139, 1, none⟩ = some (.int .i64 0) := (blk_cell BK139.out 1).trans rfl
       have hcz77_2 : w60.cell? ⟨gb139, 2, none⟩ = some (.int .i64 0) := (blk_cell BK139.out 2).trans rfl
       have hcz77_3 : w60.cell? ⟨gb139, 3, none⟩ = some (.slice none 0 0) := (blk_cell BK139.out 3).trans rfl
       have hfz77_0 := blk_frozen BK139.out 0
       have hfz77_1 := blk_frozen BK139.out 1
       have hfz77_2 := blk_frozen BK139.out 2
       have hfz77_3 := blk_frozen BK139.out 3
       have hnb78 := NB125_124.out
       have hnc78 := NB124_125.out
       have hnb79 := NB125_126.out
       have hnc79 := NB126_125.out
       have hnb80 := NB125_127.out
       have hnc80 := NB127_125.out
       have hcz81_0 : w60.cell? ⟨gb125, 0, none⟩ = some (.int .i64 a1_0) := (blk_cell BK125.out 0).trans rfl
       have hcz81_1 : w60.cell? ⟨gb125, 1, none⟩ = some (.int .i64 a1_1) := (blk_cell BK125.out 1).trans rfl
       have hcz81_2 : w60.cell? ⟨gb125, 2, none⟩ = some (.int .i64 a1_2) := (blk_cell BK125.out 2).trans rfl
       have hcz81_3 : w60.cell? ⟨gb125, 3, none⟩ = some (.int .i64 a1_3) := (blk_cell BK125.out 3).trans rfl
       have hfz81_0 := blk_frozen BK125.out 0
       have hfz81_1 := blk_frozen BK125.out 1
       have hfz81_2 := blk_frozen BK125.out 2
       have hfz81_3 := blk_frozen BK125.out 3
       go_wp2
       go_meet
       case rel => exact ⟨_, ((t134 == a1_0)), (by first | rfl | (simp; done) | (simp [*]; done)), H', ⟨by have := HJ5.out; first | omega | exact Nat.le_refl _⟩, ⟨by (with_reducible repeat (first | apply Kd.R_alloc | apply Kd.R_drewN | apply Kd.R_drew)); exact Kd.R_mono (Kd.R_far (p := ⟨gb139, 3, none⟩) (Kd.R_far (p := ⟨gb139, 2, none⟩) (Kd.R_far (p := ⟨gb139, 1, none⟩) (Kd.R_far (p := ⟨gb139, 0, none⟩) (Kd.R_types HO138.out BK139.out (by decide)) (fun _ hk => hk.2) (.int .i64 t133)) (fun _ hk => hk.2) (.int .i64 t134)) (fun _ hk => hk.2) (.int .i64 t135)) (fun _ hk => hk.2) (.slice Ao66 t136.length co66)) (fun _ hk => trivial)⟩, ⟨by (with_reducible repeat (first | refine blk_drewN ?_ _ | refine blk_drew ?_ | refine blk_alloc ?_ _)); refine blk_far ?_ NB124_139.out _; (with_reducible repeat (first | refine blk_drewN ?_ _ | refine blk_drew ?_ | refine blk_alloc ?_ _)); refine blk_far ?_ NB124_139.out _; (with_reducible repeat (first | refine blk_drewN ?_ _ | refine blk_drew ?_ | refine blk_alloc ?_ _)); refine blk_far ?_ NB124_139.out _; (with_reducible repeat (first | refine blk_drewN ?_ _ | refine blk_drew ?_ | refine blk_alloc ?_ _)); refine blk_far ?_ NB124_139.out _; exact bk_ BK124.out⟩, ⟨by (with_reducible repeat (first | refine blk_drewN ?_ _ | refine blk_drew ?_ | refine blk_alloc ?_ _)); refine blk_far ?_ NB125_139.out _; (with_reducible repeat (first | refine blk_drewN ?_ _ | refine blk_drew ?_ | refine blk_alloc ?_ _)); refine blk_far ?_ NB125_139.out _; (with_reducible repeat (first | refine blk_drewN ?_ _ | refine blk_drew ?_ | refine blk_alloc ?_ _)); refine blk_far ?_ NB125_139.out _; (with_reducible repeat (first | refine blk_drewN ?_ _ | refine blk_drew ?_ | refine blk_alloc ?_ _)); refine blk_far ?_ NB125_139.out _; exact bk_ BK125.out⟩, ⟨by (with_reducible repeat (first | refine blk_drewN ?_ _ | refine blk_drew ?_ | refine blk_alloc ?_ _)); refine blk_far ?_ NB126_139.out _; (with_reducible repeat (first | refine blk_drewN ?_ _ | refine blk_drew ?_ | refine blk_alloc ?_ _)); refine blk_far ?_ NB126_139.out _; (with_reducible repeat (first | refine blk_drewN ?_ _ | refine blk_drew ?_ | refine blk_alloc ?_ _)); refine blk_far ?_ NB126_139.out _; (with_reducible repeat (first | refine blk_drewN ?_ _ | refine blk_drew ?_ | refine blk_alloc ?_ _)); refine blk_far ?_ NB126_139.out _; exact bk_ BK126.out⟩, ⟨by (with_reducible repeat (first | refine blk_drewN ?_ _ | refine blk_drew ?_ | refine blk_alloc ?_ _)); refine blk_far ?_ NB127_139.out _; (with_reducible repeat (first | refine blk_drewN ?_ _ | refine blk_drew ?_ | refine blk_alloc ?_ _)); refine blk_far ?_ NB127_139.out _; (with_reducible repeat (first | refine blk_drewN ?_ _ | refine blk_drew ?_ | refine blk_alloc ?_ _)); refine blk_far ?_ NB127_139.out _; (with_reducible repeat (first | refine blk_drewN ?_ _ | refine blk_drew ?_ | refine blk_alloc ?_ _)); refine blk_far ?_ NB127_139.out _; exact bk_ BK127.out⟩, ⟨by (with_reducible repeat (first | refine blk_drewN ?_ _ | refine blk_drew ?_ | refine blk_alloc ?_ _)); refine blk_put (cs := #[.int .i64 t133, .int .i64 t134, .int .i64 t135, .slice none 0 0]) ?_ 3 _ rfl; (with_reducible repeat (first | refine blk_drewN ?_ _ | refine blk_drew ?_ | refine blk_alloc ?_ _)); refine blk_put (cs := #[.int .i64 t133, .int .i64 t134, .int .i64 0, .slice none 0 0]) ?_ 2 _ rfl; (with_reducible repeat (first | refine blk_drewN ?_ _ | refine blk_drew ?_ | refine blk_alloc ?_ _)); refine blk_put (cs := #[.int .i64 t133, .int .i64 0, .int .i64 0, .slice none 0 0]) ?_ 1 _ rfl; (with_reducible repeat (first | refine blk_drewN ?_ _ | refine blk_drew ?_ | refine blk_alloc ?_ _)); refine blk_put (cs := #[.int .i64 0, .int .i64 0, .int .i64 0, .slice none 0 0]) ?_ 0 _ rfl; exact bk_ BK139.out⟩, ⟨by repeat (first | (with_reducible first | exact HB.out | apply below_alloc | apply pw_below_drewN | apply below_drew1 | refine below_set ?_ GE124.out | refine below_set ?_ GE125.out | refine below_set ?_ GE126.out | refine below_set ?_ GE127.out | refine below_set ?_ GE139.out) | exact HB.out)⟩⟩
     case rest =>
      clear HC51
      try clear c1
      try clear c2
      try clear p2
      try clear c3
      try clear c4
      try clear c5
      try clear c6
      try clear c7
      try clear c8
      try clear c10
      try clear c11
      try clear c12
      try clear c13
      try clear c17
      try clear c19
      try clear c21
      try clear c23
      try clear c24
      try clear c25
      try clear c27
      try clear c28
      try clear c29
      try clear c32
      try clear c33
      try clear c34
      try clear c37
      try clear c38
      try clear c39
      try clear c41
      try clear c42
      try clear c43
      try clear c45
      try clear c46
      try clear c47
      try clear c48
      try clear c52
      try clear c53
      try clear c54
      try clear c56
      try clear c57
      try clear c61
      try clear c62
      try clear c63
      try clear c64
      try clear c67
      try clear c67b0
      try clear c67b1
      try clear c68
      try clear c69
      try clear c70
      try clear c71
      try clear c73
      try clear c74
      try clear c75
      try clear c76
      try clear c78
      try clear c79
      try clear c80
      try clear hcz14_0
      try clear hcz14_1
      try clear hcz14_2
      try clear hcz14_3
      try clear hcz26_0
      try clear hcz26_1
      try clear hcz26_2
      try clear hcz26_3
      try clear hcz30_0
      try clear hcz30_1
      try clear hcz35_0
      try clear hcz35_1
      try clear hcz35_2
      try clear hcz35_3
      try clear hcz40_0
      try clear hcz40_1
      try clear hcz40_2
      try clear hcz40_3
      try clear hcz44_0
      try clear hcz44_1
      try clear hcz44_2
      try clear hcz44_3
      try clear hcz49_0
      try clear hcz49_1
      try clear hcz49_2
      try clear hcz49_3
      try clear hcz55_0
      try clear hcz55_1
      try clear hcz55_2
      try clear hcz55_3
      try clear hcz58_0
      try clear hcz58_1
      try clear hcz58_2
      try clear hcz58_3
      try clear hcz65_0
      try clear hcz65_1
      try clear hcz65_2
      try clear hcz65_3
      try clear hcz72_0
      try clear hcz72_1
      try clear hcz72_2
      try clear hcz72_3
      try clear hcz77_0
      try clear hcz77_1
      try clear hcz77_2
      try clear hcz77_3
      try clear hcz81_0
      try clear hcz81_1
      try clear hcz81_2
      try clear hcz81_3
      try clear hfz14_0
      try clear hfz14_1
      try clear hfz14_2
      try clear hfz14_3
      try clear hfz26_0
      try clear hfz26_1
      try clear hfz26_2
      try clear hfz26_3
      try clear hfz30_0
      try clear hfz30_1
      try clear hfz35_0
      try clear hfz35_1
      try clear hfz35_2
      try clear hfz35_3
      try clear hfz40_0
      try clear hfz40_1
      try clear hfz40_2
      try clear hfz40_3
      try clear hfz44_0
      try clear hfz44_1
      try clear hfz44_2
      try clear hfz44_3
      try clear hfz49_0
      try clear hfz49_1
      try clear hfz49_2
      try clear hfz49_3
      try clear hfz55_0
      try clear hfz55_1
      try clear hfz55_2
      try clear hfz55_3
      try clear hfz58_0
      try clear hfz58_1
      try clear hfz58_2
      try clear hfz58_3
      try clear hfz65_0
      try clear hfz65_1
      try clear hfz65_2
      try clear hfz65_3
      try clear hfz72_0
      try clear hfz72_1
      try clear hfz72_2
      try clear hfz72_3
      try clear hfz77_0
      try clear hfz77_1
      try clear hfz77_2
      try clear hfz77_3
      try clear hfz81_0
      try clear hfz81_1
      try clear hfz81_2
      try clear hfz81_3
      try clear p2
      obtain ⟨kq, x10_50, rfl, HA, HJ50, HO_140003, BK124, BK125, BK126, BK127, BK139, HB⟩ := hcut
      cases kq with
      | zero => exact absurd HA.out (by simp [term_Grant.j1])
      | succ kj50 =>
       have H := HA.out
       clear HA
       simp only [term_Grant.j1] at H
       have HC82 := Aside0.mk H
       clear H
       go_upto_region 7 with (fail)
       go_cut [75] (fun v75 wc => ∃ (kq : Nat) (x75_81 : Bool), v75 = .bool x75_81 ∧ Aside0 (term_Grant.j2 kq x75_81 a1_0 a1_1 a1_2 a1_3 t133 t134 t135 t136 = some (r1, r2, r3, r4, r5, r6)) ∧ Aside0 (kq ≤ kj50) ∧ Aside0 (Kd.R (Kd.int .i64) 3 wc w.heap.size (fun _ => True) (.slice Ao66 t136.length co66) t136) ∧ Aside0 (wc.heap[gb124]? = some (.cells #[.int .i64 a0_0, .int .i64 a0_1, .int .i64 a0_2, (.slice A0_3 l0_3.length c0_3)] 26 (0, 0))) ∧ Aside0 (wc.heap[gb125]? = some (.cells #[.int .i64 a1_0, .int .i64 a1_1, .int .i64 a1_2, .int .i64 a1_3] 30 (0, 0))) ∧ Aside0 (wc.heap[gb126]? = some (.cells #[.int .i64 a2_0, .int .i64 a2_1] 28 (0, 0))) ∧ Aside0 (wc.heap[gb127]? = some (.cells #[.int .i64 0, .int .i64 0, .int .i64 0, (.slice none 0 0)] 26 (0, 0))) ∧ Aside0 (wc.heap[gb139]? = some (.cells #[.int .i64 t133, .int .i64 t134, .int .i64 t135, (.slice Ao66 t136.length co66)] 26 (0, 0))) ∧ Aside0 (Below w.heap.size w wc))
       case first =>
        have H := HC82.out
        clear HC82
        by_cases c83 : t133 > a1_1
        ·rw [if_pos c83] at H
         have c83b0 : decide (a1_1 < t133) = true := decide_eq_true c83
         clear c83
         (first | rw [c83b0] | (simp only [i64_w, i32_w]; rw [c83b0]) | skip)
         have H' := Aside0.mk H
         clear H
         have hnb84 := NB139_124.out
         have hnc84 := NB124_139.out
         have hnb85 := NB139_125.out
         have hnc85 := NB125_139.out
         have hnb86 := NB139_126.out
         have hnc86 := NB126_139.out
         have hnb87 := NB139_127.out
         have hnc87 := NB127_139.out
         have hcz88_0 : wc.cell? ⟨gb139, 0, none⟩ = some (.int .i64 t133) := (blk_cell BK139.out 0).trans rfl
         have hcz88_1 : wc.cell? ⟨gb139, 1, none⟩ = some (.int .i64 t134) := (blk_cell BK139.out 1).trans rfl
         have hcz88_2 : wc.cell? ⟨gb139, 2, none⟩ = some (.int .i64 t135) := (blk_cell BK139.out 2).trans rfl
         have hcz88_3 : wc.cell? ⟨gb139, 3, none⟩ = some (.slice Ao66 t136.length co66) := (blk_cell BK139.out 3).trans rfl
         have hfz88_0 := blk_frozen BK139.out 0
         have hfz88_1 := blk_frozen BK139.out 1
         have hfz88_2 := blk_frozen BK139.out 2
         have hfz88_3 := blk_frozen BK139.out 3
         have hnb89 := NB125_124.out
         have hnc89 := NB124_125.out
         have hnb90 := NB125_126.out
         have hnc90 := NB126_125.out
         have hnb91 := NB125_127.out
         have hnc91 := NB127_125.out
         have hcz92_0 : wc.cell? ⟨gb125, 0, none⟩ = some (.int .i64 a1_0) := (blk_cell BK125.out 0).trans rfl
         have hcz92_1 : wc.cell? ⟨gb125, 1, none⟩ = some (.int .i64 a1_1) := (blk_cell BK125.out 1).trans rfl
         have hcz92_2 : wc.cell? ⟨gb125, 2, none⟩ = some (.int .i64 a1_2) := (blk_cell BK125.out 2).trans rfl
         have hcz92_3 : wc.cell? ⟨gb125, 3, none⟩ = some (.int .i64 a1_3) := (blk_cell BK125.out 3).trans rfl
         have hfz92_0 := blk_frozen BK125.out 0
         have hfz92_1 := blk_frozen BK125.out 1
         have hfz92_2 := blk_frozen BK125.out 2
         have hfz92_3 := blk_frozen BK125.out 3
         go_wp2
         go_meet
         case rel => exact ⟨_, (true), (by first | rfl | (simp; done) | (simp [*]; done)), H', ⟨by have := HJ5.out; have := HJ50.out; first | omega | exact Nat.le_refl _⟩, ⟨by exact rk_ HO_140003.out⟩, ⟨by exact bk_ BK124.out⟩, ⟨by exact bk_ BK125.out⟩, ⟨by exact bk_ BK126.out⟩, ⟨by exact bk_ BK127.out⟩, ⟨by exact bk_ BK139.out⟩, ⟨by repeat (first | (with_reducible first | exact HB.out | apply below_alloc | apply pw_below_drewN | apply below_drew1 | refine below_set ?_ GE124.out | refine below_set ?_ GE125.out | refine below_set ?_ GE126.out | refine below_set ?_ GE127.out | refine below_set ?_ GE139.out) | exact HB.out)⟩⟩
        ·rw [if_neg c83] at H
         have c83b0 : decide (a1_1 < t133) = false := decide_eq_false c83
         clear c83
         (first | rw [c83b0] | (simp only [i64_w, i32_w]; rw [c83b0]) | skip)
         by_cases c93 : t135 = 1
         ·rw [if_pos c93] at H
          have c93b0 : (t135 == 1) = true := beq_iff_eq.mpr c93
          have c93b1 : (t135 != 1) = false := bne_eq_false_iff_eq.mpr c93
          clear c93
          by_cases c94 : x10_50 = true
          ·subst c94
           have H1 : ((term_Less.f a1_2 a1_3 a2_0 a2_1).bind fun t140 => (term_Grant.j2 kj50 t140 a1_0 a1_1 a1_2 a1_3 t133 t134 t135 t136)) = some (r1, r2, r3, r4, r5, r6) := by rw [if_pos rfl] at H; exact H
           clear H
           have H := H1
           clear H1
           replace H := Option.bind_eq_some_iff.mp H
           obtain ⟨t140, A950, H⟩ := H
           replace H : (term_Grant.j2 kj50 t140 a1_0 a1_1 a1_2 a1_3 t133 t134 t135 t136) = some (r1, r2, r3, r4, r5, r6) := H
           have A95 := Aside0.mk A950
           clear A950
           have H' := Aside0.mk H
           clear H
           have hnb96 := NB139_124.out
           have hnc96 := NB124_139.out
           have hnb97 := NB139_125.out
           have hnc97 := NB125_139.out
           have hnb98 := NB139_126.out
           have hnc98 := NB126_139.out
           have hnb99 := NB139_127.out
           have hnc99 := NB127_139.out
           have hcz100_0 : wc.cell? ⟨gb139, 0, none⟩ = some (.int .i64 t133) := (blk_cell BK139.out 0).trans rfl
           have hcz100_1 : wc.cell? ⟨gb139, 1, none⟩ = some (.int .i64 t134) := (blk_cell BK139.out 1).trans rfl
           have hcz100_2 : wc.cell? ⟨gb139, 2, none⟩ = some (.int .i64 t135) := (blk_cell BK139.out 2).trans rfl
           have hcz100_3 : wc.cell? ⟨gb139, 3, none⟩ = some (.slice Ao66 t136.length co66) := (blk_cell BK139.out 3).trans rfl
           have hfz100_0 := blk_frozen BK139.out 0
           have hfz100_1 := blk_frozen BK139.out 1
           have hfz100_2 := blk_frozen BK139.out 2
           have hfz100_3 := blk_frozen BK139.out 3
           have hnb101 := NB125_124.out
           have hnc101 := NB124_125.out
           have hnb102 := NB125_126.out
           have hnc102 := NB126_125.out
           have hnb103 := NB125_127.out
           have hnc103 := NB127_125.out
           have hcz104_0 : wc.cell? ⟨gb125, 0, none⟩ = some (.int .i64 a1_0) := (blk_cell BK125.out 0).trans rfl
           have hcz104_1 : wc.cell? ⟨gb125, 1, none⟩ = some (.int .i64 a1_1) := (blk_cell BK125.out 1).trans rfl
           have hcz104_2 : wc.cell? ⟨gb125, 2, none⟩ = some (.int .i64 a1_2) := (blk_cell BK125.out 2).trans rfl
           have hcz104_3 : wc.cell? ⟨gb125, 3, none⟩ = some (.int .i64 a1_3) := (blk_cell BK125.out 3).trans rfl
           have hfz104_0 := blk_frozen BK125.out 0
           have hfz104_1 := blk_frozen BK125.out 1
           have hfz104_2 := blk_frozen BK125.out 2
           have hfz104_3 := blk_frozen BK125.out 3
           have hnb105 := NB126_124.out
           have hnc105 := NB124_126.out
           have hnb106 := NB126_127.out
           have hnc106 := NB127_126.out
           have hcz107_0 : wc.cell? ⟨gb126, 0, none⟩ = some (.int .i64 a2_0) := (blk_cell BK126.out 0).trans rfl
           have hcz107_1 : wc.cell? ⟨gb126, 1, none⟩ = some (.int .i64 a2_1) := (blk_cell BK126.out 1).trans rfl
           have hfz107_0 := blk_frozen BK126.out 0
           have hfz107_1 := blk_frozen BK126.out 1
           go_wp2_with (first | (go_at_call 13; (with_reducible refine (term_Less.calls a1_2 a1_3 a2_0 a2_1 t140 _ A95.out).mono ?_); rintro e w108 ⟨rfl, hb⟩; have n0_ := Aside0.mk (Kd.R_below (by exact rk_ HO_140003.out) hb); have n1_ := Aside0.mk (blk_below (g := gb124) (o := .cells #[.int .i64 a0_0, .int .i64 a0_1, .int .i64 a0_2, .slice A0_3 l0_3.length c0_3] 26 (0, 0)) (by exact bk_ BK124.out) hb); have n2_ := Aside0.mk (blk_below (g := gb125) (o := .cells #[.int .i64 a1_0, .int .i64 a1_1, .int .i64 a1_2, .int .i64 a1_3] 30 (0, 0)) (by exact bk_ BK125.out) hb); have n3_ := Aside0.mk (blk_below (g := gb126) (o := .cells #[.int .i64 a2_0, .int .i64 a2_1] 28 (0, 0)) (by exact bk_ BK126.out) hb); have n4_ := Aside0.mk (blk_below (g := gb127) (o := .cells #[.int .i64 0, .int .i64 0, .int .i64 0, .slice none 0 0] 26 (0, 0)) (by exact bk_ BK127.out) hb); have n5_ := Aside0.mk (blk_below (g := gb139) (o := .cells #[.int .i64 t133, .int .i64 t134, .int .i64 t135, .slice Ao66 t136.length co66] 26 (0, 0)) (by exact bk_ BK139.out) hb); have n6_ := Aside0.mk (below_step (by repeat (first | (with_reducible first | exact HB.out | apply below_alloc | apply pw_below_drewN | apply below_drew1 | refine below_set ?_ GE124.out | refine below_set ?_ GE125.out | refine below_set ?_ GE126.out | refine below_set ?_ GE127.out | refine below_set ?_ GE139.out) | exact HB.out)) hb); clear HO_140003; clear BK124; clear BK125; clear BK126; clear BK127; clear BK139; clear HB; have HO_140003 := n0_; have BK124 := n1_; have BK125 := n2_; have BK126 := n3_; have BK127 := n4_; have BK139 := n5_; have HB := n6_; clear n0_ n1_ n2_ n3_ n4_ n5_ n6_; (try clear hb); (try clear hb2); (try clear hk); (try clear hi)))
           go_meet
           case rel => exact ⟨_, (t140), (by first | rfl | (simp; done) | (simp [*]; done)), H', ⟨by have := HJ5.out; have := HJ50.out; first | omega | exact Nat.le_refl _⟩, ⟨by exact rk_ HO_140003.out⟩, ⟨by exact bk_ BK124.out⟩, ⟨by exact bk_ BK125.out⟩, ⟨by exact bk_ BK126.out⟩, ⟨by exact bk_ BK127.out⟩, ⟨by exact bk_ BK139.out⟩, ⟨by repeat (first | (with_reducible first | exact HB.out | apply below_alloc | apply pw_below_drewN | apply below_drew1 | refine below_set ?_ GE124.out | refine below_set ?_ GE125.out | refine below_set ?_ GE126.out | refine below_set ?_ GE127.out | refine below_set ?_ GE139.out) | exact HB.out)⟩⟩
          ·replace c94 := Bool.eq_false_iff.mpr c94
           subst c94
           have H1 : (term_Grant.j2 kj50 true a1_0 a1_1 a1_2 a1_3 t133 t134 t135 t136) = some (r1, r2, r3, r4, r5, r6) := by rw [if_neg (show ¬ (false = true) by decide)] at H; exact H
           clear H
           have H := H1
           clear H1
           have H' := Aside0.mk H
           clear H
           have hnb109 := NB139_124.out
           have hnc109 := NB124_139.out
           have hnb110 := NB139_125.out
           have hnc110 := NB125_139.out
           have hnb111 := NB139_126.out
           have hnc111 := NB126_139.out
           have hnb112 := NB139_127.out
           have hnc112 := NB127_139.out
           have hcz113_0 : wc.cell? ⟨gb139, 0, none⟩ = some (.int .i64 t133) := (blk_cell BK139.out 0).trans rfl
           have hcz113_1 : wc.cell? ⟨gb139, 1, none⟩ = some (.int .i64 t134) := (blk_cell BK139.out 1).trans rfl
           have hcz113_2 : wc.cell? ⟨gb139, 2, none⟩ = some (.int .i64 t135) := (blk_cell BK139.out 2).trans rfl
           have hcz113_3 : wc.cell? ⟨gb139, 3, none⟩ = some (.slice Ao66 t136.length co66) := (blk_cell BK139.out 3).trans rfl
           have hfz113_0 := blk_frozen BK139.out 0
           have hfz113_1 := blk_frozen BK139.out 1
           have hfz113_2 := blk_frozen BK139.out 2
           have hfz113_3 := blk_frozen BK139.out 3
           have hnb114 := NB125_124.out
           have hnc114 := NB124_125.out
           have hnb115 := NB125_126.out
           have hnc115 := NB126_125.out
           have hnb116 := NB125_127.out
           have hnc116 := NB127_125.out
           have hcz117_0 : wc.cell? ⟨gb125, 0, none⟩ = some (.int .i64 a1_0) := (blk_cell BK125.out 0).trans rfl
           have hcz117_1 : wc.cell? ⟨gb125, 1, none⟩ = some (.int .i64 a1_1) := (blk_cell BK125.out 1).trans rfl
           have hcz117_2 : wc.cell? ⟨gb125, 2, none⟩ = some (.int .i64 a1_2) := (blk_cell BK125.out 2).trans rfl
           have hcz117_3 : wc.cell? ⟨gb125, 3, none⟩ = some (.int .i64 a1_3) := (blk_cell BK125.out 3).trans rfl
           have hfz117_0 := blk_frozen BK125.out 0
           have hfz117_1 := blk_frozen BK125.out 1
           have hfz117_2 := blk_frozen BK125.out 2
           have hfz117_3 := blk_frozen BK125.out 3
           go_wp2
           go_meet
           case rel => exact ⟨_, (true), (by first | rfl | (simp; done) | (simp [*]; done)), H', ⟨by have := HJ5.out; have := HJ50.out; first | omega | exact Nat.le_refl _⟩, ⟨by exact rk_ HO_140003.out⟩, ⟨by exact bk_ BK124.out⟩, ⟨by exact bk_ BK125.out⟩, ⟨by exact bk_ BK126.out⟩, ⟨by exact bk_ BK127.out⟩, ⟨by exact bk_ BK139.out⟩, ⟨by repeat (first | (with_reducible first | exact HB.out | apply below_alloc | apply pw_below_drewN | apply below_drew1 | refine below_set ?_ GE124.out | refine below_set ?_ GE125.out | refine below_set ?_ GE126.out | refine below_set ?_ GE127.out | refine below_set ?_ GE139.out) | exact HB.out)⟩⟩
         ·rw [if_neg c93] at H
          have c93b0 : (t135 == 1) = false := beq_eq_false_iff_ne.mpr c93
          have c93b1 : (t135 != 1) = true := bne_iff_ne.mpr c93
          have H' := Aside0.mk H
          clear H
          have hnb118 := NB139_124.out
          have hnc118 := NB124_139.out
          have hnb119 := NB139_125.out
          have hnc119 := NB125_139.out
          have hnb120 := NB139_126.out
          have hnc120 := NB126_139.out
          have hnb121 := NB139_127.out
          have hnc121 := NB127_139.out
          have hcz122_0 : wc.cell? ⟨gb139, 0, none⟩ = some (.int .i64 t133) := (blk_cell BK139.out 0).trans rfl
          have hcz122_1 : wc.cell? ⟨gb139, 1, none⟩ = some (.int .i64 t134) := (blk_cell BK139.out 1).trans rfl
          have hcz122_2 : wc.cell? ⟨gb139, 2, none⟩ = some (.int .i64 t135) := (blk_cell BK139.out 2).trans rfl
          have hcz122_3 : wc.cell? ⟨gb139, 3, none⟩ = some (.slice Ao66 t136.length co66) := (blk_cell BK139.out 3).trans rfl
          have hfz122_0 := blk_frozen BK139.out 0
          have hfz122_1 := blk_frozen BK139.out 1
          have hfz122_2 := blk_frozen BK139.out 2
          have hfz122_3 := blk_frozen BK139.out 3
          have hnb123 := NB125_124.out
          have hnc123 := NB124_125.out
          have hnb124 := NB125_126.out
          have hnc124 := NB126_125.out
          have hnb125 := NB125_127.out
          have hnc125 := NB127_125.out
          have hcz126_0 : wc.cell? ⟨gb125, 0, none⟩ = some (.int .i64 a1_0) := (blk_cell BK125.out 0).trans rfl
          have hcz126_1 : wc.cell? ⟨gb125, 1, none⟩ = some (.int .i64 a1_1) := (blk_cell BK125.out 1).trans rfl
          have hcz126_2 : wc.cell? ⟨gb125, 2, none⟩ = some (.int .i64 a1_2) := (blk_cell BK125.out 2).trans rfl
          have hcz126_3 : wc.cell? ⟨gb125, 3, none⟩ = some (.int .i64 a1_3) := (blk_cell BK125.out 3).trans rfl
          have hfz126_0 := blk_frozen BK125.out 0
          have hfz126_1 := blk_frozen BK125.out 1
          have hfz126_2 := blk_frozen BK125.out 2
          have hfz126_3 := blk_frozen BK125.out 3
          go_wp2
          go_meet
          case rel => exact ⟨_, (true), (by first | rfl | (simp; done) | (simp [*]; done)), H', ⟨by have := HJ5.out; have := HJ50.out; first | omega | exact Nat.le_refl _⟩, ⟨by exact rk_ HO_140003.out⟩, ⟨by exact bk_ BK124.out⟩, ⟨by exact bk_ BK125.out⟩, ⟨by exact bk_ BK126.out⟩, ⟨by exact bk_ BK127.out⟩, ⟨by exact bk_ BK139.out⟩, ⟨by repeat (first | (with_reducible first | exact HB.out | apply below_alloc | apply pw_below_drewN | apply below_drew1 | refine below_set ?_ GE124.out | refine below_set ?_ GE125.out | refine below_set ?_ GE126.out | refine below_set ?_ GE127.out | refine below_set ?_ GE139.out) | exact HB.out)⟩⟩
       case rest =>
        clear HC82
        try clear c1
        try clear c2
        try clear p2
        try clear c3
        try clear c4
        try clear c5
        try clear c6
        try clear c7
        try clear c8
        try clear c9
        try clear c10
        try clear c11
        try clear c12
        try clear c13
        try clear c17
        try clear c19
        try clear c21
        try clear c23
        try clear c24
        try clear c25
        try clear c27
        try clear c28
        try clear c29
        try clear c32
        try clear c33
        try clear c34
        try clear c37
        try clear c38
        try clear c39
        try clear c41
        try clear c42
        try clear c43
        try clear c45
        try clear c46
        try clear c47
        try clear c48
        try clear c52
        try clear c53
        try clear c54
        try clear c56
        try clear c57
        try clear c61
        try clear c62
        try clear c63
        try clear c64
        try clear c67
        try clear c67b0
        try clear c67b1
        try clear c68
        try clear c69
        try clear c70
        try clear c71
        try clear c73
        try clear c74
        try clear c75
        try clear c76
        try clear c78
        try clear c79
        try clear c80
        try clear c83
        try clear c83b0
        try clear c84
        try clear c85
        try clear c86
        try clear c87
        try clear c89
        try clear c90
        try clear c91
        try clear c93
        try clear c93b0
        try clear c93b1
        try clear c94
        try clear c96
        try clear c97
        try clear c98
        try clear c99
        try clear c101
        try clear c102
        try clear c103
        try clear c105
        try clear c106
        try clear c109
        try clear c110
        try clear c111
        try clear c112
        try clear c114
        try clear c115
        try clear c116
        try clear c118
        try clear c119
        try clear c120
        try clear c121
        try clear c123
        try clear c124
        try clear c125
        try clear hcz100_0
        try clear hcz100_1
        try clear hcz100_2
        try clear hcz100_3
        try clear hcz104_0
        try clear hcz104_1
        try clear hcz104_2
        try clear hcz104_3
        try clear hcz107_0
        try clear hcz107_1
        try clear hcz113_0
        try clear hcz113_1
        try clear hcz113_2
        try clear hcz113_3
        try clear hcz117_0
        try clear hcz117_1
        try clear hcz117_2
        try clear hcz117_3
        try clear hcz122_0
        try clear hcz122_1
        try clear hcz122_2
        try clear hcz122_3
        try clear hcz126_0
        try clear hcz126_1
        try clear hcz126_2
        try clear hcz126_3
        try clear hcz14_0
        try clear hcz14_1
        try clear hcz14_2
        try clear hcz14_3
        try clear hcz26_0
        try clear hcz26_1
        try clear hcz26_2
        try clear hcz26_3
        try clear hcz30_0
        try clear hcz30_1
        try clear hcz35_0
        try clear hcz35_1
        try clear hcz35_2
        try clear hcz35_3
        try clear hcz40_0
        try clear hcz40_1
        try clear hcz40_2
        try clear hcz40_3
        try clear hcz44_0
        try clear hcz44_1
        try clear hcz44_2
        try clear hcz44_3
        try clear hcz49_0
        try clear hcz49_1
        try clear hcz49_2
        try clear hcz49_3
        try clear hcz55_0
        try clear hcz55_1
        try clear hcz55_2
        try clear hcz55_3
        try clear hcz58_0
        try clear hcz58_1
        try clear hcz58_2
        try clear hcz58_3
        try clear hcz65_0
        try clear hcz65_1
        try clear hcz65_2
        try clear hcz65_3
        try clear hcz72_0
        try clear hcz72_1
        try clear hcz72_2
        try clear hcz72_3
        try clear hcz77_0
        try clear hcz77_1
        try clear hcz77_2
        try clear hcz77_3
        try clear hcz81_0
        try clear hcz81_1
        try clear hcz81_2
        try clear hcz81_3
        try clear hcz88_0
        try clear hcz88_1
        try clear hcz88_2
        try clear hcz88_3
        try clear hcz92_0
        try clear hcz92_1
        try clear hcz92_2
        try clear hcz92_3
        try clear hfz100_0
        try clear hfz100_1
        try clear hfz100_2
        try clear hfz100_3
        try clear hfz104_0
        try clear hfz104_1
        try clear hfz104_2
        try clear hfz104_3
        try clear hfz107_0
        try clear hfz107_1
        try clear hfz113_0
        try clear hfz113_1
        try clear hfz113_2
        try clear hfz113_3
        try clear hfz117_0
        try clear hfz117_1
        try clear hfz117_2
        try clear hfz117_3
        try clear hfz122_0
        try clear hfz122_1
        try clear hfz122_2
        try clear hfz122_3
        try clear hfz126_0
        try clear hfz126_1
        try clear hfz126_2
        try clear hfz126_3
        try clear hfz14_0
        try clear hfz14_1
        try clear hfz14_2
        try clear hfz14_3
        try clear hfz26_0
        try clear hfz26_1
        try clear hfz26_2
        try clear hfz26_3
        try clear hfz30_0
        try clear hfz30_1
        try clear hfz35_0
        try clear hfz35_1
        try clear hfz35_2
        try clear hfz35_3
        try clear hfz40_0
        try clear hfz40_1
        try clear hfz40_2
        try clear hfz40_3
        try clear hfz44_0
        try clear hfz44_1
        try clear hfz44_2
        try clear hfz44_3
        try clear hfz49_0
        try clear hfz49_1
        try clear hfz49_2
        try clear hfz49_3
        try clear hfz55_0
        try clear hfz55_1
        try clear hfz55_2
        try clear hfz55_3
        try clear hfz58_0
        try clear hfz58_1
        try clear hfz58_2
        try clear hfz58_3
        try clear hfz65_0
        try clear hfz65_1
        try clear hfz65_2
        try clear hfz65_3
        try clear hfz72_0
        try clear hfz72_1
        try clear hfz72_2
        try clear hfz72_3
        try clear hfz77_0
        try clear hfz77_1
        try clear hfz77_2
        try clear hfz77_3
        try clear hfz81_0
        try clear hfz81_1
        try clear hfz81_2
        try clear hfz81_3
        try clear hfz88_0
        try clear hfz88_1
        try clear hfz88_2
        try clear hfz88_3
        try clear hfz92_0
        try clear hfz92_1
        try clear hfz92_2
        try clear hfz92_3
        try clear p2
        obtain ⟨kq, x75_81, rfl, HA, HJ81, HO_140003, BK124, BK125, BK126, BK127, BK139, HB⟩ := hcut
        cases kq with
        | zero => exact absurd HA.out (by simp [term_Grant.j2])
        | succ kj81 =>
         have H := HA.out
         clear HA
         simp only [term_Grant.j2] at H
         by_cases c127 : x75_81 = true
         ·subst c127
          have H1 : (some (t133, t134, t135, t136, false, 0)) = some (r1, r2, r3, r4, r5, r6) := by rw [if_pos rfl] at H; exact H
          clear H
          have H := H1
          clear H1
          simp only [Option.some.injEq, Prod.mk.injEq] at H
          obtain ⟨rfl, rfl, rfl, rfl, rfl, rfl⟩ := H
          have hnb128 := NB139_124.out
          have hnc128 := NB124_139.out
          have hnb129 := NB139_125.out
          have hnc129 := NB125_139.out
          have hnb130 := NB139_126.out
          have hnc130 := NB126_139.out
          have hnb131 := NB139_127.out
          have hnc131 := NB127_139.out
          have hcz132_0 : wc.cell? ⟨gb139, 0, none⟩ = some (.int .i64 t133) := (blk_cell BK139.out 0).trans rfl
          have hcz132_1 : wc.cell? ⟨gb139, 1, none⟩ = some (.int .i64 t134) := (blk_cell BK139.out 1).trans rfl
          have hcz132_2 : wc.cell? ⟨gb139, 2, none⟩ = some (.int .i64 t135) := (blk_cell BK139.out 2).trans rfl
          have hcz132_3 : wc.cell? ⟨gb139, 3, none⟩ = some (.slice Ao66 t136.length co66) := (blk_cell BK139.out 3).trans rfl
          have hfz132_0 := blk_frozen BK139.out 0
          have hfz132_1 := blk_frozen BK139.out 1
          have hfz132_2 := blk_frozen BK139.out 2
          have hfz132_3 := blk_frozen BK139.out 3
          have hnb133 := NB127_124.out
          have hnc133 := NB124_127.out
          have hnb134 := NB127_125.out
          have hnc134 := NB125_127.out
          have hnb135 := NB127_126.out
          have hnc135 := NB126_127.out
          have hcz136_0 : wc.cell? ⟨gb127, 0, none⟩ = some (.int .i64 0) := (blk_cell BK127.out 0).trans rfl
          have hcz136_1 : wc.cell? ⟨gb127, 1, none⟩ = some (.int .i64 0) := (blk_cell BK127.out 1).trans rfl
          have hcz136_2 : wc.cell? ⟨gb127, 2, none⟩ = some (.int .i64 0) := (blk_cell BK127.out 2).trans rfl
          have hcz136_3 : wc.cell? ⟨gb127, 3, none⟩ = some (.slice none 0 0) := (blk_cell BK127.out 3).trans rfl
          have hfz136_0 := blk_frozen BK127.out 0
          have hfz136_1 := blk_frozen BK127.out 1
          have hfz136_2 := blk_frozen BK127.out 2
          have hfz136_3 := blk_frozen BK127.out 3
          go_wp2
          refine bodyPost_ret (results_ctt rfl _ _ gb127 26 #[.int .i64 t133, .int .i64 t134, .int .i64 t135, .slice Ao66 t136.length co66] (0, 0) _ rfl (by (with_reducible repeat (first | refine blk_drewN ?_ _ | refine blk_drew ?_ | refine blk_alloc ?_ _)); refine blk_put (cs := #[.int .i64 t133, .int .i64 t134, .int .i64 t135, .slice none 0 0]) ?_ 3 _ rfl; (with_reducible repeat (first | refine blk_drewN ?_ _ | refine blk_drew ?_ | refine blk_alloc ?_ _)); refine blk_put (cs := #[.int .i64 t133, .int .i64 t134, .int .i64 0, .slice none 0 0]) ?_ 2 _ rfl; (with_reducible repeat (first | refine blk_drewN ?_ _ | refine blk_drew ?_ | refine blk_alloc ?_ _)); refine blk_put (cs := #[.int .i64 t133, .int .i64 0, .int .i64 0, .slice none 0 0]) ?_ 1 _ rfl; (with_reducible repeat (first | refine blk_drewN ?_ _ | refine blk_drew ?_ | refine blk_alloc ?_ _)); refine blk_put (cs := #[.int .i64 0, .int .i64 0, .int .i64 0, .slice none 0 0]) ?_ 0 _ rfl; exact bk_ BK127.out) Try.underlying26 rfl (by kernel_rfl)) rfl ?_
          exact ⟨_, by first | rfl | (simp [errW_none, errW_some] <;> rfl) | (simp [*, errW_none, errW_some] <;> rfl), by (with_reducible repeat (first | apply Kd.R_alloc | apply Kd.R_drewN | apply Kd.R_drew)); exact Kd.R_mono (Kd.R_far (p := ⟨gb127, 3, none⟩) (Kd.R_far (p := ⟨gb127, 2, none⟩) (Kd.R_far (p := ⟨gb127, 1, none⟩) (Kd.R_far (p := ⟨gb127, 0, none⟩) (Kd.R_types HO_140003.out BK127.out (by decide)) (fun _ hk => hk.2) (.int .i64 t133)) (fun _ hk => hk.2) (.int .i64 t134)) (fun _ hk => hk.2) (.int .i64 t135)) (fun _ hk => hk.2) (.slice Ao66 t136.length co66)) (fun _ hk => trivial), by repeat (first | (with_reducible first | exact HB.out | apply below_alloc | apply pw_below_drewN | apply below_drew1 | refine below_set ?_ GE124.out | refine below_set ?_ GE125.out | refine below_set ?_ GE126.out | refine below_set ?_ GE127.out | refine below_set ?_ GE139.out) | exact HB.out)⟩
         ·replace c127 := Bool.eq_false_iff.mpr c127
          subst c127
          have H1 : (some (t133, a1_0, t135, t136, true, 0)) = some (r1, r2, r3, r4, r5, r6) := by rw [if_neg (show ¬ (false = true) by decide)] at H; exact H
          clear H
          have H := H1
          clear H1
          simp only [Option.some.injEq, Prod.mk.injEq] at H
          obtain ⟨rfl, rfl, rfl, rfl, rfl, rfl⟩ := H
          have hnb137 := NB125_124.out
          have hnc137 := NB124_125.out
          have hnb138 := NB125_126.out
          have hnc138 := NB126_125.out
          have hnb139 := NB125_127.out
          have hnc139 := NB127_125.out
          have hnb140 := NB125_139.out
          have hnc140 := NB139_125.out
          have hcz141_0 : wc.cell? ⟨gb125, 0, none⟩ = some (.int .i64 a1_0) := (blk_cell BK125.out 0).trans rfl
          have hcz141_1 : wc.cell? ⟨gb125, 1, none⟩ = some (.int .i64 a1_1) := (blk_cell BK125.out 1).trans rfl
          have hcz141_2 : wc.cell? ⟨gb125, 2, none⟩ = some (.int .i64 a1_2) := (blk_cell BK125.out 2).trans rfl
          have hcz141_3 : wc.cell? ⟨gb125, 3, none⟩ = some (.int .i64 a1_3) := (blk_cell BK125.out 3).trans rfl
          have hfz141_0 := blk_frozen BK125.out 0
          have hfz141_1 := blk_frozen BK125.out 1
          have hfz141_2 := blk_frozen BK125.out 2
          have hfz141_3 := blk_frozen BK125.out 3
          have hnb142 := NB139_124.out
          have hnc142 := NB124_139.out
          have hnb143 := NB139_126.out
          have hnc143 := NB126_139.out
          have hnb144 := NB139_127.out
          have hnc144 := NB127_139.out
          have hcz145_0 : wc.cell? ⟨gb139, 0, none⟩ = some (.int .i64 t133) := (blk_cell BK139.out 0).trans rfl
          have hcz145_1 : wc.cell? ⟨gb139, 1, none⟩ = some (.int .i64 t134) := (blk_cell BK139.out 1).trans rfl
          have hcz145_2 : wc.cell? ⟨gb139, 2, none⟩ = some (.int .i64 t135) := (blk_cell BK139.out 2).trans rfl
          have hcz145_3 : wc.cell? ⟨gb139, 3, none⟩ = some (.slice Ao66 t136.length co66) := (blk_cell BK139.out 3).trans rfl
          have hfz145_0 := blk_frozen BK139.out 0
          have hfz145_1 := blk_frozen BK139.out 1
          have hfz145_2 := blk_frozen BK139.out 2
          have hfz145_3 := blk_frozen BK139.out 3
          have hnb146 := NB127_124.out
          have hnc146 := NB124_127.out
          have hnb147 := NB127_126.out
          have hnc147 := NB126_127.out
          have hcz148_0 : wc.cell? ⟨gb127, 0, none⟩ = some (.int .i64 0) := (blk_cell BK127.out 0).trans rfl
          have hcz148_1 : wc.cell? ⟨gb127, 1, none⟩ = some (.int .i64 0) := (blk_cell BK127.out 1).trans rfl
          have hcz148_2 : wc.cell? ⟨gb127, 2, none⟩ = some (.int .i64 0) := (blk_cell BK127.out 2).trans rfl
          have hcz148_3 : wc.cell? ⟨gb127, 3, none⟩ = some (.slice none 0 0) := (blk_cell BK127.out 3).trans rfl
          have hfz148_0 := blk_frozen BK127.out 0
          have hfz148_1 := blk_frozen BK127.out 1
          have hfz148_2 := blk_frozen BK127.out 2
          have hfz148_3 := blk_frozen BK127.out 3
          go_wp2
          refine bodyPost_ret (results_ctt rfl _ _ gb127 26 #[.int .i64 t133, .int .i64 a1_0, .int .i64 t135, .slice Ao66 t136.length co66] (0, 0) _ rfl (by (with_reducible repeat (first | refine blk_drewN ?_ _ | refine blk_drew ?_ | refine blk_alloc ?_ _)); refine blk_put (cs := #[.int .i64 t133, .int .i64 a1_0, .int .i64 t135, .slice none 0 0]) ?_ 3 _ rfl; (with_reducible repeat (first | refine blk_drewN ?_ _ | refine blk_drew ?_ | refine blk_alloc ?_ _)); refine blk_put (cs := #[.int .i64 t133, .int .i64 a1_0, .int .i64 0, .slice none 0 0]) ?_ 2 _ rfl; (with_reducible repeat (first | refine blk_drewN ?_ _ | refine blk_drew ?_ | refine blk_alloc ?_ _)); refine blk_put (cs := #[.int .i64 t133, .int .i64 0, .int .i64 0, .slice none 0 0]) ?_ 1 _ rfl; (with_reducible repeat (first | refine blk_drewN ?_ _ | refine blk_drew ?_ | refine blk_alloc ?_ _)); refine blk_put (cs := #[.int .i64 0, .int .i64 0, .int .i64 0, .slice none 0 0]) ?_ 0 _ rfl; (with_reducible repeat (first | refine blk_drewN ?_ _ | refine blk_drew ?_ | refine blk_alloc ?_ _)); refine blk_far ?_ NB127_139.out _; exact bk_ BK127.out) Try.underlying26 rfl (by kernel_rfl)) rfl ?_
          exact ⟨_, by first | rfl | (simp [errW_none, errW_some] <;> rfl) | (simp [*, errW_none, errW_some] <;> rfl), by (with_reducible repeat (first | apply Kd.R_alloc | apply Kd.R_drewN | apply Kd.R_drew)); exact Kd.R_mono (Kd.R_far (p := ⟨gb127, 3, none⟩) (Kd.R_far (p := ⟨gb127, 2, none⟩) (Kd.R_far (p := ⟨gb127, 1, none⟩) (Kd.R_far (p := ⟨gb127, 0, none⟩) (Kd.R_far (p := ⟨gb139, 1, none⟩) (Kd.R_types (Kd.R_types HO_140003.out BK139.out (by decide)) BK127.out (by decide)) (fun _ hk => hk.1.2) (.int .i64 a1_0)) (fun _ hk => hk.2) (.int .i64 t133)) (fun _ hk => hk.2) (.int .i64 a1_0)) (fun _ hk => hk.2) (.int .i64 t135)) (fun _ hk => hk.2) (.slice Ao66 t136.length co66)) (fun _ hk => trivial), by repeat (first | (with_reducible first | exact HB.out | apply below_alloc | apply pw_below_drewN | apply below_drew1 | refine below_set ?_ GE124.out | refine below_set ?_ GE125.out | refine below_set ?_ GE126.out | refine below_set ?_ GE127.out | refine below_set ?_ GE139.out) | exact HB.out)⟩
 ·replace c5 := Bool.eq_false_iff.mpr c5
  subst c5
  have H1 : (some (0, 0, 0, ([] : List Int), false, 70)) = some (r1, r2, r3, r4, r5, r6) := by rw [if_neg (show ¬ (false = true) by decide)] at H; exact H
  clear H
  have H := H1
  clear H1
  simp only [Option.some.injEq, Prod.mk.injEq] at H
  obtain ⟨rfl, rfl, rfl, rfl, rfl, rfl⟩ := H
  go_enter Try.func10, Try.ntmps10
  go_wp2_with (first | ((with_reducible refine gate_dst (N := 3) rfl ?_); refine box_event ?hg (N := 3) ?hd (cs := #[.int .i64 a0_0, .int .i64 a0_1, .int .i64 a0_2, .slice A0_3 l0_3.length c0_3]) (t := 26) ?hr ?_; (case hd => rfl); (case hg => rfl); (case hr => first | (go_simp; done) | (go_simp; rfl)); intro gb124 hg w149 hbox hb; have n0_ := Aside0.mk (below_step (by exact bl_ HB.out) hb); have n1_ := Aside0.mk (hbox); have n2_ := Aside0.mk ((by rw [hg]; exact (below_size (by exact bl_ HB.out)) : w.heap.size ≤ gb124)); have n3_ := Aside0.mk ((by rw [hg]; exact (below_size (by exact bl_ HB.out)) : w.heap.size ≤ gb124)); clear HB; have HB := n0_; have BK124 := n1_; have GW124 := n2_; have GE124 := n3_; clear n0_ n1_ n2_ n3_; clear hb hbox hg) | ((with_reducible refine gate_dst (N := 4) rfl ?_); refine box_event ?hg (N := 4) ?hd (cs := #[.int .i64 a1_0, .int .i64 a1_1, .int .i64 a1_2, .int .i64 a1_3]) (t := 30) ?hr ?_; (case hd => rfl); (case hg => rfl); (case hr => first | (go_simp; done) | (go_simp; rfl)); intro gb125 hg w150 hbox hb; have n0_ := Aside0.mk (blk_below (g := gb124) (o := .cells #[.int .i64 a0_0, .int .i64 a0_1, .int .i64 a0_2, .slice A0_3 l0_3.length c0_3] 26 (0, 0)) (by exact bk_ BK124.out) hb); have n1_ := Aside0.mk (below_step (by repeat (first | (with_reducible first | exact HB.out | apply below_alloc | apply pw_below_drewN | apply below_drew1 | refine below_set ?_ GE124.out) | exact HB.out)) hb); have n2_ := Aside0.mk (hbox); have n3_ := Aside0.mk ((by rw [hg]; exact (below_size (by repeat (first | (with_reducible first | exact HB.out | apply below_alloc | apply pw_below_drewN | apply below_drew1 | refine below_set ?_ GE124.out) | exact HB.out))) : w.heap.size ≤ gb125)); have n4_ := Aside0.mk ((by rw [hg]; exact (below_size (by repeat (first | (with_reducible first | exact HB.out | apply below_alloc | apply pw_below_drewN | apply below_drew1 | refine below_set ?_ GE124.out) | exact HB.out))) : w.heap.size ≤ gb125)); have n5_ := Aside0.mk ((by rw [hg]; exact Nat.ne_of_lt (blk_lt (g := gb124) (o := .cells #[.int .i64 a0_0, .int .i64 a0_1, .int .i64 a0_2, .slice A0_3 l0_3.length c0_3] 26 (0, 0)) (by exact bk_ BK124.out)) : gb124 ≠ gb125)); have n6_ := Aside0.mk ((by rw [hg]; exact Nat.ne_of_gt (blk_lt (g := gb124) (o := .cells #[.int .i64 a0_0, .int .i64 a0_1, .int .i64 a0_2, .slice A0_3 l0_3.length c0_3] 26 (0, 0)) (by exact bk_ BK124.out)) : gb125 ≠ gb124)); clear BK124; clear HB; have BK124 := n0_; have HB := n1_; have BK125 := n2_; have GW125 := n3_; have GE125 := n4_; have NB124_125 := n5_; have NB125_124 := n6_; clear n0_ n1_ n2_ n3_ n4_ n5_ n6_; clear hb hbox hg) | ((with_reducible refine gate_dst (N := 5) rfl ?_); refine box_event ?hg (N := 5) ?hd (cs := #[.int .i64 a2_0, .int .i64 a2_1]) (t := 28) ?hr ?_; (case hd => rfl); (case hg => rfl); (case hr => first | (go_simp; done) | (go_simp; rfl)); intro gb126 hg w151 hbox hb; have n0_ := Aside0.mk (blk_below (g := gb124) (o := .cells #[.int .i64 a0_0, .int .i64 a0_1, .int .i64 a0_2, .slice A0_3 l0_3.length c0_3] 26 (0, 0)) (by exact bk_ BK124.out) hb); have n1_ := Aside0.mk (blk_below (g := gb125) (o := .cells #[.int .i64 a1_0, .int .i64 a1_1, .int .i64 a1_2, .int .i64 a1_3] 30 (0, 0)) (by exact bk_ BK125.out) hb); have n2_ := Aside0.mk (below_step (by repeat (first | (with_reducible first | exact HB.out | apply below_alloc | apply pw_below_drewN | apply below_drew1 | refine below_set ?_ GE124.out | refine below_set ?_ GE125.out) | exact HB.out)) hb); have n3_ := Aside0.mk (hbox); have n4_ := Aside0.mk ((by rw [hg]; exact (below_size (by repeat (first | (with_reducible first | exact HB.out | apply below_alloc | apply pw_below_drewN | apply below_drew1 | refine below_set ?_ GE124.out | refine below_set ?_ GE125.out) | exact HB.out))) : w.heap.size ≤ gb126)); have n5_ := Aside0.mk ((by rw [hg]; exact (below_size (by repeat (first | (with_reducible first | exact HB.out | apply below_alloc | apply pw_below_drewN | apply below_drew1 | refine below_set ?_ GE124.out | refine below_set ?_ GE125.out) | exact HB.out))) : w.heap.size ≤ gb126)); have n6_ := Aside0.mk ((by rw [hg]; exact Nat.ne_of_lt (blk_lt (g := gb124) (o := .cells #[.int .i64 a0_0, .int .i64 a0_1, .int .i64 a0_2, .slice A0_3 l0_3.length c0_3] 26 (0, 0)) (by exact bk_ BK124.out)) : gb124 ≠ gb126)); have n7_ := Aside0.mk ((by rw [hg]; exact Nat.ne_of_gt (blk_lt (g := gb124) (o := .cells #[.int .i64 a0_0, .int .i64 a0_1, .int .i64 a0_2, .slice A0_3 l0_3.length c0_3] 26 (0, 0)) (by exact bk_ BK124.out)) : gb126 ≠ gb124)); have n8_ := Aside0.mk ((by rw [hg]; exact Nat.ne_of_lt (blk_lt (g := gb125) (o := .cells #[.int .i64 a1_0, .int .i64 a1_1, .int .i64 a1_2, .int .i64 a1_3] 30 (0, 0)) (by exact bk_ BK125.out)) : gb125 ≠ gb126)); have n9_ := Aside0.mk ((by rw [hg]; exact Nat.ne_of_gt (blk_lt (g := gb125) (o := .cells #[.int .i64 a1_0, .int .i64 a1_1, .int .i64 a1_2, .int .i64 a1_3] 30 (0, 0)) (by exact bk_ BK125.out)) : gb126 ≠ gb125)); clear BK124; clear BK125; clear HB; have BK124 := n0_; have BK125 := n1_; have HB := n2_; have BK126 := n3_; have GW126 := n4_; have GE126 := n5_; have NB124_126 := n6_; have NB126_124 := n7_; have NB125_126 := n8_; have NB126_125 := n9_; clear n0_ n1_ n2_ n3_ n4_ n5_ n6_ n7_ n8_ n9_; clear hb hbox hg) | ((with_reducible refine gate_dst (N := 6) rfl ?_); refine box_event ?hg (N := 6) ?hd (cs := #[.int .i64 0, .int .i64 0, .int .i64 0, .slice none 0 0]) (t := 26) ?hr ?_; (case hd => rfl); (case hg => rfl); (case hr => first | (go_simp; done) | (go_simp; rfl)); intro gb127 hg w152 hbox hb; have n0_ := Aside0.mk (blk_below (g := gb124) (o := .cells #[.int .i64 a0_0, .int .i64 a0_1, .int .i64 a0_2, .slice A0_3 l0_3.length c0_3] 26 (0, 0)) (by exact bk_ BK124.out) hb); have n1_ := Aside0.mk (blk_below (g := gb125) (o := .cells #[.int .i64 a1_0, .int .i64 a1_1, .int .i64 a1_2, .int .i64 a1_3] 30 (0, 0)) (by exact bk_ BK125.out) hb); have n2_ := Aside0.mk (blk_below (g := gb126) (o := .cells #[.int .i64 a2_0, .int .i64 a2_1] 28 (0, 0)) (by exact bk_ BK126.out) hb); have n3_ := Aside0.mk (below_step (by repeat (first | (with_reducible first | exact HB.out | apply below_alloc | apply pw_below_drewN | apply below_drew1 | refine below_set ?_ GE124.out | refine below_set ?_ GE125.out | refine below_set ?_ GE126.out) | exact HB.out)) hb); have n4_ := Aside0.mk (hbox); have n5_ := Aside0.mk ((by rw [hg]; exact (below_size (by repeat (first | (with_reducible first | exact HB.out | apply below_alloc | apply pw_below_drewN | apply below_drew1 | refine below_set ?_ GE124.out | refine below_set ?_ GE125.out | refine below_set ?_ GE126.out) | exact HB.out))) : w.heap.size ≤ gb127)); have n6_ := Aside0.mk ((by rw [hg]; exact (below_size (by repeat (first | (with_reducible first | exact HB.out | apply below_alloc | apply pw_below_drewN | apply below_drew1 | refine below_set ?_ GE124.out | refine below_set ?_ GE125.out | refine below_set ?_ GE126.out) | exact HB.out))) : w.heap.size ≤ gb127)); have n7_ := Aside0.mk ((by rw [hg]; exact Nat.ne_of_lt (blk_lt (g := gb124) (o := .cells #[.int .i64 a0_0, .int .i64 a0_1, .int .i64 a0_2, .slice A0_3 l0_3.length c0_3] 26 (0, 0)) (by exact bk_ BK124.out)) : gb124 ≠ gb127)); have n8_ := Aside0.mk ((by rw [hg]; exact Nat.ne_of_gt (blk_lt (g := gb124) (o := .cells #[.int .i64 a0_0, .int .i64 a0_1, .int .i64 a0_2, .slice A0_3 l0_3.length c0_3] 26 (0, 0)) (by exact bk_ BK124.out)) : gb127 ≠ gb124)); have n9_ := Aside0.mk ((by rw [hg]; exact Nat.ne_of_lt (blk_lt (g := gb125) (o := .cells #[.int .i64 a1_0, .int .i64 a1_1, .int .i64 a1_2, .int .i64 a1_3] 30 (0, 0)) (by exact bk_ BK125.out)) : gb125 ≠ gb127)); have n10_ := Aside0.mk ((by rw [hg]; exact Nat.ne_of_gt (blk_lt (g := gb125) (o := .cells #[.int .i64 a1_0, .int .i64 a1_1, .int .i64 a1_2, .int .i64 a1_3] 30 (0, 0)) (by exact bk_ BK125.out)) : gb127 ≠ gb125)); have n11_ := Aside0.mk ((by rw [hg]; exact Nat.ne_of_lt (blk_lt (g := gb126) (o := .cells #[.int .i64 a2_0, .int .i64 a2_1] 28 (0, 0)) (by exact bk_ BK126.out)) : gb126 ≠ gb127)); have n12_ := Aside0.mk ((by rw [hg]; exact Nat.ne_of_gt (blk_lt (g := gb126) (o := .cells #[.int .i64 a2_0, .int .i64 a2_1] 28 (0, 0)) (by exact bk_ BK126.out)) : gb127 ≠ gb126)); clear BK124; clear BK125; clear BK126; clear HB; have BK124 := n0_; have BK125 := n1_; have BK126 := n2_; have HB := n3_; have BK127 := n4_; have GW127 := n5_; have GE127 := n6_; have NB124_127 := n7_; have NB127_124 := n8_; have NB125_127 := n9_; have NB127_125 := n10_; have NB126_127 := n11_; have NB127_126 := n12_; clear n0_ n1_ n2_ n3_ n4_ n5_ n6_ n7_ n8_ n9_ n10_ n11_ n12_; clear hb hbox hg; have hnb153 := NB124_125.out; have hnc153 := NB125_124.out; have hnb154 := NB124_126.out; have hnc154 := NB126_124.out; have hnb155 := NB124_127.out; have hnc155 := NB127_124.out; have hcz156_0 : w152.cell? ⟨gb124, 0, none⟩ = some (.int .i64 a0_0) := (blk_cell BK124.out 0).trans rfl; have hcz156_1 : w152.cell? ⟨gb124, 1, none⟩ = some (.int .i64 a0_1) := (blk_cell BK124.out 1).trans rfl; have hcz156_2 : w152.cell? ⟨gb124, 2, none⟩ = some (.int .i64 a0_2) := (blk_cell BK124.out 2).trans rfl; have hcz156_3 : w152.cell? ⟨gb124, 3, none⟩ = some (.slice A0_3 l0_3.length c0_3) := (blk_cell BK124.out 3).trans rfl; have hfz156_0 := blk_frozen BK124.out 0; have hfz156_1 := blk_frozen BK124.out 1; have hfz156_2 := blk_frozen BK124.out 2; have hfz156_3 := blk_frozen BK124.out 3) | ((with_reducible refine gate_callee (f := 24) rfl ?_); refine goesL_ (some 13) rfl rfl Try.func24 (by kernel_rfl) rfl #[.agg #[.int .i64 a0_0, .int .i64 a0_1, .int .i64 a0_2, .slice A0_3 l0_3.length c0_3]] rfl (by (try simp only [List.map_toArray, List.map_cons, List.map_nil]); first | done | rfl | (simp only [List.length_drop, List.length_take]; rfl)) ?_; (with_reducible refine (term_ballot_fine.calls k a0_0 a0_1 a0_2 _ _ l0_3 false _ ?side1 ?side2 A4.out).mono ?_); (case side1 => repeat (first | exact (Kd.C_below HR0_3.out HB.out) | (with_reducible refine Kd.C_alloc ?_ _) | (with_reducible refine Kd.C_drewN ?_ _) | (with_reducible refine Kd.C_drew ?_))); (case side2 => exact HC0_3.out); rintro e w157 ⟨rfl, hb⟩; refine ⟨_, rfl, ?_⟩; have n0_ := Aside0.mk (blk_below (g := gb124) (o := .cells #[.int .i64 a0_0, .int .i64 a0_1, .int .i64 a0_2, .slice A0_3 l0_3.length c0_3] 26 (0, 0)) (by exact bk_ BK124.out) hb); have n1_ := Aside0.mk (blk_below (g := gb125) (o := .cells #[.int .i64 a1_0, .int .i64 a1_1, .int .i64 a1_2, .int .i64 a1_3] 30 (0, 0)) (by exact bk_ BK125.out) hb); have n2_ := Aside0.mk (blk_below (g := gb126) (o := .cells #[.int .i64 a2_0, .int .i64 a2_1] 28 (0, 0)) (by exact bk_ BK126.out) hb); have n3_ := Aside0.mk (blk_below (g := gb127) (o := .cells #[.int .i64 0, .int .i64 0, .int .i64 0, .slice none 0 0] 26 (0, 0)) (by exact bk_ BK127.out) hb); have n4_ := Aside0.mk (below_step (by repeat (first | (with_reducible first | exact HB.out | apply below_alloc | apply pw_below_drewN | apply below_drew1 | refine below_set ?_ GE124.out | refine below_set ?_ GE125.out | refine below_set ?_ GE126.out | refine below_set ?_ GE127.out) | exact HB.out)) hb); clear BK124; clear BK125; clear BK126; clear BK127; clear HB; have BK124 := n0_; have BK125 := n1_; have BK126 := n2_; have BK127 := n3_; have HB := n4_; clear n0_ n1_ n2_ n3_ n4_; (try clear hb); (try clear hb2); (try clear hk); (try clear hi); have hnb158 := NB127_125.out; have hnc158 := NB125_127.out; have hnb159 := NB127_126.out; have hnc159 := NB126_127.out; have hcz160_0 : w157.cell? ⟨gb127, 0, none⟩ = some (.int .i64 0) := (blk_cell BK127.out 0).trans rfl; have hcz160_1 : w157.cell? ⟨gb127, 1, none⟩ = some (.int .i64 0) := (blk_cell BK127.out 1).trans rfl; have hcz160_2 : w157.cell? ⟨gb127, 2, none⟩ = some (.int .i64 0) := (blk_cell BK127.out 2).trans rfl; have hcz160_3 : w157.cell? ⟨gb127, 3, none⟩ = some (.slice none 0 0) := (blk_cell BK127.out 3).trans rfl; have hfz160_0 := blk_frozen BK127.out 0; have hfz160_1 := blk_frozen BK127.out 1; have hfz160_2 := blk_frozen BK127.out 2; have hfz160_3 := blk_frozen BK127.out 3))
  refine bodyPost_ret (results_ctt rfl _ _ gb127 26 #[.int .i64 0, .int .i64 0, .int .i64 0, .slice none 0 0] (0, 0) _ rfl (by (with_reducible repeat (first | refine blk_drewN ?_ _ | refine blk_drew ?_ | refine blk_alloc ?_ _)); refine blk_put (cs := #[.int .i64 0, .int .i64 0, .int .i64 0, .slice none 0 0]) ?_ 3 _ rfl; (with_reducible repeat (first | refine blk_drewN ?_ _ | refine blk_drew ?_ | refine blk_alloc ?_ _)); refine blk_put (cs := #[.int .i64 0, .int .i64 0, .int .i64 0, .slice none 0 0]) ?_ 2 _ rfl; (with_reducible repeat (first | refine blk_drewN ?_ _ | refine blk_drew ?_ | refine blk_alloc ?_ _)); refine blk_put (cs := #[.int .i64 0, .int .i64 0, .int .i64 0, .slice none 0 0]) ?_ 1 _ rfl; (with_reducible repeat (first | refine blk_drewN ?_ _ | refine blk_drew ?_ | refine blk_alloc ?_ _)); refine blk_put (cs := #[.int .i64 0, .int .i64 0, .int .i64 0, .slice none 0 0]) ?_ 0 _ rfl; exact bk_ BK127.out) Try.underlying26 rfl (by kernel_rfl)) rfl ?_
  exact ⟨_, by first | rfl | (simp [errW_none, errW_some] <;> rfl) | (simp [*, errW_none, errW_some] <;> rfl), by first | exact Kd.R_nil _ _ _ _ _ | exact Kd.N_nil _ _ _ _ _ | exact Kd.V_nil _ _ _ _ _ | exact Kd.Q_nil _ _ _ _ _ | exact Kd.S_nil _ _ _ _ _, by repeat (first | (with_reducible first | exact HB.out | apply below_alloc | apply pw_below_drewN | apply below_drew1 | refine below_set ?_ GE124.out | refine below_set ?_ GE125.out | refine below_set ?_ GE126.out | refine below_set ?_ GE127.out) | exact HB.out)⟩

end Go.Proofs.Ythhdfefobblmkaa.P
