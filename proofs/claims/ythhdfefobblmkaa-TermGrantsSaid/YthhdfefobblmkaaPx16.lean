/- Functions that the laws reach, told as plain functions, each with a proof that the call computes it; for every input. Written by a program of ours out of the translation. -/
import Derived.Test.YthhdfefobblmkaaPx0
import Derived.Test.YthhdfefobblmkaaPx14
import Derived.Test.YthhdfefobblmkaaPx15
namespace Go.Proofs.Ythhdfefobblmkaa.P
open Go.RowKit Go.Proofs.YthhdfefobblmkaaW.PrintWords Go.Proofs.YthhdfefobblmkaaW.PrintLast Go.Proofs.YthhdfefobblmkaaW.PrintMore
open Go.Proofs.YthhdfefobblmkaaG (bk_ bl_ rk_)
attribute [local go_sem] max2_int min2_int max_two min_two max_three min_three max_four min_four   -- for this text's walks alone
set_option linter.unusedVariables false
set_option linter.unusedSimpArgs false

/-! ### rialtoref07_May: function 28 -/
mutual
def rialtoref07_May.j0 : Nat → Bool → Int → Int → Int → List Int → Int → Int → Option (Bool)
 | 0, _, _, _, _, _, _, _ => none
 | k + 1, x26, x145000, x145001, x145002, x145003, x146000, x146001 => if x26 = true then (some false) else (if x145002 = 1 then (some ((x145003.length : Int) == 0)) else (if x145002 = 2 then (rialtoref07_May.j1 k false x145000 x145001 x145002 x145003 x146000 x146001) else (rialtoref07_May.j1 k (x145002 != 3) x145000 x145001 x145002 x145003 x146000 x146001)))
def rialtoref07_May.j1 : Nat → Bool → Int → Int → Int → List Int → Int → Int → Option (Bool)
 | 0, _, _, _, _, _, _, _ => none
 | k + 1, x41, x145000, x145001, x145002, x145003, x146000, x146001 => if x41 = true then (some false) else (rialtoref07_May.l0 k 0 x145000 x145001 x145002 x145003 x146000 x146001)
def rialtoref07_May.l0 : Nat → Int → Int → Int → Int → List Int → Int → Int → Option (Bool)
 | 0, _, _, _, _, _, _, _ => none
 | k + 1, x4, x145000, x145001, x145002, x145003, x146000, x146001 => if x4 < (x145003.length : Int) then (if 0 ≤ x4 then ((rialtoref07_within.f (rd x145003 x4) 1 7).bind fun t150 => (if t150 = true then (if x4 > 0 then (if 0 ≤ (wrap64 (x4 - 1)) then (if (wrap64 (x4 - 1)) < (x145003.length : Int) then (rialtoref07_May.j3 k x4 (decide ((rd x145003 (wrap64 (x4 - 1))) ≥ (rd x145003 x4))) x145000 x145001 x145002 x145003 x146000 x146001) else (none)) else (none)) else (rialtoref07_May.j3 k x4 false x145000 x145001 x145002 x145003 x146000 x146001)) else (rialtoref07_May.j3 k x4 true x145000 x145001 x145002 x145003 x146000 x146001))) else (none)) else (if x146000 > 0 then (if x146001 > 0 then ((rialtoref07_has.f k x145003 x146001).bind fun t148 => (some t148)) else (some false)) else (some false))
def rialtoref07_May.j3 : Nat → Int → Bool → Int → Int → Int → List Int → Int → Int → Option (Bool)
 | 0, _, _, _, _, _, _, _, _ => none
 | k + 1, x4, x73, x145000, x145001, x145002, x145003, x146000, x146001 => if x73 = true then (some false) else (rialtoref07_May.l0 k (wrap64 (x4 + 1)) x145000 x145001 x145002 x145003 x146000 x146001)
end
def rialtoref07_May.f (k : Nat) (a0_0 : Int) (a0_1 : Int) (a0_2 : Int) (l0_3 : List Int) : Option (Bool) := (rialtoref07_within.f a0_0 0 1000000).bind fun t146 => (if t146 = true then ((rialtoref07_within.f a0_1 0 7).bind fun t147 => (if t147 = true then (if a0_0 = 0 then (rialtoref07_May.j0 k (a0_1 != 0) a0_0 a0_1 a0_2 l0_3 a0_0 a0_1) else (rialtoref07_May.j0 k false a0_0 a0_1 a0_2 l0_3 a0_0 a0_1)) else (rialtoref07_May.j0 k true a0_0 a0_1 a0_2 l0_3 a0_0 a0_1))) else (rialtoref07_May.j0 k true a0_0 a0_1 a0_2 l0_3 a0_0 a0_1))
theorem rialtoref07_May.mono_l : ∀ k, (∀ y0 y1 y2 y3 y4 y5 y6, LeO (rialtoref07_May.j0 k y0 y1 y2 y3 y4 y5 y6) (rialtoref07_May.j0 (k + 1) y0 y1 y2 y3 y4 y5 y6)) ∧ (∀ y0 y1 y2 y3 y4 y5 y6, LeO (rialtoref07_May.j1 k y0 y1 y2 y3 y4 y5 y6) (rialtoref07_May.j1 (k + 1) y0 y1 y2 y3 y4 y5 y6)) ∧ (∀ y0 y1 y2 y3 y4 y5 y6, LeO (rialtoref07_May.l0 k y0 y1 y2 y3 y4 y5 y6) (rialtoref07_May.l0 (k + 1) y0 y1 y2 y3 y4 y5 y6)) ∧ (∀ y0 y1 y2 y3 y4 y5 y6 y7, LeO (rialtoref07_May.j3 k y0 y1 y2 y3 y4 y5 y6 y7) (rialtoref07_May.j3 (k + 1) y0 y1 y2 y3 y4 y5 y6 y7))
 | 0 => ⟨fun _ _ _ _ _ _ _ r h => by simp [rialtoref07_May.j0] at h, fun _ _ _ _ _ _ _ r h => by simp [rialtoref07_May.j1] at h, fun _ _ _ _ _ _ _ r h => by simp [rialtoref07_May.l0] at h, fun _ _ _ _ _ _ _ _ r h => by simp [rialtoref07_May.j3] at h⟩
 | k + 1 => by
  obtain ⟨ih0, ih1, ih2, ih3⟩ := rialtoref07_May.mono_l k
  refine ⟨?_, ?_, ?_, ?_⟩
  ·intro y0 y1 y2 y3 y4 y5 y6
   unfold rialtoref07_May.j0
   repeat' first
   | (with_reducible exact ih0 _ _ _ _ _ _ _)
   | (with_reducible exact ih1 _ _ _ _ _ _ _)
   | (with_reducible exact ih2 _ _ _ _ _ _ _)
   | (with_reducible exact ih3 _ _ _ _ _ _ _ _)
   | (with_reducible exact rialtoref07_has.mono _ _ _)
   | (with_reducible exact LeO.refl _)
   | (with_reducible exact LeO.none _)
   | (with_reducible refine LeO.ite ?_ ?_)
   | (with_reducible refine LeO.bind ?_ (fun _ => ?_))
   | exact ih0 _ _ _ _ _ _ _
   | exact ih1 _ _ _ _ _ _ _
   | exact ih2 _ _ _ _ _ _ _
   | exact ih3 _ _ _ _ _ _ _ _
   | exact rialtoref07_has.mono _ _ _
   | exact LeO.none _
   | refine LeO.ite ?_ ?_
   | refine LeO.bind ?_ (fun _ => ?_)
  ·intro y0 y1 y2 y3 y4 y5 y6
   unfold rialtoref07_May.j1
   repeat' first
   | (with_reducible exact ih0 _ _ _ _ _ _ _)
   | (with_reducible exact ih1 _ _ _ _ _ _ _)
   | (with_reducible exact ih2 _ _ _ _ _ _ _)
   | (with_reducible exact ih3 _ _ _ _ _ _ _ _)
   | (with_reducible exact rialtoref07_has.mono _ _ _)
   | (with_reducible exact LeO.refl _)
   | (with_reducible exact LeO.none _)
   | (with_reducible refine LeO.ite ?_ ?_)
   | (with_reducible refine LeO.bind ?_ (fun _ => ?_))
   | exact ih0 _ _ _ _ _ _ _
   | exact ih1 _ _ _ _ _ _ _
   | exact ih2 _ _ _ _ _ _ _
   | exact ih3 _ _ _ _ _ _ _ _
   | exact rialtoref07_has.mono _ _ _
   | exact LeO.none _
   | refine LeO.ite ?_ ?_
   | refine LeO.bind ?_ (fun _ => ?_)
  ·intro y0 y1 y2 y3 y4 y5 y6
   unfold rialtoref07_May.l0
   repeat' first
   | (with_reducible exact ih0 _ _ _ _ _ _ _)
   | (with_reducible exact ih1 _ _ _ _ _ _ _)
   | (with_reducible exact ih2 _ _ _ _ _ _ _)
   | (with_reducible exact ih3 _ _ _ _ _ _ _ _)
   | (with_reducible exact rialtoref07_has.mono _ _ _)
   | (with_reducible exact LeO.refl _)
   | (with_reducible exact LeO.none _)
   | (with_reducible refine LeO.ite ?_ ?_)
   | (with_reducible refine LeO.bind ?_ (fun _ => ?_))
   | exact ih0 _ _ _ _ _ _ _
   | exact ih1 _ _ _ _ _ _ _
   | exact ih2 _ _ _ _ _ _ _
   | exact ih3 _ _ _ _ _ _ _ _
   | exact rialtoref07_has.mono _ _ _
   | exact LeO.none _
   | refine LeO.ite ?_ ?_
   | refine LeO.bind ?_ (fun _ => ?_)
  ·intro y0 y1 y2 y3 y4 y5 y6 y7
   unfold rialtoref07_May.j3
   repeat' first
   | (with_reducible exact ih0 _ _ _ _ _ _ _)
   | (with_reducible exact ih1 _ _ _ _ _ _ _)
   | (with_reducible exact ih2 _ _ _ _ _ _ _)
   | (with_reducible exact ih3 _ _ _ _ _ _ _ _)
   | (with_reducible exact rialtoref07_has.mono _ _ _)
   | (with_reducible exact LeO.refl _)
   | (with_reducible exact LeO.none _)
   | (with_reducible refine LeO.ite ?_ ?_)
   | (with_reducible refine LeO.bind ?_ (fun _ => ?_))
   | exact ih0 _ _ _ _ _ _ _
   | exact ih1 _ _ _ _ _ _ _
   | exact ih2 _ _ _ _ _ _ _
   | exact ih3 _ _ _ _ _ _ _ _
   | exact rialtoref07_has.mono _ _ _
   | exact LeO.none _
   | refine LeO.ite ?_ ?_
   | refine LeO.bind ?_ (fun _ => ?_)
theorem rialtoref07_May.mono : ∀ a0 a1 a2 a3 k, LeO (rialtoref07_May.f k a0 a1 a2 a3) (rialtoref07_May.f (k + 1) a0 a1 a2 a3) := by
 intro a0 a1 a2 a3 k
 obtain ⟨ih0, ih1, ih2, ih3⟩ := rialtoref07_May.mono_l k
 unfold rialtoref07_May.f
 repeat' first
   | (with_reducible exact ih0 _ _ _ _ _ _ _)
   | (with_reducible exact ih1 _ _ _ _ _ _ _)
   | (with_reducible exact ih2 _ _ _ _ _ _ _)
   | (with_reducible exact ih3 _ _ _ _ _ _ _ _)
   | (with_reducible exact rialtoref07_has.mono _ _ _)
   | (with_reducible exact LeO.refl _)
   | (with_reducible exact LeO.none _)
   | (with_reducible refine LeO.ite ?_ ?_)
   | (with_reducible refine LeO.bind ?_ (fun _ => ?_))
   | exact ih0 _ _ _ _ _ _ _
   | exact ih1 _ _ _ _ _ _ _
   | exact ih2 _ _ _ _ _ _ _
   | exact ih3 _ _ _ _ _ _ _ _
   | exact rialtoref07_has.mono _ _ _
   | exact LeO.none _
   | refine LeO.ite ?_ ?_
   | refine LeO.bind ?_ (fun _ => ?_)
set_option maxHeartbeats 8000000 in
set_option maxRecDepth 100000 in
theorem rialtoref07_May.calls (k : Nat) (a0_0 : Int) (a0_1 : Int) (a0_2 : Int) (A0_3 : Option Addr) (c0_3 : Nat) (l0_3 : List Int) (r : Bool) (w : World) (hr0_3 : Kd.C (Kd.int .i64) w A0_3 l0_3.length l0_3) (hc0_3 : l0_3.length ≤ c0_3) (h : rialtoref07_May.f k a0_0 a0_1 a0_2 l0_3 = some r) :
  Calls Try.prog 28 #[.agg #[.int .i64 a0_0, .int .i64 a0_1, .int .i64 a0_2, .slice A0_3 l0_3.length c0_3]] w fun e w' => e = .returned (.bool r) ∧ Below w.heap.size w w' := by
 have hu26 := Try.underlying26
 have hu23 := Try.underlying23
 have HR0_3 := Aside0.mk hr0_3
 have HC0_3 := Aside0.mk hc0_3
 clear hr0_3 hc0_3
 have HB := Aside0.mk (Below.refl w.heap.size w)
 have H : ((rialtoref07_within.f a0_0 0 1000000).bind fun t146 => (if t146 = true then ((rialtoref07_within.f a0_1 0 7).bind fun t147 => (if t147 = true then (if a0_0 = 0 then (rialtoref07_May.j0 k (a0_1 != 0) a0_0 a0_1 a0_2 l0_3 a0_0 a0_1) else (rialtoref07_May.j0 k false a0_0 a0_1 a0_2 l0_3 a0_0 a0_1)) else (rialtoref07_May.j0 k true a0_0 a0_1 a0_2 l0_3 a0_0 a0_1))) else (rialtoref07_May.j0 k true a0_0 a0_1 a0_2 l0_3 a0_0 a0_1))) = some r := h
 clear h
 have HC2 := Aside0.mk H
 clear H
 go_enter Try.func28, Try.ntmps28
 go_upto_region 2 with (first | ((with_reducible refine gate_dst (N := 1) rfl ?_); refine box_event ?hg (N := 1) ?hd (cs := #[.int .i64 a0_0, .int .i64 a0_1, .int .i64 a0_2, .slice A0_3 l0_3.length c0_3]) (t := 26) ?hr ?_; (case hd => rfl); (case hg => rfl); (case hr => first | (go_simp; done) | (go_simp; rfl)); intro gb144 hg w3 hbox hb; have n0_ := Aside0.mk (below_step (by exact bl_ HB.out) hb); have n1_ := Aside0.mk (hbox); have n2_ := Aside0.mk ((by rw [hg]; exact (below_size (by exact bl_ HB.out)) : w.heap.size ≤ gb144)); have n3_ := Aside0.mk ((by rw [hg]; exact (below_size (by exact bl_ HB.out)) : w.heap.size ≤ gb144)); clear HB; have HB := n0_; have BK144 := n1_; have GW144 := n2_; have GE144 := n3_; clear n0_ n1_ n2_ n3_; clear hb hbox hg; have hcz4_0 : w3.cell? ⟨gb144, 0, none⟩ = some (.int .i64 a0_0) := (blk_cell BK144.out 0).trans rfl; have hcz4_1 : w3.cell? ⟨gb144, 1, none⟩ = some (.int .i64 a0_1) := (blk_cell BK144.out 1).trans rfl; have hcz4_2 : w3.cell? ⟨gb144, 2, none⟩ = some (.int .i64 a0_2) := (blk_cell BK144.out 2).trans rfl; have hcz4_3 : w3.cell? ⟨gb144, 3, none⟩ = some (.slice A0_3 l0_3.length c0_3) := (blk_cell BK144.out 3).trans rfl; have hfz4_0 := blk_frozen BK144.out 0; have hfz4_1 := blk_frozen BK144.out 1; have hfz4_2 := blk_frozen BK144.out 2; have hfz4_3 := blk_frozen BK144.out 3) | ((with_reducible refine gate_dst (N := 3) rfl ?_); refine box_event ?hg (N := 3) ?hd (cs := #[.int .i64 0, .int .i64 0]) (t := 23) ?hr ?_; (case hd => rfl); (case hg => rfl); (case hr => first | (go_simp; done) | (go_simp; rfl)); intro gb145 hg w5 hbox hb; have n0_ := Aside0.mk (blk_below (g := gb144) (o := .cells #[.int .i64 a0_0, .int .i64 a0_1, .int .i64 a0_2, .slice A0_3 l0_3.length c0_3] 26 (0, 0)) (by exact bk_ BK144.out) hb); have n1_ := Aside0.mk (below_step (by repeat (first | (with_reducible first | exact HB.out | apply below_alloc | apply pw_below_drewN | apply below_drew1 | refine below_set ?_ GE144.out) | exact HB.out)) hb); have n2_ := Aside0.mk (hbox); have n3_ := Aside0.mk ((by rw [hg]; exact (below_size (by repeat (first | (with_reducible first | exact HB.out | apply below_alloc | apply pw_below_drewN | apply below_drew1 | refine below_set ?_ GE144.out) | exact HB.out))) : w.heap.size ≤ gb145)); have n4_ := Aside0.mk ((by rw [hg]; exact (below_size (by repeat (first | (with_reducible first | exact HB.out | apply below_alloc | apply pw_below_drewN | apply below_drew1 | refine below_set ?_ GE144.out) | exact HB.out))) : w.heap.size ≤ gb145)); have n5_ := Aside0.mk ((by rw [hg]; exact Nat.ne_of_lt (blk_lt (g := gb144) (o := .cells #[.int .i64 a0_0, .int .i64 a0_1, .int .i64 a0_2, .slice A0_3 l0_3.length c0_3] 26 (0, 0)) (by exact bk_ BK144.out)) : gb144 ≠ gb145)); have n6_ := Aside0.mk ((by rw [hg]; exact Nat.ne_of_gt (blk_lt (g := gb144) (o := .cells #[.int .i64 a0_0, .int .i64 a0_1, .int .i64 a0_2, .slice A0_3 l0_3.length c0_3] 26 (0, 0)) (by exact bk_ BK144.out)) : gb145 ≠ gb144)); clear BK144; clear HB; have BK144 := n0_; have HB := n1_; have BK145 := n2_; have GW145 := n3_; have GE145 := n4_; have NB144_145 := n5_; have NB145_144 := n6_; clear n0_ n1_ n2_ n3_ n4_ n5_ n6_; clear hb hbox hg; have hnb6 := NB145_144.out; have hnc6 := NB144_145.out; have hcz7_0 : w5.cell? ⟨gb145, 0, none⟩ = some (.int .i64 0) := (blk_cell BK145.out 0).trans rfl; have hcz7_1 : w5.cell? ⟨gb145, 1, none⟩ = some (.int .i64 0) := (blk_cell BK145.out 1).trans rfl; have hfz7_0 := blk_frozen BK145.out 0; have hfz7_1 := blk_frozen BK145.out 1))
 repeat (go_quiet (first | ((with_reducible refine gate_dst (N := 1) rfl ?_); refine box_event ?hg (N := 1) ?hd (cs := #[.int .i64 a0_0, .int .i64 a0_1, .int .i64 a0_2, .slice A0_3 l0_3.length c0_3]) (t := 26) ?hr ?_; (case hd => rfl); (case hg => rfl); (case hr => first | (go_simp; done) | (go_simp; rfl)); intro gb144 hg w3 hbox hb; have n0_ := Aside0.mk (below_step (by exact bl_ HB.out) hb); have n1_ := Aside0.mk (hbox); have n2_ := Aside0.mk ((by rw [hg]; exact (below_size (by exact bl_ HB.out)) : w.heap.size ≤ gb144)); have n3_ := Aside0.mk ((by rw [hg]; exact (below_size (by exact bl_ HB.out)) : w.heap.size ≤ gb144)); clear HB; have HB := n0_; have BK144 := n1_; have GW144 := n2_; have GE144 := n3_; clear n0_ n1_ n2_ n3_; clear hb hbox hg; have hcz4_0 : w3.cell? ⟨gb144, 0, none⟩ = some (.int .i64 a0_0) := (blk_cell BK144.out 0).trans rfl; have hcz4_1 : w3.cell? ⟨gb144, 1, none⟩ = some (.int .i64 a0_1) := (blk_cell BK144.out 1).trans rfl; have hcz4_2 : w3.cell? ⟨gb144, 2, none⟩ = some (.int .i64 a0_2) := (blk_cell BK144.out 2).trans rfl; have hcz4_3 : w3.cell? ⟨gb144, 3, none⟩ = some (.slice A0_3 l0_3.length c0_3) := (blk_cell BK144.out 3).trans rfl; have hfz4_0 := blk_frozen BK144.out 0; have hfz4_1 := blk_frozen BK144.out 1; have hfz4_2 := blk_frozen BK144.out 2; have hfz4_3 := blk_frozen BK144.out 3) | ((with_reducible refine gate_dst (N := 3) rfl ?_); refine box_event ?hg (N := 3) ?hd (cs := #[.int .i64 0, .int .i64 0]) (t := 23) ?hr ?_; (case hd => rfl); (case hg => rfl); (case hr => first | (go_simp; done) | (go_simp; rfl)); intro gb145 hg w5 hbox hb; have n0_ := Aside0.mk (blk_below (g := gb144) (o := .cells #[.int .i64 a0_0, .int .i64 a0_1, .int .i64 a0_2, .slice A0_3 l0_3.length c0_3] 26 (0, 0)) (by exact bk_ BK144.out) hb); have n1_ := Aside0.mk (below_step (by repeat (first | (with_reducible first | exact HB.out | apply below_alloc | apply pw_below_drewN | apply below_drew1 | refine below_set ?_ GE144.out) | exact HB.out)) hb); have n2_ := Aside0.mk (hbox); have n3_ := Aside0.mk ((by rw [hg]; exact (below_size (by repeat (first | (with_reducible first | exact HB.out | apply below_alloc | apply pw_below_drewN | apply below_drew1 | refine below_set ?_ GE144.out) | exact HB.out))) : w.heap.size ≤ gb145)); have n4_ := Aside0.mk ((by rw [hg]; exact (below_size (by repeat (first | (with_reducible first | exact HB.out | apply below_alloc | apply pw_below_drewN | apply below_drew1 | refine below_set ?_ GE144.out) | exact HB.out))) : w.heap.size ≤ gb145)); have n5_ := Aside0.mk ((by rw [hg]; exact Nat.ne_of_lt (blk_lt (g := gb144) (o := .cells #[.int .i64 a0_0, .int .i64 a0_1, .int .i64 a0_2, .slice A0_3 l0_3.length c0_3] 26 (0, 0)) (by exact bk_ BK144.out)) : gb144 ≠ gb145)); have n6_ := Aside0.mk ((by rw [hg]; exact Nat.ne_of_gt (blk_lt (g := gb144) (o := .cells #[.int .i64 a0_0, .int .i64 a0_1, .int .i64 a0_2, .slice A0_3 l0_3.length c0_3] 26 (0, 0)) (by exact bk_ BK144.out)) : gb145 ≠ gb144)); clear BK144; clear HB; have BK144 := n0_; have HB := n1_; have BK145 := n2_; have GW145 := n3_; have GE145 := n4_; have NB144_145 := n5_; have NB145_144 := n6_; clear n0_ n1_ n2_ n3_ n4_ n5_ n6_; clear hb hbox hg; have hnb6 := NB145_144.out; have hnc6 := NB144_145.out; have hcz7_0 : w5.cell? ⟨gb145, 0, none⟩ = some (.int .i64 0) := (blk_cell BK145.out 0).trans rfl; have hcz7_1 : w5.cell? ⟨gb145, 1, none⟩ = some (.int .i64 0) := (blk_cell BK145.out 1).trans rfl; have hfz7_0 := blk_frozen BK145.out 0; have hfz7_1 := blk_frozen BK145.out 1)); go_upto_region 2 with (first | ((with_reducible refine gate_dst (N := 1) rfl ?_); refine box_event ?hg (N := 1) ?hd (cs := #[.int .i64 a0_0, .int .i64 a0_1, .int .i64 a0_2, .slice A0_3 l0_3.length c0_3]) (t := 26) ?hr ?_; (case hd => rfl); (case hg => rfl); (case hr => first | (go_simp; done) | (go_simp; rfl)); intro gb144 hg w3 hbox hb; have n0_ := Aside0.mk (below_step (by exact bl_ HB.out) hb); have n1_ := Aside0.mk (hbox); have n2_ := Aside0.mk ((by rw [hg]; exact (below_size (by exact bl_ HB.out)) : w.heap.size ≤ gb144)); have n3_ := Aside0.mk ((by rw [hg]; exact (below_size (by exact bl_ HB.out)) : w.heap.size ≤ gb144)); clear HB; have HB := n0_; have BK144 := n1_; have GW144 := n2_; have GE144 := n3_; clear n0_ n1_ n2_ n3_; clear hb hbox hg; have hcz4_0 : w3.cell? ⟨gb144, 0, none⟩ = some (.int .i64 a0_0) := (blk_cell BK144.out 0).trans rfl; have hcz4_1 : w3.cell? ⟨gb144, 1, none⟩ = some (.int .i64 a0_1) := (blk_cell BK144.out 1).trans rfl; have hcz4_2 : w3.cell? ⟨gb144, 2, none⟩ = some (.int .i64 a0_2) := (blk_cell BK144.out 2).trans rfl; have hcz4_3 : w3.cell? ⟨gb144, 3, none⟩ = some (.slice A0_3 l0_3.length c0_3) := (blk_cell BK144.out 3).trans rfl; have hfz4_0 := blk_frozen BK144.out 0; have hfz4_1 := blk_frozen BK144.out 1; have hfz4_2 := blk_frozen BK144.out 2; have hfz4_3 := blk_frozen BK144.out 3) | ((with_reducible refine gate_dst (N := 3) rfl ?_); refine box_event ?hg (N := 3) ?hd (cs := #[.int .i64 0, .int .i64 0]) (t := 23) ?hr ?_; (case hd => rfl); (case hg => rfl); (case hr => first | (go_simp; done) | (go_simp; rfl)); intro gb145 hg w5 hbox hb; have n0_ := Aside0.mk (blk_below (g := gb144) (o := .cells #[.int .i64 a0_0, .int .i64 a0_1, .int .i64 a0_2, .slice A0_3 l0_3.length c0_3] 26 (0, 0)) (by exact bk_ BK144.out) hb); have n1_ := Aside0.mk (below_step (by repeat (first | (with_reducible first | exact HB.out | apply below_alloc | apply pw_below_drewN | apply below_drew1 | refine below_set ?_ GE144.out) | exact HB.out)) hb); have n2_ := Aside0.mk (hbox); have n3_ := Aside0.mk ((by rw [hg]; exact (below_size (by repeat (first | (with_reducible first | exact HB.out | apply below_alloc | apply pw_below_drewN | apply below_drew1 | refine below_set ?_ GE144.out) | exact HB.out))) : w.heap.size ≤ gb145)); have n4_ := Aside0.mk ((by rw [hg]; exact (below_size (by repeat (first | (with_reducible first | exact HB.out | apply below_alloc | apply pw_below_drewN | apply below_drew1 | refine below_set ?_ GE144.out) | exact HB.out))) : w.heap.size ≤ gb145)); have n5_ := Aside0.mk ((by rw [hg]; exact Nat.ne_of_lt (blk_lt (g := gb144) (o := .cells #[.int .i64 a0_0, .int .i64 a0_1, .int .i64 a0_2, .slice A0_3 l0_3.length c0_3] 26 (0, 0)) (by exact bk_ BK144.out)) : gb144 ≠ gb145)); have n6_ := Aside0.mk ((by rw [hg]; exact Nat.ne_of_gt (blk_lt (g := gb144) (o := .cells #[.int .i64 a0_0, .int .i64 a0_1, .int .i64 a0_2, .slice A0_3 l0_3.length c0_3] 26 (0, 0)) (by exact bk_ BK144.out)) : gb145 ≠ gb144)); clear BK144; clear HB; have BK144 := n0_; have HB := n1_; have BK145 := n2_; have GW145 := n3_; have GE145 := n4_; have NB144_145 := n5_; have NB145_144 := n6_; clear n0_ n1_ n2_ n3_ n4_ n5_ n6_; clear hb hbox hg; have hnb6 := NB145_144.out; have hnc6 := NB144_145.out; have hcz7_0 : w5.cell? ⟨gb145, 0, none⟩ = some (.int .i64 0) := (blk_cell BK145.out 0).trans rfl; have hcz7_1 : w5.cell? ⟨gb145, 1, none⟩ = some (.int .i64 0) := (blk_cell BK145.out 1).trans rfl; have hfz7_0 := blk_frozen BK145.out 0; have hfz7_1 := blk_frozen BK145.out 1)))
 (try simp only [Act.put, List.setIfInBounds_toArray, List.set_cons_zero, List.set_cons_succ])
 go_cut [26] (fun v26 wc => ∃ (kq : Nat) (x26_1 : Bool), v26 = .bool x26_1 ∧ Aside0 (rialtoref07_May.j0 kq x26_1 a0_0 a0_1 a0_2 l0_3 a0_0 a0_1 = some r) ∧ Aside0 (kq ≤ k) ∧ Aside0 (wc.heap[gb144]? = some (.cells #[.int .i64 a0_0, .int .i64 a0_1, .int .i64 a0_2, (.slice A0_3 l0_3.length c0_3)] 26 (0, 0))) ∧ Aside0 (wc.heap[gb145]? = some (.cells #[.int .i64 a0_0, .int .i64 a0_1] 23 (0, 0))) ∧ Aside0 (Below w.heap.size w wc))
 case first =>
  have H := HC2.out
  clear HC2
  replace H := Option.bind_eq_some_iff.mp H
  obtain ⟨t146, A80, H⟩ := H
  replace H : (if t146 = true then ((rialtoref07_within.f a0_1 0 7).bind fun t147 => (if t147 = true then (if a0_0 = 0 then (rialtoref07_May.j0 k (a0_1 != 0) a0_0 a0_1 a0_2 l0_3 a0_0 a0_1) else (rialtoref07_May.j0 k false a0_0 a0_1 a0_2 l0_3 a0_0 a0_1)) else (rialtoref07_May.j0 k true a0_0 a0_1 a0_2 l0_3 a0_0 a0_1))) else (rialtoref07_May.j0 k true a0_0 a0_1 a0_2 l0_3 a0_0 a0_1)) = some r := H
  have A8 := Aside0.mk A80
  clear A80
  by_cases c9 : t146 = true
  ·subst c9
   have H1 : ((rialtoref07_within.f a0_1 0 7).bind fun t147 => (if t147 = true then (if a0_0 = 0 then (rialtoref07_May.j0 k (a0_1 != 0) a0_0 a0_1 a0_2 l0_3 a0_0 a0_1) else (rialtoref07_May.j0 k false a0_0 a0_1 a0_2 l0_3 a0_0 a0_1)) else (rialtoref07_May.j0 k true a0_0 a0_1 a0_2 l0_3 a0_0 a0_1))) = some r := by rw [if_pos rfl] at H; exact H
   clear H
   have H := H1
   clear H1
   replace H := Option.bind_eq_some_iff.mp H
   obtain ⟨t147, A100, H⟩ := H
   replace H : (if t147 = true then (if a0_0 = 0 then (rialtoref07_May.j0 k (a0_1 != 0) a0_0 a0_1 a0_2 l0_3 a0_0 a0_1) else (rialtoref07_May.j0 k false a0_0 a0_1 a0_2 l0_3 a0_0 a0_1)) else (rialtoref07_May.j0 k true a0_0 a0_1 a0_2 l0_3 a0_0 a0_1)) = some r := H
   have A10 := Aside0.mk A100
   clear A100
   by_cases c11 : t147 = true
   ·subst c11
    have H1 : (if a0_0 = 0 then (rialtoref07_May.j0 k (a0_1 != 0) a0_0 a0_1 a0_2 l0_3 a0_0 a0_1) else (rialtoref07_May.j0 k false a0_0 a0_1 a0_2 l0_3 a0_0 a0_1)) = some r := by rw [if_pos rfl] at H; exact H
    clear H
    have H := H1
    clear H1
    by_cases c12 : a0_0 = 0
    ·rw [if_pos c12] at H
     have c12b0 : (a0_0 == 0) = true := beq_iff_eq.mpr c12
     have c12b1 : (a0_0 != 0) = false := bne_eq_false_iff_eq.mpr c12
     clear c12
     (first | rw [c12b0] | (simp only [i64_w, i32_w]; rw [c12b0]) | skip)
     have H' := Aside0.mk H
     clear H
     have hnb13 := NB145_144.out
     have hnc13 := NB144_145.out
     have hcz14_0 : w5.cell? ⟨gb145, 0, none⟩ = some (.int .i64 0) := (blk_cell BK145.out 0).trans rfl
     have hcz14_1 : w5.cell? ⟨gb145, 1, none⟩ = some (.int .i64 0) := (blk_cell BK145.out 1).trans rfl
     have hfz14_0 := blk_frozen BK145.out 0
     have hfz14_1 := blk_frozen BK145.out 1
     go_wp2_with (first | (go_at_call 29; (with_reducible refine (rialtoref07_within.calls a0_0 0 1000000 true _ A8.out).mono ?_); rintro e w' ⟨rfl, ⟨nd, rfl⟩⟩; (try first | exact ⟨rfl, _, World.drewN_drewN _ _ _⟩ | exact ⟨rfl, _, Eq.trans (World.drewN_drewN _ _ _) (congrArg (World.drewN _) (Nat.add_assoc _ _ _))⟩)) | (go_at_call 29; (with_reducible refine (rialtoref07_within.calls a0_1 0 7 true _ A10.out).mono ?_); rintro e w' ⟨rfl, ⟨nd, rfl⟩⟩; (try first | exact ⟨rfl, _, World.drewN_drewN _ _ _⟩ | exact ⟨rfl, _, Eq.trans (World.drewN_drewN _ _ _) (congrArg (World.drewN _) (Nat.add_assoc _ _ _))⟩)))
     repeat (go_quiet (first | (go_at_call 29; (with_reducible refine (rialtoref07_within.calls a0_0 0 1000000 true _ A8.out).mono ?_); rintro e w' ⟨rfl, ⟨nd, rfl⟩⟩; (try first | exact ⟨rfl, _, World.drewN_drewN _ _ _⟩ | exact ⟨rfl, _, Eq.trans (World.drewN_drewN _ _ _) (congrArg (World.drewN _) (Nat.add_assoc _ _ _))⟩)) | (go_at_call 29; (with_reducible refine (rialtoref07_within.calls a0_1 0 7 true _ A10.out).mono ?_); rintro e w' ⟨rfl, ⟨nd, rfl⟩⟩; (try first | exact ⟨rfl, _, World.drewN_drewN _ _ _⟩ | exact ⟨rfl, _, Eq.trans (World.drewN_drewN _ _ _) (congrArg (World.drewN _) (Nat.add_assoc _ _ _))⟩))); try go_wp2_with (first | (go_at_call 29; (with_reducible refine (rialtoref07_within.calls a0_0 0 1000000 true _ A8.out).mono ?_); rintro e w' ⟨rfl, ⟨nd, rfl⟩⟩; (try first | exact ⟨rfl, _, World.drewN_drewN _ _ _⟩ | exact ⟨rfl, _, Eq.trans (World.drewN_drewN _ _ _) (congrArg (World.drewN _) (Nat.add_assoc _ _ _))⟩)) | (go_at_call 29; (with_reducible refine (rialtoref07_within.calls a0_1 0 7 true _ A10.out).mono ?_); rintro e w' ⟨rfl, ⟨nd, rfl⟩⟩; (try first | exact ⟨rfl, _, World.drewN_drewN _ _ _⟩ | exact ⟨rfl, _, Eq.trans (World.drewN_drewN _ _ _) (congrArg (World.drewN _) (Nat.add_assoc _ _ _))⟩))))
     go_meet
     case rel => exact ⟨_, ((a0_1 != 0)), (by first | rfl | (simp; done) | (simp [*]; done)), H', ⟨by first | omega | exact Nat.le_refl _⟩, ⟨by (with_reducible repeat (first | refine blk_drewN ?_ _ | refine blk_drew ?_ | refine blk_alloc ?_ _)); refine blk_far ?_ NB144_145.out _; (with_reducible repeat (first | refine blk_drewN ?_ _ | refine blk_drew ?_ | refine blk_alloc ?_ _)); refine blk_far ?_ NB144_145.out _; exact bk_ BK144.out⟩, ⟨by (with_reducible repeat (first | refine blk_drewN ?_ _ | refine blk_drew ?_ | refine blk_alloc ?_ _)); refine blk_put (cs := #[.int .i64 a0_0, .int .i64 0]) ?_ 1 _ rfl; (with_reducible repeat (first | refine blk_drewN ?_ _ | refine blk_drew ?_ | refine blk_alloc ?_ _)); refine blk_put (cs := #[.int .i64 0, .int .i64 0]) ?_ 0 _ rfl; exact bk_ BK145.out⟩, ⟨by repeat (first | (with_reducible first | exact HB.out | apply below_alloc | apply pw_below_drewN | apply below_drew1 | refine below_set ?_ GE144.out | refine below_set ?_ GE145.out) | exact HB.out)⟩⟩
    ·rw [if_neg c12] at H
     have c12b0 : (a0_0 == 0) = false := beq_eq_false_iff_ne.mpr c12
     have c12b1 : (a0_0 != 0) = true := bne_iff_ne.mpr c12
     (first | rw [c12b0] | (simp only [i64_w, i32_w]; rw [c12b0]) | skip)
     have H' := Aside0.mk H
     clear H
     have hnb15 := NB145_144.out
     have hnc15 := NB144_145.out
     have hcz16_0 : w5.cell? ⟨gb145, 0, none⟩ = some (.int .i64 0) := (blk_cell BK145.out 0).trans rfl
     have hcz16_1 : w5.cell? ⟨gb145, 1, none⟩ = some (.int .i64 0) := (blk_cell BK145.out 1).trans rfl
     have hfz16_0 := blk_frozen BK145.out 0
     have hfz16_1 := blk_frozen BK145.out 1
     go_wp2_with (first | (go_at_call 29; (with_reducible refine (rialtoref07_within.calls a0_0 0 1000000 true _ A8.out).mono ?_); rintro e w' ⟨rfl, ⟨nd, rfl⟩⟩; (try first | exact ⟨rfl, _, World.drewN_drewN _ _ _⟩ | exact ⟨rfl, _, Eq.trans (World.drewN_drewN _ _ _) (congrArg (World.drewN _) (Nat.add_assoc _ _ _))⟩)) | (go_at_call 29; (with_reducible refine (rialtoref07_within.calls a0_1 0 7 true _ A10.out).mono ?_); rintro e w' ⟨rfl, ⟨nd, rfl⟩⟩; (try first | exact ⟨rfl, _, World.drewN_drewN _ _ _⟩ | exact ⟨rfl, _, Eq.trans (World.drewN_drewN _ _ _) (congrArg (World.drewN _) (Nat.add_assoc _ _ _))⟩)))
     repeat (go_quiet (first | (go_at_call 29; (with_reducible refine (rialtoref07_within.calls a0_0 0 1000000 true _ A8.out).mono ?_); rintro e w' ⟨rfl, ⟨nd, rfl⟩⟩; (try first | exact ⟨rfl, _, World.drewN_drewN _ _ _⟩ | exact ⟨rfl, _, Eq.trans (World.drewN_drewN _ _ _) (congrArg (World.drewN _) (Nat.add_assoc _ _ _))⟩)) | (go_at_call 29; (with_reducible refine (rialtoref07_within.calls a0_1 0 7 true _ A10.out).mono ?_); rintro e w' ⟨rfl, ⟨nd, rfl⟩⟩; (try first | exact ⟨rfl, _, World.drewN_drewN _ _ _⟩ | exact ⟨rfl, _, Eq.trans (World.drewN_drewN _ _ _) (congrArg (World.drewN _) (Nat.add_assoc _ _ _))⟩))); try go_wp2_with (first | (go_at_call 29; (with_reducible refine (rialtoref07_within.calls a0_0 0 1000000 true _ A8.out).mono ?_); rintro e w' ⟨rfl, ⟨nd, rfl⟩⟩; (try first | exact ⟨rfl, _, World.drewN_drewN _ _ _⟩ | exact ⟨rfl, _, Eq.trans (World.drewN_drewN _ _ _) (congrArg (World.drewN _) (Nat.add_assoc _ _ _))⟩)) | (go_at_call 29; (with_reducible refine (rialtoref07_within.calls a0_1 0 7 true _ A10.out).mono ?_); rintro e w' ⟨rfl, ⟨nd, rfl⟩⟩; (try first | exact ⟨rfl, _, World.drewN_drewN _ _ _⟩ | exact ⟨rfl, _, Eq.trans (World.drewN_drewN _ _ _) (congrArg (World.drewN _) (Nat.add_assoc _ _ _))⟩))))
     go_meet
     case rel => exact ⟨_, (false), (by first | rfl | (simp; done) | (simp [*]; done)), H', ⟨by first | omega | exact Nat.le_refl _⟩, ⟨by (with_reducible repeat (first | refine blk_drewN ?_ _ | refine blk_drew ?_ | refine blk_alloc ?_ _)); refine blk_far ?_ NB144_145.out _; (with_reducible repeat (first | refine blk_drewN ?_ _ | refine blk_drew ?_ | refine blk_alloc ?_ _)); refine blk_far ?_ NB144_145.out _; exact bk_ BK144.out⟩, ⟨by (with_reducible repeat (first | refine blk_drewN ?_ _ | refine blk_drew ?_ | refine blk_alloc ?_ _)); refine blk_put (cs := #[.int .i64 a0_0, .int .i64 0]) ?_ 1 _ rfl; (with_reducible repeat (first | refine blk_drewN ?_ _ | refine blk_drew ?_ | refine blk_alloc ?_ _)); refine blk_put (cs := #[.int .i64 0, .int .i64 0]) ?_ 0 _ rfl; exact bk_ BK145.out⟩, ⟨by repeat (first | (with_reducible first | exact HB.out | apply below_alloc | apply pw_below_drewN | apply below_drew1 | refine below_set ?_ GE144.out | refine below_set ?_ GE145.out) | exact HB.out)⟩⟩
   ·replace c11 := Bool.eq_false_iff.mpr c11
    subst c11
    have H1 : (rialtoref07_May.j0 k true a0_0 a0_1 a0_2 l0_3 a0_0 a0_1) = some r := by rw [if_neg (show ¬ (false = true) by decide)] at H; exact H
    clear H
    have H := H1
    clear H1
    have H' := Aside0.mk H
    clear H
    have hnb17 := NB145_144.out
    have hnc17 := NB144_145.out
    have hcz18_0 : w5.cell? ⟨gb145, 0, none⟩ = some (.int .i64 0) := (blk_cell BK145.out 0).trans rfl
    have hcz18_1 : w5.cell? ⟨gb145, 1, none⟩ = some (.int .i64 0) := (blk_cell BK145.out 1).trans rfl
    have hfz18_0 := blk_frozen BK145.out 0
    have hfz18_1 := blk_frozen BK145.out 1
    go_wp2_with (first | (go_at_call 29; (with_reducible refine (rialtoref07_within.calls a0_0 0 1000000 true _ A8.out).mono ?_); rintro e w' ⟨rfl, ⟨nd, rfl⟩⟩; (try first | exact ⟨rfl, _, World.drewN_drewN _ _ _⟩ | exact ⟨rfl, _, Eq.trans (World.drewN_drewN _ _ _) (congrArg (World.drewN _) (Nat.add_assoc _ _ _))⟩)) | (go_at_call 29; (with_reducible refine (rialtoref07_within.calls a0_1 0 7 false _ A10.out).mono ?_); rintro e w' ⟨rfl, ⟨nd, rfl⟩⟩; (try first | exact ⟨rfl, _, World.drewN_drewN _ _ _⟩ | exact ⟨rfl, _, Eq.trans (World.drewN_drewN _ _ _) (congrArg (World.drewN _) (Nat.add_assoc _ _ _))⟩)))
    repeat (go_quiet (first | (go_at_call 29; (with_reducible refine (rialtoref07_within.calls a0_0 0 1000000 true _ A8.out).mono ?_); rintro e w' ⟨rfl, ⟨nd, rfl⟩⟩; (try first | exact ⟨rfl, _, World.drewN_drewN _ _ _⟩ | exact ⟨rfl, _, Eq.trans (World.drewN_drewN _ _ _) (congrArg (World.drewN _) (Nat.add_assoc _ _ _))⟩)) | (go_at_call 29; (with_reducible refine (rialtoref07_within.calls a0_1 0 7 false _ A10.out).mono ?_); rintro e w' ⟨rfl, ⟨nd, rfl⟩⟩; (try first | exact ⟨rfl, _, World.drewN_drewN _ _ _⟩ | exact ⟨rfl, _, Eq.trans (World.drewN_drewN _ _ _) (congrArg (World.drewN _) (Nat.add_assoc _ _ _))⟩))); try go_wp2_with (first | (go_at_call 29; (with_reducible refine (rialtoref07_within.calls a0_0 0 1000000 true _ A8.out).mono ?_); rintro e w' ⟨rfl, ⟨nd, rfl⟩⟩; (try first | exact ⟨rfl, _, World.drewN_drewN _ _ _⟩ | exact ⟨rfl, _, Eq.trans (World.drewN_drewN _ _ _) (congrArg (World.drewN _) (Nat.add_assoc _ _ _))⟩)) | (go_at_call 29; (with_reducible refine (rialtoref07_within.calls a0_1 0 7 false _ A10.out).mono ?_); rintro e w' ⟨rfl, ⟨nd, rfl⟩⟩; (try first | exact ⟨rfl, _, World.drewN_drewN _ _ _⟩ | exact ⟨rfl, _, Eq.trans (World.drewN_drewN _ _ _) (congrArg (World.drewN _) (Nat.add_assoc _ _ _))⟩))))
    go_meet
    case rel => exact ⟨_, (true), (by first | rfl | (simp; done) | (simp [*]; done)), H', ⟨by first | omega | exact Nat.le_refl _⟩, ⟨by (with_reducible repeat (first | refine blk_drewN ?_ _ | refine blk_drew ?_ | refine blk_alloc ?_ _)); refine blk_far ?_ NB144_145.out _; (with_reducible repeat (first | refine blk_drewN ?_ _ | refine blk_drew ?_ | refine blk_alloc ?_ _)); refine blk_far ?_ NB144_145.out _; exact bk_ BK144.out⟩, ⟨by (with_reducible repeat (first | refine blk_drewN ?_ _ | refine blk_drew ?_ | refine blk_alloc ?_ _)); refine blk_put (cs := #[.int .i64 a0_0, .int .i64 0]) ?_ 1 _ rfl; (with_reducible repeat (first | refine blk_drewN ?_ _ | refine blk_drew ?_ | refine blk_alloc ?_ _)); refine blk_put (cs := #[.int .i64 0, .int .i64 0]) ?_ 0 _ rfl; exact bk_ BK145.out⟩, ⟨by repeat (first | (with_reducible first | exact HB.out | apply below_alloc | apply pw_below_drewN | apply below_drew1 | refine below_set ?_ GE144.out | refine below_set ?_ GE145.out) | exact HB.out)⟩⟩
  ·replace c9 := Bool.eq_false_iff.mpr c9
   subst c9
   have H1 : (rialtoref07_May.j0 k true a0_0 a0_1 a0_2 l0_3 a0_0 a0_1) = some r := by rw [if_neg (show ¬ (false = true) by decide)] at H; exact H
   clear H
   have H := H1
   clear H1
   have H' := Aside0.mk H
   clear H
   have hnb19 := NB145_144.out
   have hnc19 := NB144_145.out
   have hcz20_0 : w5.cell? ⟨gb145, 0, none⟩ = some (.int .i64 0) := (blk_cell BK145.out 0).trans rfl
   have hcz20_1 : w5.cell? ⟨gb145, 1, none⟩ = some (.int .i64 0) := (blk_cell BK145.out 1).trans rfl
   have hfz20_0 := blk_frozen BK145.out 0
   have hfz20_1 := blk_frozen BK145.out 1
   go_wp2_with (first | (go_at_call 29; (with_reducible refine (rialtoref07_within.calls a0_0 0 1000000 false _ A8.out).mono ?_); rintro e w' ⟨rfl, ⟨nd, rfl⟩⟩; (try first | exact ⟨rfl, _, World.drewN_drewN _ _ _⟩ | exact ⟨rfl, _, Eq.trans (World.drewN_drewN _ _ _) (congrArg (World.drewN _) (Nat.add_assoc _ _ _))⟩)))
   repeat (go_quiet (first | (go_at_call 29; (with_reducible refine (rialtoref07_within.calls a0_0 0 1000000 false _ A8.out).mono ?_); rintro e w' ⟨rfl, ⟨nd, rfl⟩⟩; (try first | exact ⟨rfl, _, World.drewN_drewN _ _ _⟩ | exact ⟨rfl, _, Eq.trans (World.drewN_drewN _ _ _) (congrArg (World.drewN _) (Nat.add_assoc _ _ _))⟩))); try go_wp2_with (first | (go_at_call 29; (with_reducible refine (rialtoref07_within.calls a0_0 0 1000000 false _ A8.out).mono ?_); rintro e w' ⟨rfl, ⟨nd, rfl⟩⟩; (try first | exact ⟨rfl, _, World.drewN_drewN _ _ _⟩ | exact ⟨rfl, _, Eq.trans (World.drewN_drewN _ _ _) (congrArg (World.drewN _) (Nat.add_assoc _ _ _))⟩))))
   go_meet
   case rel => exact ⟨_, (true), (by first | rfl | (simp; done) | (simp [*]; done)), H', ⟨by first | omega | exact Nat.le_refl _⟩, ⟨by (with_reducible repeat (first | refine blk_drewN ?_ _ | refine blk_drew ?_ | refine blk_alloc ?_ _)); refine blk_far ?_ NB144_145.out _; (with_reducible repeat (first | refine blk_drewN ?_ _ | refine blk_drew ?_ | refine blk_alloc ?_ _)); refine blk_far ?_ NB144_145.out _; exact bk_ BK144.out⟩, ⟨by (with_reducible repeat (first | refine blk_drewN ?_ _ | refine blk_drew ?_ | refine blk_alloc ?_ _)); refine blk_put (cs := #[.int .i64 a0_0, .int .i64 0]) ?_ 1 _ rfl; (with_reducible repeat (first | refine blk_drewN ?_ _ | refine blk_drew ?_ | refine blk_alloc ?_ _)); refine blk_put (cs := #[.int .i64 0, .int .i64 0]) ?_ 0 _ rfl; exact bk_ BK145.out⟩, ⟨by repeat (first | (with_reducible first | exact HB.out | apply below_alloc | apply pw_below_drewN | apply below_drew1 | refine below_set ?_ GE144.out | refine below_set ?_ GE145.out) | exact HB.out)⟩⟩
 case rest =>
  clear HC2
  try clear c1
  try clear c2
  try clear p2
  try clear c6
  try clear c9
  try clear c11
  try clear c12
  try clear c12b0
  try clear c12b1
  try clear c13
  try clear c15
  try clear c17
  try clear c19
  try clear hcz14_0
  try clear hcz14_1
  try clear hcz16_0
  try clear hcz16_1
  try clear hcz18_0
  try clear hcz18_1
  try clear hcz20_0
  try clear hcz20_1
  try clear hcz4_0
  try clear hcz4_1
  try clear hcz4_2
  try clear hcz4_3
  try clear hcz7_0
  try clear hcz7_1
  try clear hfz14_0
  try clear hfz14_1
  try clear hfz16_0
  try clear hfz16_1
  try clear hfz18_0
  try clear hfz18_1
  try clear hfz20_0
  try clear hfz20_1
  try clear hfz4_0
  try clear hfz4_1
  try clear hfz4_2
  try clear hfz4_3
  try clear hfz7_0
  try clear hfz7_1
  obtain ⟨kq, x26_1, rfl, HA, HJ1, BK144, BK145, HB⟩ := hcut
  cases kq with
  | zero => exact absurd HA.out (by simp [rialtoref07_May.j0])
  | succ kj1 =>
   have H := HA.out
   clear HA
   simp only [rialtoref07_May.j0] at H
   by_cases c21 : x26_1 = true
   ·subst c21
    have H1 : (some false) = some r := by rw [if_pos rfl] at H; exact H
    clear H
    have H := H1
    clear H1
    obtain rfl := Option.some.inj H
    go_wp2
    repeat (go_quiet (fail); try go_wp2)
    go_ret
    exact ⟨by first | rfl | (simp [errW_none, errW_some] <;> rfl) | (simp [*, errW_none, errW_some] <;> rfl), by repeat (first | (with_reducible first | exact HB.out | apply below_alloc | apply pw_below_drewN | apply below_drew1 | refine below_set ?_ GE144.out | refine below_set ?_ GE145.out) | exact HB.out)⟩
   ·replace c21 := Bool.eq_false_iff.mpr c21
    subst c21
    have H1 : (if a0_2 = 1 then (some ((l0_3.length : Int) == 0)) else (if a0_2 = 2 then (rialtoref07_May.j1 kj1 false a0_0 a0_1 a0_2 l0_3 a0_0 a0_1) else (rialtoref07_May.j1 kj1 (a0_2 != 3) a0_0 a0_1 a0_2 l0_3 a0_0 a0_1))) = some r := by rw [if_neg (show ¬ (false = true) by decide)] at H; exact H
    clear H
    have H := H1
    clear H1
    by_cases c22 : a0_2 = 1
    ·rw [if_pos c22] at H
     have c22b0 : (a0_2 == 1) = true := beq_iff_eq.mpr c22
     have c22b1 : (a0_2 != 1) = false := bne_eq_false_iff_eq.mpr c22
     clear c22
     obtain rfl := Option.some.inj H
     have hnb23 := NB144_145.out
     have hnc23 := NB145_144.out
     have hcz24_0 : wc.cell? ⟨gb144, 0, none⟩ = some (.int .i64 a0_0) := (blk_cell BK144.out 0).trans rfl
     have hcz24_1 : wc.cell? ⟨gb144, 1, none⟩ = some (.int .i64 a0_1) := (blk_cell BK144.out 1).trans rfl
     have hcz24_2 : wc.cell? ⟨gb144, 2, none⟩ = some (.int .i64 a0_2) := (blk_cell BK144.out 2).trans rfl
     have hcz24_3 : wc.cell? ⟨gb144, 3, none⟩ = some (.slice A0_3 l0_3.length c0_3) := (blk_cell BK144.out 3).trans rfl
     have hfz24_0 := blk_frozen BK144.out 0
     have hfz24_1 := blk_frozen BK144.out 1
     have hfz24_2 := blk_frozen BK144.out 2
     have hfz24_3 := blk_frozen BK144.out 3
     go_wp2
     repeat (go_quiet (fail); try go_wp2)
     go_ret
     exact ⟨by first | rfl | (simp [errW_none, errW_some] <;> rfl) | (simp [*, errW_none, errW_some] <;> rfl), by repeat (first | (with_reducible first | exact HB.out | apply below_alloc | apply pw_below_drewN | apply below_drew1 | refine below_set ?_ GE144.out | refine below_set ?_ GE145.out) | exact HB.out)⟩
    ·rw [if_neg c22] at H
     have c22b0 : (a0_2 == 1) = false := beq_eq_false_iff_ne.mpr c22
     have c22b1 : (a0_2 != 1) = true := bne_iff_ne.mpr c22
     have HC25 := Aside0.mk H
     clear H
     have hnb26 := NB144_145.out
     have hnc26 := NB145_144.out
     have hcz27_0 : wc.cell? ⟨gb144, 0, none⟩ = some (.int .i64 a0_0) := (blk_cell BK144.out 0).trans rfl
     have hcz27_1 : wc.cell? ⟨gb144, 1, none⟩ = some (.int .i64 a0_1) := (blk_cell BK144.out 1).trans rfl
     have hcz27_2 : wc.cell? ⟨gb144, 2, none⟩ = some (.int .i64 a0_2) := (blk_cell BK144.out 2).trans rfl
     have hcz27_3 : wc.cell? ⟨gb144, 3, none⟩ = some (.slice A0_3 l0_3.length c0_3) := (blk_cell BK144.out 3).trans rfl
     have hfz27_0 := blk_frozen BK144.out 0
     have hfz27_1 := blk_frozen BK144.out 1
     have hfz27_2 := blk_frozen BK144.out 2
     have hfz27_3 := blk_frozen BK144.out 3
     go_upto_region 6 with (fail)
     repeat (go_quiet (fail); go_upto_region 6 with (fail))
     go_cut [41] (fun v41 wc => ∃ (kq : Nat) (x41_24 : Bool), v41 = .bool x41_24 ∧ Aside0 (rialtoref07_May.j1 kq x41_24 a0_0 a0_1 a0_2 l0_3 a0_0 a0_1 = some r) ∧ Aside0 (kq ≤ kj1) ∧ Aside0 (wc.heap[gb144]? = some (.cells #[.int .i64 a0_0, .int .i64 a0_1, .int .i64 a0_2, (.slice A0_3 l0_3.length c0_3)] 26 (0, 0))) ∧ Aside0 (wc.heap[gb145]? = some (.cells #[.int .i64 a0_0, .int .i64 a0_1] 23 (0, 0))) ∧ Aside0 (Below w.heap.size w wc))
     case first =>
      have H := HC25.out
      clear HC25
      by_cases c28 : a0_2 = 2
      ·rw [if_pos c28] at H
       have c28b0 : (a0_2 == 2) = true := beq_iff_eq.mpr c28
       have c28b1 : (a0_2 != 2) = false := bne_eq_false_iff_eq.mpr c28
       clear c28
       (first | rw [c28b0] | (simp only [i64_w, i32_w]; rw [c28b0]) | skip)
       have H' := Aside0.mk H
       clear H
       have hnb29 := NB144_145.out
       have hnc29 := NB145_144.out
       have hcz30_0 : wc.cell? ⟨gb144, 0, none⟩ = some (.int .i64 a0_0) := (blk_cell BK144.out 0).trans rfl
       have hcz30_1 : wc.cell? ⟨gb144, 1, none⟩ = some (.int .i64 a0_1) := (blk_cell BK144.out 1).trans rfl
       have hcz30_2 : wc.cell? ⟨gb144, 2, none⟩ = some (.int .i64 a0_2) := (blk_cell BK144.out 2).trans rfl
       have hcz30_3 : wc.cell? ⟨gb144, 3, none⟩ = some (.slice A0_3 l0_3.length c0_3) := (blk_cell BK144.out 3).trans rfl
       have hfz30_0 := blk_frozen BK144.out 0
       have hfz30_1 := blk_frozen BK144.out 1
       have hfz30_2 := blk_frozen BK144.out 2
       have hfz30_3 := blk_frozen BK144.out 3
       go_wp2
       repeat (go_quiet (fail); try go_wp2)
       go_meet
       case rel => exact ⟨_, (false), (by first | rfl | (simp; done) | (simp [*]; done)), H', ⟨by have := HJ1.out; first | omega | exact Nat.le_refl _⟩, ⟨by exact bk_ BK144.out⟩, ⟨by exact bk_ BK145.out⟩, ⟨by repeat (first | (with_reducible first | exact HB.out | apply below_alloc | apply pw_below_drewN | apply below_drew1 | refine below_set ?_ GE144.out | refine below_set ?_ GE145.out) | exact HB.out)⟩⟩
      ·rw [if_neg c28] at H
       have c28b0 : (a0_2 == 2) = false := beq_eq_false_iff_ne.mpr c28
       have c28b1 : (a0_2 != 2) = true := bne_iff_ne.mpr c28
       (first | rw [c28b0] | (simp only [i64_w, i32_w]; rw [c28b0]) | skip)
       have H' := Aside0.mk H
       clear H
       have hnb31 := NB144_145.out
       have hnc31 := NB145_144.out
       have hcz32_0 : wc.cell? ⟨gb144, 0, none⟩ = some (.int .i64 a0_0) := (blk_cell BK144.out 0).trans rfl
       have hcz32_1 : wc.cell? ⟨gb144, 1, none⟩ = some (.int .i64 a0_1) := (blk_cell BK144.out 1).trans rfl
       have hcz32_2 : wc.cell? ⟨gb144, 2, none⟩ = some (.int .i64 a0_2) := (blk_cell BK144.out 2).trans rfl
       have hcz32_3 : wc.cell? ⟨gb144, 3, none⟩ = some (.slice A0_3 l0_3.length c0_3) := (blk_cell BK144.out 3).trans rfl
       have hfz32_0 := blk_frozen BK144.out 0
       have hfz32_1 := blk_frozen BK144.out 1
       have hfz32_2 := blk_frozen BK144.out 2
       have hfz32_3 := blk_frozen BK144.out 3
       go_wp2
       repeat (go_quiet (fail); try go_wp2)
       go_meet
       case rel => exact ⟨_, ((a0_2 != 3)), (by first | rfl | (simp; done) | (simp [*]; done)), H', ⟨by have := HJ1.out; first | omega | exact Nat.le_refl _⟩, ⟨by exact bk_ BK144.out⟩, ⟨by exact bk_ BK145.out⟩, ⟨by repeat (first | (with_reducible first | exact HB.out | apply below_alloc | apply pw_below_drewN | apply below_drew1 | refine below_set ?_ GE144.out | refine below_set ?_ GE145.out) | exact HB.out)⟩⟩
     case rest =>
      clear HC25
      try clear c1
      try clear c2
      try clear p2
      try clear c3
      try clear c6
      try clear c9
      try clear c11
      try clear c12
      try clear c12b0
      try clear c12b1
      try clear c13
      try clear c15
      try clear c17
      try clear c19
      try clear c21
      try clear c22
      try clear c22b0
      try clear c22b1
      try clear c23
      try clear c26
      try clear c28
      try clear c28b0
      try clear c28b1
      try clear c29
      try clear c31
      try clear hcz14_0
      try clear hcz14_1
      try clear hcz16_0
      try clear hcz16_1
      try clear hcz18_0
      try clear hcz18_1
      try clear hcz20_0
      try clear hcz20_1
      try clear hcz24_0
      try clear hcz24_1
      try clear hcz24_2
      try clear hcz24_3
      try clear hcz27_0
      try clear hcz27_1
      try clear hcz27_2
      try clear hcz27_3
      try clear hcz30_0
      try clear hcz30_1
      try clear hcz30_2
      try clear hcz30_3
      try clear hcz32_0
      try clear hcz32_1
      try clear hcz32_2
      try clear hcz32_3
      try clear hcz4_0
      try clear hcz4_1
      try clear hcz4_2
      try clear hcz4_3
      try clear hcz7_0
      try clear hcz7_1
      try clear hfz14_0
      try clear hfz14_1
      try clear hfz16_0
      try clear hfz16_1
      try clear hfz18_0
      try clear hfz18_1
      try clear hfz20_0
      try clear hfz20_1
      try clear hfz24_0
      try clear hfz24_1
      try clear hfz24_2
      try clear hfz24_3
      try clear hfz27_0
      try clear hfz27_1
      try clear hfz27_2
      try clear hfz27_3
      try clear hfz30_0
      try clear hfz30_1
      try clear hfz30_2
      try clear hfz30_3
      try clear hfz32_0
      try clear hfz32_1
      try clear hfz32_2
      try clear hfz32_3
      try clear hfz4_0
      try clear hfz4_1
      try clear hfz4_2
      try clear hfz4_3
      try clear hfz7_0
      try clear hfz7_1
      try clear p2
      obtain ⟨kq, x41_24, rfl, HA, HJ24, BK144, BK145, HB⟩ := hcut
      cases kq with
      | zero => exact absurd HA.out (by simp [rialtoref07_May.j1])
      | succ kj24 =>
       have H := HA.out
       clear HA
       simp only [rialtoref07_May.j1] at H
       by_cases c33 : x41_24 = true
       ·subst c33
        have H1 : (some false) = some r := by rw [if_pos rfl] at H; exact H
        clear H
        have H := H1
        clear H1
        obtain rfl := Option.some.inj H
        go_wp2
        repeat (go_quiet (fail); try go_wp2)
        go_ret
        exact ⟨by first | rfl | (simp [errW_none, errW_some] <;> rfl) | (simp [*, errW_none, errW_some] <;> rfl), by repeat (first | (with_reducible first | exact HB.out | apply below_alloc | apply pw_below_drewN | apply below_drew1 | refine below_set ?_ GE144.out | refine below_set ?_ GE145.out) | exact HB.out)⟩
       ·replace c33 := Bool.eq_false_iff.mpr c33
        subst c33
        have H1 : (rialtoref07_May.l0 kj24 0 a0_0 a0_1 a0_2 l0_3 a0_0 a0_1) = some r := by rw [if_neg (show ¬ (false = true) by decide)] at H; exact H
        clear H
        have H := H1
        clear H1
        have H' := Aside0.mk H
        clear H
        go_wp2
        repeat (go_quiet (fail); try go_wp2)
        go_loopg [4] kj24 (fun kq v4 w' => ∃ (x4_3 : Int), v4 = .int .i64 x4_3 ∧ Aside0 (rialtoref07_May.l0 kq x4_3 a0_0 a0_1 a0_2 l0_3 a0_0 a0_1 = some r) ∧ Aside0 (kq ≤ kj24) ∧ Aside0 (w'.heap[gb144]? = some (.cells #[.int .i64 a0_0, .int .i64 a0_1, .int .i64 a0_2, (.slice A0_3 l0_3.length c0_3)] 26 (0, 0))) ∧ Aside0 (w'.heap[gb145]? = some (.cells #[.int .i64 a0_0, .int .i64 a0_1] 23 (0, 0))) ∧ Aside0 (Below w.heap.size w w'))
        case atStart => exact ⟨(0), (by first | rfl | (simp; done) | (simp [*]; done)), H', ⟨Nat.le_refl _⟩, ⟨by exact bk_ BK144.out⟩, ⟨by exact bk_ BK145.out⟩, ⟨by repeat (first | (with_reducible first | exact HB.out | apply below_alloc | apply pw_below_drewN | apply below_drew1 | refine below_set ?_ GE144.out | refine below_set ?_ GE145.out) | exact HB.out)⟩⟩
        case round =>
         clear H'
         try clear c1
         try clear c2
         try clear p2
         try clear c3
         try clear c6
         try clear c9
         try clear c11
         try clear c12
         try clear c12b0
         try clear c12b1
         try clear c13
         try clear c15
         try clear c17
         try clear c19
         try clear c21
         try clear c22
         try clear c22b0
         try clear c22b1
         try clear c23
         try clear c26
         try clear c28
         try clear c28b0
         try clear c28b1
         try clear c29
         try clear c31
         try clear c33
         try clear hcz14_0
         try clear hcz14_1
         try clear hcz16_0
         try clear hcz16_1
         try clear hcz18_0
         try clear hcz18_1
         try clear hcz20_0
         try clear hcz20_1
         try clear hcz24_0
         try clear hcz24_1
         try clear hcz24_2
         try clear hcz24_3
         try clear hcz27_0
         try clear hcz27_1
         try clear hcz27_2
         try clear hcz27_3
         try clear hcz30_0
         try clear hcz30_1
         try clear hcz30_2
         try clear hcz30_3
         try clear hcz32_0
         try clear hcz32_1
         try clear hcz32_2
         try clear hcz32_3
         try clear hcz4_0
         try clear hcz4_1
         try clear hcz4_2
         try clear hcz4_3
         try clear hcz7_0
         try clear hcz7_1
         try clear hfz14_0
         try clear hfz14_1
         try clear hfz16_0
         try clear hfz16_1
         try clear hfz18_0
         try clear hfz18_1
         try clear hfz20_0
         try clear hfz20_1
         try clear hfz24_0
         try clear hfz24_1
         try clear hfz24_2
         try clear hfz24_3
         try clear hfz27_0
         try clear hfz27_1
         try clear hfz27_2
         try clear hfz27_3
         try clear hfz30_0
         try clear hfz30_1
         try clear hfz30_2
         try clear hfz30_3
         try clear hfz32_0
         try clear hfz32_1
         try clear hfz32_2
         try clear hfz32_3
         try clear hfz4_0
         try clear hfz4_1
         try clear hfz4_2
         try clear hfz4_3
         try clear hfz7_0
         try clear hfz7_1
         try clear p2
         obtain ⟨x4_3, rfl, HA, HK3, BK144, BK145, HB⟩ := hrel
         cases gk with
         | zero => exact absurd HA.out (by simp [rialtoref07_May.l0])
         | succ k3 =>
          have H := HA.out
          clear HA
          simp only [rialtoref07_May.l0] at H
          by_cases c34 : x4_3 < (l0_3.length : Int)
          ·rw [if_pos c34] at H
           have c34b0 : decide (x4_3 < (l0_3.length : Int)) = true := decide_eq_true c34
           clear c34
           have HC35 := Aside0.mk H
           clear H
           have hnb36 := NB144_145.out
           have hnc36 := NB145_144.out
           have hcz37_0 : wr.cell? ⟨gb144, 0, none⟩ = some (.int .i64 a0_0) := (blk_cell BK144.out 0).trans rfl
           have hcz37_1 : wr.cell? ⟨gb144, 1, none⟩ = some (.int .i64 a0_1) := (blk_cell BK144.out 1).trans rfl
           have hcz37_2 : wr.cell? ⟨gb144, 2, none⟩ = some (.int .i64 a0_2) := (blk_cell BK144.out 2).trans rfl
           have hcz37_3 : wr.cell? ⟨gb144, 3, none⟩ = some (.slice A0_3 l0_3.length c0_3) := (blk_cell BK144.out 3).trans rfl
           have hfz37_0 := blk_frozen BK144.out 0
           have hfz37_1 := blk_frozen BK144.out 1
           have hfz37_2 := blk_frozen BK144.out 2
           have hfz37_3 := blk_frozen BK144.out 3
           go_upto_region 11 with (fail)
           repeat (go_quiet (fail); go_upto_region 11 with (fail))
           go_cut [73] (fun v73 wc => ∃ (kq : Nat) (x73_34 : Bool), v73 = .bool x73_34 ∧ Aside0 (rialtoref07_May.j3 kq x4_3 x73_34 a0_0 a0_1 a0_2 l0_3 a0_0 a0_1 = some r) ∧ Aside0 (kq ≤ k3) ∧ Aside0 (wc.heap[gb144]? = some (.cells #[.int .i64 a0_0, .int .i64 a0_1, .int .i64 a0_2, (.slice A0_3 l0_3.length c0_3)] 26 (0, 0))) ∧ Aside0 (wc.heap[gb145]? = some (.cells #[.int .i64 a0_0, .int .i64 a0_1] 23 (0, 0))) ∧ Aside0 (Below w.heap.size w wc))
           case first =>
            have H := HC35.out
            clear HC35
            by_cases c38 : 0 ≤ x4_3
            ·rw [if_pos c38] at H
             have c38b0 : decide (0 ≤ x4_3) = true := decide_eq_true c38
             clear c38
             (first | rw [c38b0] | (simp only [i64_w, i32_w]; rw [c38b0]) | skip)
             replace H := Option.bind_eq_some_iff.mp H
             obtain ⟨t150, A390, H⟩ := H
             replace H : (if t150 = true then (if x4_3 > 0 then (if 0 ≤ (wrap64 (x4_3 - 1)) then (if (wrap64 (x4_3 - 1)) < (l0_3.length : Int) then (rialtoref07_May.j3 k3 x4_3 (decide ((rd l0_3 (wrap64 (x4_3 - 1))) ≥ (rd l0_3 x4_3))) a0_0 a0_1 a0_2 l0_3 a0_0 a0_1) else (none)) else (none)) else (rialtoref07_May.j3 k3 x4_3 false a0_0 a0_1 a0_2 l0_3 a0_0 a0_1)) else (rialtoref07_May.j3 k3 x4_3 true a0_0 a0_1 a0_2 l0_3 a0_0 a0_1)) = some r := H
             have A39 := Aside0.mk A390
             clear A390
             by_cases c40 : t150 = true
             ·subst c40
              have H1 : (if x4_3 > 0 then (if 0 ≤ (wrap64 (x4_3 - 1)) then (if (wrap64 (x4_3 - 1)) < (l0_3.length : Int) then (rialtoref07_May.j3 k3 x4_3 (decide ((rd l0_3 (wrap64 (x4_3 - 1))) ≥ (rd l0_3 x4_3))) a0_0 a0_1 a0_2 l0_3 a0_0 a0_1) else (none)) else (none)) else (rialtoref07_May.j3 k3 x4_3 false a0_0 a0_1 a0_2 l0_3 a0_0 a0_1)) = some r := by rw [if_pos rfl] at H; exact H
              clear H
              have H := H1
              clear H1
              by_cases c41 : x4_3 > 0
              ·rw [if_pos c41] at H
               have c41b0 : decide (0 < x4_3) = true := decide_eq_true c41
               clear c41
               obtain ⟨ji42, hji42⟩ : ∃ j_ : Int, (wrap64 (x4_3 - 1)) = j_ := ⟨_, rfl⟩
               replace H : (if 0 ≤ (ji42) then (if (ji42) < (l0_3.length : Int) then (rialtoref07_May.j3 k3 x4_3 (decide ((rd l0_3 (ji42)) ≥ (rd l0_3 x4_3))) a0_0 a0_1 a0_2 l0_3 a0_0 a0_1) else (none)) else (none)) = some r := by first | (rw [hji42] at H; exact H) | (simp only [hji42] at H ⊢; exact H)
               (try rw [hji42] at A39)
               have hji42w : (IntKind.i64.wrap (x4_3 - 1)) = ji42 := (i64_w _).trans hji42
               by_cases c43 : 0 ≤ (ji42)
               ·rw [if_pos c43] at H
                have c43b0 : decide (0 ≤ (ji42)) = true := decide_eq_true c43
                clear c43
                by_cases c44 : (ji42) < (l0_3.length : Int)
                ·rw [if_pos c44] at H
                 have c44b0 : decide ((ji42) < (l0_3.length : Int)) = true := decide_eq_true c44
                 clear c44
                 have H' := Aside0.mk H
                 clear H
                 have hnb45 := NB144_145.out
                 have hnc45 := NB145_144.out
                 have hcz46_0 : wr.cell? ⟨gb144, 0, none⟩ = some (.int .i64 a0_0) := (blk_cell BK144.out 0).trans rfl
                 have hcz46_1 : wr.cell? ⟨gb144, 1, none⟩ = some (.int .i64 a0_1) := (blk_cell BK144.out 1).trans rfl
                 have hcz46_2 : wr.cell? ⟨gb144, 2, none⟩ = some (.int .i64 a0_2) := (blk_cell BK144.out 2).trans rfl
                 have hcz46_3 : wr.cell? ⟨gb144, 3, none⟩ = some (.slice A0_3 l0_3.length c0_3) := (blk_cell BK144.out 3).trans rfl
                 have hfz46_0 := blk_frozen BK144.out 0
                 have hfz46_1 := blk_frozen BK144.out 1
                 have hfz46_2 := blk_frozen BK144.out 2
                 have hfz46_3 := blk_frozen BK144.out 3
                 have p149 : 0 ≤ (x4_3 : Int) := of_decide_eq_true (by first | (with_reducible assumption) | assumption)
                 have q149 : x4_3 < (l0_3.length : Int) := of_decide_eq_true (by first | (with_reducible assumption) | assumption)
                 obtain ⟨ad149, e149, hx149_0⟩ := Kd.at_int HR0_3.out x4_3 p149 q149
                 cases e149
                 replace hx149_0 := (HB.out.cell (World.block_lt_of_cell? w _ hx149_0)).trans hx149_0
                 replace p149 := eq_true p149
                 replace q149 := eq_true q149
                 go_wp2_with (first | (go_at_call 29; (with_reducible refine (rialtoref07_within.calls (rd l0_3 x4_3) 1 7 true _ A39.out).mono ?_); rintro e w' ⟨rfl, ⟨nd, rfl⟩⟩; (try first | exact ⟨rfl, _, World.drewN_drewN _ _ _⟩ | exact ⟨rfl, _, Eq.trans (World.drewN_drewN _ _ _) (congrArg (World.drewN _) (Nat.add_assoc _ _ _))⟩); have p151 : 0 ≤ ((ji42) : Int) := of_decide_eq_true (by first | (with_reducible assumption) | assumption); have q151 : (ji42) < (l0_3.length : Int) := of_decide_eq_true (by first | (with_reducible assumption) | assumption); obtain ⟨ad151, e151, hx151_0⟩ := Kd.at_int HR0_3.out (ji42) p151 q151; obtain rfl : ad149 = ad151 := (by injection e151); replace hx151_0 := (HB.out.cell (World.block_lt_of_cell? w _ hx151_0)).trans hx151_0; replace p151 := eq_true p151; replace q151 := eq_true q151; have p152 : 0 ≤ (x4_3 : Int) := of_decide_eq_true (by first | (with_reducible assumption) | assumption); have q152 : x4_3 < (l0_3.length : Int) := of_decide_eq_true (by first | (with_reducible assumption) | assumption); obtain ⟨ad152, e152, hx152_0⟩ := Kd.at_int HR0_3.out x4_3 p152 q152; obtain rfl : ad149 = ad152 := (by injection e152); replace hx152_0 := (HB.out.cell (World.block_lt_of_cell? w _ hx152_0)).trans hx152_0; replace p152 := eq_true p152; replace q152 := eq_true q152))
                 repeat (go_quiet (first | (go_at_call 29; (with_reducible refine (rialtoref07_within.calls (rd l0_3 x4_3) 1 7 true _ A39.out).mono ?_); rintro e w' ⟨rfl, ⟨nd, rfl⟩⟩; (try first | exact ⟨rfl, _, World.drewN_drewN _ _ _⟩ | exact ⟨rfl, _, Eq.trans (World.drewN_drewN _ _ _) (congrArg (World.drewN _) (Nat.add_assoc _ _ _))⟩); have p151 : 0 ≤ ((ji42) : Int) := of_decide_eq_true (by first | (with_reducible assumption) | assumption); have q151 : (ji42) < (l0_3.length : Int) := of_decide_eq_true (by first | (with_reducible assumption) | assumption); obtain ⟨ad151, e151, hx151_0⟩ := Kd.at_int HR0_3.out (ji42) p151 q151; obtain rfl : ad149 = ad151 := (by injection e151); replace hx151_0 := (HB.out.cell (World.block_lt_of_cell? w _ hx151_0)).trans hx151_0; replace p151 := eq_true p151; replace q151 := eq_true q151; have p152 : 0 ≤ (x4_3 : Int) := of_decide_eq_true (by first | (with_reducible assumption) | assumption); have q152 : x4_3 < (l0_3.length : Int) := of_decide_eq_true (by first | (with_reducible assumption) | assumption); obtain ⟨ad152, e152, hx152_0⟩ := Kd.at_int HR0_3.out x4_3 p152 q152; obtain rfl : ad149 = ad152 := (by injection e152); replace hx152_0 := (HB.out.cell (World.block_lt_of_cell? w _ hx152_0)).trans hx152_0; replace p152 := eq_true p152; replace q152 := eq_true q152)); try go_wp2_with (first | (go_at_call 29; (with_reducible refine (rialtoref07_within.calls (rd l0_3 x4_3) 1 7 true _ A39.out).mono ?_); rintro e w' ⟨rfl, ⟨nd, rfl⟩⟩; (try first | exact ⟨rfl, _, World.drewN_drewN _ _ _⟩ | exact ⟨rfl, _, Eq.trans (World.drewN_drewN _ _ _) (congrArg (World.drewN _) (Nat.add_assoc _ _ _))⟩); have p151 : 0 ≤ ((ji42) : Int) := of_decide_eq_true (by first | (with_reducible assumption) | assumption); have q151 : (ji42) < (l0_3.length : Int) := of_decide_eq_true (by first | (with_reducible assumption) | assumption); obtain ⟨ad151, e151, hx151_0⟩ := Kd.at_int HR0_3.out (ji42) p151 q151; obtain rfl : ad149 = ad151 := (by injection e151); replace hx151_0 := (HB.out.cell (World.block_lt_of_cell? w _ hx151_0)).trans hx151_0; replace p151 := eq_true p151; replace q151 := eq_true q151; have p152 : 0 ≤ (x4_3 : Int) := of_decide_eq_true (by first | (with_reducible assumption) | assumption); have q152 : x4_3 < (l0_3.length : Int) := of_decide_eq_true (by first | (with_reducible assumption) | assumption); obtain ⟨ad152, e152, hx152_0⟩ := Kd.at_int HR0_3.out x4_3 p152 q152; obtain rfl : ad149 = ad152 := (by injection e152); replace hx152_0 := (HB.out.cell (World.block_lt_of_cell? w _ hx152_0)).trans hx152_0; replace p152 := eq_true p152; replace q152 := eq_true q152)))
                 go_meet
                 case rel => exact ⟨_, (decide ((rd l0_3 (ji42)) ≥ (rd l0_3 x4_3))), (by first | rfl | (simp; done) | (simp only [← hji42] <;> (first | rfl | simp)) | (simp [*]; done)), H', ⟨by have := HJ1.out; have := HJ24.out; have := HK3.out; first | omega | exact Nat.le_refl _⟩, ⟨by exact bk_ BK144.out⟩, ⟨by exact bk_ BK145.out⟩, ⟨by repeat (first | (with_reducible first | exact HB.out | apply below_alloc | apply pw_below_drewN | apply below_drew1 | refine below_set ?_ GE144.out | refine below_set ?_ GE145.out) | exact HB.out)⟩⟩
                ·rw [if_neg c44] at H
                 exact absurd H (by simp)
               ·rw [if_neg c43] at H
                exact absurd H (by simp)
              ·rw [if_neg c41] at H
               have c41b0 : decide (0 < x4_3) = false := decide_eq_false c41
               clear c41
               have H' := Aside0.mk H
               clear H
               have hnb47 := NB144_145.out
               have hnc47 := NB145_144.out
               have hcz48_0 : wr.cell? ⟨gb144, 0, none⟩ = some (.int .i64 a0_0) := (blk_cell BK144.out 0).trans rfl
               have hcz48_1 : wr.cell? ⟨gb144, 1, none⟩ = some (.int .i64 a0_1) := (blk_cell BK144.out 1).trans rfl
               have hcz48_2 : wr.cell? ⟨gb144, 2, none⟩ = some (.int .i64 a0_2) := (blk_cell BK144.out 2).trans rfl
               have hcz48_3 : wr.cell? ⟨gb144, 3, none⟩ = some (.slice A0_3 l0_3.length c0_3) := (blk_cell BK144.out 3).trans rfl
               have hfz48_0 := blk_frozen BK144.out 0
               have hfz48_1 := blk_frozen BK144.out 1
               have hfz48_2 := blk_frozen BK144.out 2
               have hfz48_3 := blk_frozen BK144.out 3
               have p149 : 0 ≤ (x4_3 : Int) := of_decide_eq_true (by first | (with_reducible assumption) | assumption)
               have q149 : x4_3 < (l0_3.length : Int) := of_decide_eq_true (by first | (with_reducible assumption) | assumption)
               obtain ⟨ad149, e149, hx149_0⟩ := Kd.at_int HR0_3.out x4_3 p149 q149
               cases e149
               replace hx149_0 := (HB.out.cell (World.block_lt_of_cell? w _ hx149_0)).trans hx149_0
               replace p149 := eq_true p149
               replace q149 := eq_true q149
               go_wp2_with (first | (go_at_call 29; (with_reducible refine (rialtoref07_within.calls (rd l0_3 x4_3) 1 7 true _ A39.out).mono ?_); rintro e w' ⟨rfl, ⟨nd, rfl⟩⟩; (try first | exact ⟨rfl, _, World.drewN_drewN _ _ _⟩ | exact ⟨rfl, _, Eq.trans (World.drewN_drewN _ _ _) (congrArg (World.drewN _) (Nat.add_assoc _ _ _))⟩)))
               repeat (go_quiet (first | (go_at_call 29; (with_reducible refine (rialtoref07_within.calls (rd l0_3 x4_3) 1 7 true _ A39.out).mono ?_); rintro e w' ⟨rfl, ⟨nd, rfl⟩⟩; (try first | exact ⟨rfl, _, World.drewN_drewN _ _ _⟩ | exact ⟨rfl, _, Eq.trans (World.drewN_drewN _ _ _) (congrArg (World.drewN _) (Nat.add_assoc _ _ _))⟩))); try go_wp2_with (first | (go_at_call 29; (with_reducible refine (rialtoref07_within.calls (rd l0_3 x4_3) 1 7 true _ A39.out).mono ?_); rintro e w' ⟨rfl, ⟨nd, rfl⟩⟩; (try first | exact ⟨rfl, _, World.drewN_drewN _ _ _⟩ | exact ⟨rfl, _, Eq.trans (World.drewN_drewN _ _ _) (congrArg (World.drewN _) (Nat.add_assoc _ _ _))⟩))))
               go_meet
               case rel => exact ⟨_, (false), (by first | rfl | (simp; done) | (simp [*]; done)), H', ⟨by have := HJ1.out; have := HJ24.out; have := HK3.out; first | omega | exact Nat.le_refl _⟩, ⟨by exact bk_ BK144.out⟩, ⟨by exact bk_ BK145.out⟩, ⟨by repeat (first | (with_reducible first | exact HB.out | apply below_alloc | apply pw_below_drewN | apply below_drew1 | refine below_set ?_ GE144.out | refine below_set ?_ GE145.out) | exact HB.out)⟩⟩
             ·replace c40 := Bool.eq_false_iff.mpr c40
              subst c40
              have H1 : (rialtoref07_May.j3 k3 x4_3 true a0_0 a0_1 a0_2 l0_3 a0_0 a0_1) = some r := by rw [if_neg (show ¬ (false = true) by decide)] at H; exact H
              clear H
              have H := H1
              clear H1
              have H' := Aside0.mk H
              clear H
              have hnb49 := NB144_145.out
              have hnc49 := NB145_144.out
              have hcz50_0 : wr.cell? ⟨gb144, 0, none⟩ = some (.int .i64 a0_0) := (blk_cell BK144.out 0).trans rfl
              have hcz50_1 : wr.cell? ⟨gb144, 1, none⟩ = some (.int .i64 a0_1) := (blk_cell BK144.out 1).trans rfl
              have hcz50_2 : wr.cell? ⟨gb144, 2, none⟩ = some (.int .i64 a0_2) := (blk_cell BK144.out 2).trans rfl
              have hcz50_3 : wr.cell? ⟨gb144, 3, none⟩ = some (.slice A0_3 l0_3.length c0_3) := (blk_cell BK144.out 3).trans rfl
              have hfz50_0 := blk_frozen BK144.out 0
              have hfz50_1 := blk_frozen BK144.out 1
              have hfz50_2 := blk_frozen BK144.out 2
              have hfz50_3 := blk_frozen BK144.out 3
              have p149 : 0 ≤ (x4_3 : Int) := of_decide_eq_true (by first | (with_reducible assumption) | assumption)
              have q149 : x4_3 < (l0_3.length : Int) := of_decide_eq_true (by first | (with_reducible assumption) | assumption)
              obtain ⟨ad149, e149, hx149_0⟩ := Kd.at_int HR0_3.out x4_3 p149 q149
              cases e149
              replace hx149_0 := (HB.out.cell (World.block_lt_of_cell? w _ hx149_0)).trans hx149_0
              replace p149 := eq_true p149
              replace q149 := eq_true q149
              go_wp2_with (first | (go_at_call 29; (with_reducible refine (rialtoref07_within.calls (rd l0_3 x4_3) 1 7 false _ A39.out).mono ?_); rintro e w' ⟨rfl, ⟨nd, rfl⟩⟩; (try first | exact ⟨rfl, _, World.drewN_drewN _ _ _⟩ | exact ⟨rfl, _, Eq.trans (World.drewN_drewN _ _ _) (congrArg (World.drewN _) (Nat.add_assoc _ _ _))⟩)))
              repeat (go_quiet (first | (go_at_call 29; (with_reducible refine (rialtoref07_within.calls (rd l0_3 x4_3) 1 7 false _ A39.out).mono ?_); rintro e w' ⟨rfl, ⟨nd, rfl⟩⟩; (try first | exact ⟨rfl, _, World.drewN_drewN _ _ _⟩ | exact ⟨rfl, _, Eq.trans (World.drewN_drewN _ _ _) (congrArg (World.drewN _) (Nat.add_assoc _ _ _))⟩))); try go_wp2_with (first | (go_at_call 29; (with_reducible refine (rialtoref07_within.calls (rd l0_3 x4_3) 1 7 false _ A39.out).mono ?_); rintro e w' ⟨rfl, ⟨nd, rfl⟩⟩; (try first | exact ⟨rfl, _, World.drewN_drewN _ _ _⟩ | exact ⟨rfl, _, Eq.trans (World.drewN_drewN _ _ _) (congrArg (World.drewN _) (Nat.add_assoc _ _ _))⟩))))
              go_meet
              case rel => exact ⟨_, (true), (by first | rfl | (simp; done) | (simp [*]; done)), H', ⟨by have := HJ1.out; have := HJ24.out; have := HK3.out; first | omega | exact Nat.le_refl _⟩, ⟨by exact bk_ BK144.out⟩, ⟨by exact bk_ BK145.out⟩, ⟨by repeat (first | (with_reducible first | exact HB.out | apply below_alloc | apply pw_below_drewN | apply below_drew1 | refine below_set ?_ GE144.out | refine below_set ?_ GE145.out) | exact HB.out)⟩⟩
            ·rw [if_neg c38] at H
             exact absurd H (by simp)
           case rest =>
            clear HC35
            try clear c1
            try clear p1
            try clear q1
            try clear hx1
            try clear c2
            try clear p2
            try clear c3
            try clear c4
            try clear c6
            try clear p6
            try clear c9
            try clear c11
            try clear c12
            try clear c12b0
            try clear c12b1
            try clear c13
            try clear p14
            try clear q14
            try clear hx14
            try clear c15
            try clear p15
            try clear q15
            try clear hx15
            try clear c17
            try clear c19
            try clear c21
            try clear c22
            try clear c22b0
            try clear c22b1
            try clear c23
            try clear c26
            try clear c28
            try clear c28b0
            try clear c28b1
            try clear c29
            try clear c31
            try clear c33
            try clear c34
            try clear c34b0
            try clear c36
            try clear c38
            try clear c38b0
            try clear c40
            try clear c41
            try clear c41b0
            try clear c43
            try clear c43b0
            try clear c44
            try clear c44b0
            try clear c45
            try clear c47
            try clear c49
            try clear hcz14_0
            try clear hcz14_1
            try clear hcz16_0
            try clear hcz16_1
            try clear hcz18_0
            try clear hcz18_1
            try clear hcz20_0
            try clear hcz20_1
            try clear hcz24_0
            try clear hcz24_1
            try clear hcz24_2
            try clear hcz24_3
            try clear hcz27_0
            try clear hcz27_1
            try clear hcz27_2
            try clear hcz27_3
            try clear hcz30_0
            try clear hcz30_1
            try clear hcz30_2
            try clear hcz30_3
            try clear hcz32_0
            try clear hcz32_1
            try clear hcz32_2
            try clear hcz32_3
            try clear hcz37_0
            try clear hcz37_1
            try clear hcz37_2
            try clear hcz37_3
            try clear hcz46_0
            try clear hcz46_1
            try clear hcz46_2
            try clear hcz46_3
            try clear hcz48_0
            try clear hcz48_1
            try clear hcz48_2
            try clear hcz48_3
            try clear hcz4_0
            try clear hcz4_1
            try clear hcz4_2
            try clear hcz4_3
            try clear hcz50_0
            try clear hcz50_1
            try clear hcz50_2
            try clear hcz50_3
            try clear hcz7_0
            try clear hcz7_1
            try clear hfz14_0
            try clear hfz14_1
            try clear hfz16_0
            try clear hfz16_1
            try clear hfz18_0
            try clear hfz18_1
            try clear hfz20_0
            try clear hfz20_1
            try clear hfz24_0
            try clear hfz24_1
            try clear hfz24_2
            try clear hfz24_3
            try clear hfz27_0
            try clear hfz27_1
            try clear hfz27_2
            try clear hfz27_3
            try clear hfz30_0
            try clear hfz30_1
            try clear hfz30_2
            try clear hfz30_3
            try clear hfz32_0
            try clear hfz32_1
            try clear hfz32_2
            try clear hfz32_3
            try clear hfz37_0
            try clear hfz37_1
            try clear hfz37_2
            try clear hfz37_3
            try clear hfz46_0
            try clear hfz46_1
            try clear hfz46_2
            try clear hfz46_3
            try clear hfz48_0
            try clear hfz48_1
            try clear hfz48_2
            try clear hfz48_3
            try clear hfz4_0
            try clear hfz4_1
            try clear hfz4_2
            try clear hfz4_3
            try clear hfz50_0
            try clear hfz50_1
            try clear hfz50_2
            try clear hfz50_3
            try clear hfz7_0
            try clear hfz7_1
            try clear hx149_0
            try clear hx151_0
            try clear hx152_0
            try clear p149
            try clear p151
            try clear p152
            try clear p2
            try clear q149
            try clear q151
            try clear q152
            obtain ⟨kq, x73_34, rfl, HA, HJ34, BK144, BK145, HB⟩ := hcut
            cases kq with
            | zero => exact absurd HA.out (by simp [rialtoref07_May.j3])
            | succ kj34 =>
             have H := HA.out
             clear HA
             simp only [rialtoref07_May.j3] at H
             by_cases c51 : x73_34 = true
             ·subst c51
              have H1 : (some false) = some r := by rw [if_pos rfl] at H; exact H
              clear H
              have H := H1
              clear H1
              obtain rfl := Option.some.inj H
              go_wp2
              repeat (go_quiet (fail); try go_wp2)
              go_ret
              exact ⟨by first | rfl | (simp [errW_none, errW_some] <;> rfl) | (simp [*, errW_none, errW_some] <;> rfl), by repeat (first | (with_reducible first | exact HB.out | apply below_alloc | apply pw_below_drewN | apply below_drew1 | refine below_set ?_ GE144.out | refine below_set ?_ GE145.out) | exact HB.out)⟩
             ·replace c51 := Bool.eq_false_iff.mpr c51
              subst c51
              have H1 : (rialtoref07_May.l0 kj34 (wrap64 (x4_3 + 1)) a0_0 a0_1 a0_2 l0_3 a0_0 a0_1) = some r := by rw [if_neg (show ¬ (false = true) by decide)] at H; exact H
              clear H
              have H := H1
              clear H1
              have H' := Aside0.mk H
              clear H
              go_wp2
              repeat (go_quiet (fail); try go_wp2)
              go_roundg kj34
              case measure => have := HJ1.out; have := HJ24.out; have := HK3.out; have := HJ34.out; omega
              case rel => exact ⟨(wrap64 (x4_3 + 1)), (by first | rfl | (simp; done) | (simp [*]; done)), H', ⟨by have := HJ1.out; have := HJ24.out; have := HK3.out; have := HJ34.out; omega⟩, ⟨by exact bk_ BK144.out⟩, ⟨by exact bk_ BK145.out⟩, ⟨by repeat (first | (with_reducible first | exact HB.out | apply below_alloc | apply pw_below_drewN | apply below_drew1 | refine below_set ?_ GE144.out | refine below_set ?_ GE145.out) | exact HB.out)⟩⟩
          ·rw [if_neg c34] at H
           have c34b0 : decide (x4_3 < (l0_3.length : Int)) = false := decide_eq_false c34
           clear c34
           by_cases c52 : a0_0 > 0
           ·rw [if_pos c52] at H
            have c52b0 : decide (0 < a0_0) = true := decide_eq_true c52
            clear c52
            by_cases c53 : a0_1 > 0
            ·rw [if_pos c53] at H
             have c53b0 : decide (0 < a0_1) = true := decide_eq_true c53
             clear c53
             replace H := Option.bind_eq_some_iff.mp H
             obtain ⟨t148, A540, H⟩ := H
             replace H : (some t148) = some r := H
             have A54 := Aside0.mk A540
             clear A540
             obtain rfl := Option.some.inj H
             have hnb55 := NB144_145.out
             have hnc55 := NB145_144.out
             have hcz56_0 : wr.cell? ⟨gb144, 0, none⟩ = some (.int .i64 a0_0) := (blk_cell BK144.out 0).trans rfl
             have hcz56_1 : wr.cell? ⟨gb144, 1, none⟩ = some (.int .i64 a0_1) := (blk_cell BK144.out 1).trans rfl
             have hcz56_2 : wr.cell? ⟨gb144, 2, none⟩ = some (.int .i64 a0_2) := (blk_cell BK144.out 2).trans rfl
             have hcz56_3 : wr.cell? ⟨gb144, 3, none⟩ = some (.slice A0_3 l0_3.length c0_3) := (blk_cell BK144.out 3).trans rfl
             have hfz56_0 := blk_frozen BK144.out 0
             have hfz56_1 := blk_frozen BK144.out 1
             have hfz56_2 := blk_frozen BK144.out 2
             have hfz56_3 := blk_frozen BK144.out 3
             have hcz57_0 : wr.cell? ⟨gb145, 0, none⟩ = some (.int .i64 a0_0) := (blk_cell BK145.out 0).trans rfl
             have hcz57_1 : wr.cell? ⟨gb145, 1, none⟩ = some (.int .i64 a0_1) := (blk_cell BK145.out 1).trans rfl
             have hfz57_0 := blk_frozen BK145.out 0
             have hfz57_1 := blk_frozen BK145.out 1
             go_wp2_with (first | (go_at_call 38; (with_reducible refine (rialtoref07_has.calls k3 _ _ l0_3 a0_1 t148 _ ?side1 ?side2 A54.out).mono ?_); (case side1 => repeat (first | exact (Kd.C_below HR0_3.out HB.out) | (with_reducible refine Kd.C_alloc ?_ _) | (with_reducible refine Kd.C_drewN ?_ _) | (with_reducible refine Kd.C_drew ?_))); (case side2 => exact HC0_3.out); rintro e w' ⟨rfl, ⟨nd, rfl⟩⟩; (try first | exact ⟨rfl, _, World.drewN_drewN _ _ _⟩ | exact ⟨rfl, _, Eq.trans (World.drewN_drewN _ _ _) (congrArg (World.drewN _) (Nat.add_assoc _ _ _))⟩)))
             repeat (go_quiet (first | (go_at_call 38; (with_reducible refine (rialtoref07_has.calls k3 _ _ l0_3 a0_1 t148 _ ?side1 ?side2 A54.out).mono ?_); (case side1 => repeat (first | exact (Kd.C_below HR0_3.out HB.out) | (with_reducible refine Kd.C_alloc ?_ _) | (with_reducible refine Kd.C_drewN ?_ _) | (with_reducible refine Kd.C_drew ?_))); (case side2 => exact HC0_3.out); rintro e w' ⟨rfl, ⟨nd, rfl⟩⟩; (try first | exact ⟨rfl, _, World.drewN_drewN _ _ _⟩ | exact ⟨rfl, _, Eq.trans (World.drewN_drewN _ _ _) (congrArg (World.drewN _) (Nat.add_assoc _ _ _))⟩))); try go_wp2_with (first | (go_at_call 38; (with_reducible refine (rialtoref07_has.calls k3 _ _ l0_3 a0_1 t148 _ ?side1 ?side2 A54.out).mono ?_); (case side1 => repeat (first | exact (Kd.C_below HR0_3.out HB.out) | (with_reducible refine Kd.C_alloc ?_ _) | (with_reducible refine Kd.C_drewN ?_ _) | (with_reducible refine Kd.C_drew ?_))); (case side2 => exact HC0_3.out); rintro e w' ⟨rfl, ⟨nd, rfl⟩⟩; (try first | exact ⟨rfl, _, World.drewN_drewN _ _ _⟩ | exact ⟨rfl, _, Eq.trans (World.drewN_drewN _ _ _) (congrArg (World.drewN _) (Nat.add_assoc _ _ _))⟩))))
             go_ret
             exact ⟨by first | rfl | (simp [errW_none, errW_some] <;> rfl) | (simp [*, errW_none, errW_some] <;> rfl), by repeat (first | (with_reducible first | exact HB.out | apply below_alloc | apply pw_below_drewN | apply below_drew1 | refine below_set ?_ GE144.out | refine below_set ?_ GE145.out) | exact HB.out)⟩
            ·rw [if_neg c53] at H
             have c53b0 : decide (0 < a0_1) = false := decide_eq_false c53
             clear c53
             obtain rfl := Option.some.inj H
             have hnb58 := NB144_145.out
             have hnc58 := NB145_144.out
             have hcz59_0 : wr.cell? ⟨gb144, 0, none⟩ = some (.int .i64 a0_0) := (blk_cell BK144.out 0).trans rfl
             have hcz59_1 : wr.cell? ⟨gb144, 1, none⟩ = some (.int .i64 a0_1) := (blk_cell BK144.out 1).trans rfl
             have hcz59_2 : wr.cell? ⟨gb144, 2, none⟩ = some (.int .i64 a0_2) := (blk_cell BK144.out 2).trans rfl
             have hcz59_3 : wr.cell? ⟨gb144, 3, none⟩ = some (.slice A0_3 l0_3.length c0_3) := (blk_cell BK144.out 3).trans rfl
             have hfz59_0 := blk_frozen BK144.out 0
             have hfz59_1 := blk_frozen BK144.out 1
             have hfz59_2 := blk_frozen BK144.out 2
             have hfz59_3 := blk_frozen BK144.out 3
             have hcz60_0 : wr.cell? ⟨gb145, 0, none⟩ = some (.int .i64 a0_0) := (blk_cell BK145.out 0).trans rfl
             have hcz60_1 : wr.cell? ⟨gb145, 1, none⟩ = some (.int .i64 a0_1) := (blk_cell BK145.out 1).trans rfl
             have hfz60_0 := blk_frozen BK145.out 0
             have hfz60_1 := blk_frozen BK145.out 1
             go_wp2
             repeat (go_quiet (fail); try go_wp2)
             go_ret
             exact ⟨by first | rfl | (simp [errW_none, errW_some] <;> rfl) | (simp [*, errW_none, errW_some] <;> rfl), by repeat (first | (with_reducible first | exact HB.out | apply below_alloc | apply pw_below_drewN | apply below_drew1 | refine below_set ?_ GE144.out | refine below_set ?_ GE145.out) | exact HB.out)⟩
           ·rw [if_neg c52] at H
            have c52b0 : decide (0 < a0_0) = false := decide_eq_false c52
            clear c52
            obtain rfl := Option.some.inj H
            have hnb61 := NB144_145.out
            have hnc61 := NB145_144.out
            have hcz62_0 : wr.cell? ⟨gb144, 0, none⟩ = some (.int .i64 a0_0) := (blk_cell BK144.out 0).trans rfl
            have hcz62_1 : wr.cell? ⟨gb144, 1, none⟩ = some (.int .i64 a0_1) := (blk_cell BK144.out 1).trans rfl
            have hcz62_2 : wr.cell? ⟨gb144, 2, none⟩ = some (.int .i64 a0_2) := (blk_cell BK144.out 2).trans rfl
            have hcz62_3 : wr.cell? ⟨gb144, 3, none⟩ = some (.slice A0_3 l0_3.length c0_3) := (blk_cell BK144.out 3).trans rfl
            have hfz62_0 := blk_frozen BK144.out 0
            have hfz62_1 := blk_frozen BK144.out 1
            have hfz62_2 := blk_frozen BK144.out 2
            have hfz62_3 := blk_frozen BK144.out 3
            have hcz63_0 : wr.cell? ⟨gb145, 0, none⟩ = some (.int .i64 a0_0) := (blk_cell BK145.out 0).trans rfl
            have hcz63_1 : wr.cell? ⟨gb145, 1, none⟩ = some (.int .i64 a0_1) := (blk_cell BK145.out 1).trans rfl
            have hfz63_0 := blk_frozen BK145.out 0
            have hfz63_1 := blk_frozen BK145.out 1
            go_wp2
            repeat (go_quiet (fail); try go_wp2)
            go_ret
            exact ⟨by first | rfl | (simp [errW_none, errW_some] <;> rfl) | (simp [*, errW_none, errW_some] <;> rfl), by repeat (first | (with_reducible first | exact HB.out | apply below_alloc | apply pw_below_drewN | apply below_drew1 | refine below_set ?_ GE144.out | refine below_set ?_ GE145.out) | exact HB.out)⟩

end Go.Proofs.Ythhdfefobblmkaa.P
