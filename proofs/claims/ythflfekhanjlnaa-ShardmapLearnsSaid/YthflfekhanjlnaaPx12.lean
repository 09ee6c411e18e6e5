/- Functions that the laws reach, told as plain functions, each with a proof that the call computes it; for every input. Written by a program of ours out of the translation. -/
import Derived.Test.YthflfekhanjlnaaPx0
import Derived.Test.YthflfekhanjlnaaPx3
import Derived.Test.YthflfekhanjlnaaPx4
import Derived.Test.YthflfekhanjlnaaPx11
namespace Go.Proofs.Ythflfekhanjlnaa.P
open Go.RowKit Go.Proofs.YthflfekhanjlnaaW.PrintWords Go.Proofs.YthflfekhanjlnaaW.PrintLast Go.Proofs.YthflfekhanjlnaaW.PrintMore
open Go.Proofs.YthflfekhanjlnaaG (bk_ bl_ rk_)
attribute [local go_sem] max2_int min2_int max_two min_two max_three min_three max_four min_four   -- for this text's walks alone
set_option linter.unusedVariables false
set_option linter.unusedSimpArgs false

@[reducible] def KnaaPx12_0 : Array Bool := #[false, false, false, false, false, false, false, false, false, false, false, false, false, false, false, false, false, false, false, false, false, false, false, false, false, false, false, false, false, false, false, false]
@[reducible] def KnaaPx12_1 : Array Bool := #[true, false, false, false, false, false, false, false, false, false, false, false, false, false, false, false, false, false, false, false, false, false, false, false, false, false, false, false, false, false, false, false]
@[reducible] def KnaaPx12_2 : Array Bool := #[true, true, false, false, false, false, false, false, false, false, false, false, false, false, false, false, false, false, false, false, false, false, false, false, false, false, false, false, false, false, false, false]
@[reducible] def KnaaPx12_3 : Array Bool := #[true, true, true, false, false, false, false, false, false, false, false, false, false, false, false, false, false, false, false, false, false, false, false, false, false, false, false, false, false, false, false, false]
@[reducible] def KnaaPx12_4 : Array Bool := #[true, true, true, true, false, false, false, false, false, false, false, false, false, false, false, false, false, false, false, false, false, false, false, false, false, false, false, false, false, false, false, false]
@[reducible] def KnaaPx12_5 : Array Bool := #[true, true, true, true, true, false, false, false, false, false, false, false, false, false, false, false, false, false, false, false, false, false, false, false, false, false, false, false, false, false, false, false]
@[reducible] def KnaaPx12_6 : Array Bool := #[true, true, true, true, true, true, false, false, false, false, false, false, false, false, false, false, false, false, false, false, false, false, false, false, false, false, false, false, false, false, false, false]
@[reducible] def KnaaPx12_7 : Array Bool := #[true, true, true, true, true, true, true, false, false, false, false, false, false, false, false, false, false, false, false, false, false, false, false, false, false, false, false, false, false, false, false, false]
@[reducible] def KnaaPx12_8 : Array Bool := #[true, true, true, true, true, true, true, true, false, false, false, false, false, false, false, false, false, false, false, false, false, false, false, false, false, false, false, false, false, false, false, false]
@[reducible] def KnaaPx12_9 : Array Bool := #[true, true, true, true, true, true, true, true, true, false, false, false, false, false, false, false, false, false, false, false, false, false, false, false, false, false, false, false, false, false, false, false]
@[reducible] def KnaaPx12_10 : Array Bool := #[true, true, true, true, true, true, true, true, true, true, false, false, false, false, false, false, false, false, false, false, false, false, false, false, false, false, false, false, false, false, false, false]
@[reducible] def KnaaPx12_11 : Array Bool := #[true, true, true, true, true, true, true, true, true, true, true, false, false, false, false, false, false, false, false, false, false, false, false, false, false, false, false, false, false, false, false, false]
@[reducible] def KnaaPx12_12 : Array Bool := #[true, true, true, true, true, true, true, true, true, true, true, true, false, false, false, false, false, false, false, false, false, false, false, false, false, false, false, false, false, false, false, false]
@[reducible] def KnaaPx12_13 : Array Bool := #[true, true, true, true, true, true, true, true, true, true, true, true, true, false, false, false, false, false, false, false, false, false, false, false, false, false, false, false, false, false, false, false]
@[reducible] def KnaaPx12_14 : Array Bool := #[true, true, true, true, true, true, true, true, true, true, true, true, true, true, false, false, false, false, false, false, false, false, false, false, false, false, false, false, false, false, false, false]
@[reducible] def KnaaPx12_15 : Array Bool := #[true, true, true, true, true, true, true, true, true, true, true, true, true, true, true, false, false, false, false, false, false, false, false, false, false, false, false, false, false, false, false, false]
@[reducible] def KnaaPx12_16 : Array Bool := #[true, true, true, true, true, true, true, true, true, true, true, true, true, true, true, true, false, false, false, false, false, false, false, false, false, false, false, false, false, false, false, false]
@[reducible] def KnaaPx12_17 : Array Bool := #[true, true, true, true, true, true, true, true, true, true, true, true, true, true, true, true, true, false, false, false, false, false, false, false, false, false, false, false, false, false, false, false]
@[reducible] def KnaaPx12_18 : Array Bool := #[true, true, true, true, true, true, true, true, true, true, true, true, true, true, true, true, true, true, false, false, false, false, false, false, false, false, false, false, false, false, false, false]
@[reducible] def KnaaPx12_19 : Array Bool := #[true, true, true, true, true, true, true, true, true, true, true, true, true, true, true, true, true, true, true, false, false, false, false, false, false, false, false, false, false, false, false, false]
@[reducible] def KnaaPx12_20 : Array Bool := #[true, true, true, true, true, true, true, true, true, true, true, true, true, true, true, true, true, true, true, true, false, false, false, false, false, false, false, false, false, false, false, false]
@[reducible] def KnaaPx12_21 : Array Bool := #[true, true, true, true, true, true, true, true, true, true, true, true, true, true, true, true, true, true, true, true, true, false, false, false, false, false, false, false, false, false, false, false]
@[reducible] def KnaaPx12_22 : Array Bool := #[true, true, true, true, true, true, true, true, true, true, true, true, true, true, true, true, true, true, true, true, true, true, false, false, false, false, false, false, false, false, false, false]
@[reducible] def KnaaPx12_23 : Array Bool := #[true, true, true, true, true, true, true, true, true, true, true, true, true, true, true, true, true, true, true, true, true, true, true, false, false, false, false, false, false, false, false, false]
@[reducible] def KnaaPx12_24 : Array Bool := #[true, true, true, true, true, true, true, true, true, true, true, true, true, true, true, true, true, true, true, true, true, true, true, true, false, false, false, false, false, false, false, false]
@[reducible] def KnaaPx12_25 : Array Bool := #[true, true, true, true, true, true, true, true, true, true, true, true, true, true, true, true, true, true, true, true, true, true, true, true, true, false, false, false, false, false, false, false]
@[reducible] def KnaaPx12_26 : Array Bool := #[true, true, true, true, true, true, true, true, true, true, true, true, true, true, true, true, true, true, true, true, true, true, true, true, true, false, true, false, false, false, false, false]
@[reducible] def KnaaPx12_27 : Array Bool := #[true, true, true, true, true, true, true, true, true, true, true, true, true, true, true, true, true, true, true, true, true, true, true, true, true, true, true, false, false, false, false, false]
@[reducible] def KnaaPx12_28 : Array Bool := #[true, true, true, true, true, true, true, true, true, true, true, true, true, true, true, true, true, true, true, true, true, true, true, true, true, true, true, true, false, false, false, false]
@[reducible] def KnaaPx12_29 : Array Bool := #[true, true, true, true, true, true, true, true, true, true, true, true, true, true, true, true, true, true, true, true, true, true, true, true, true, true, true, true, true, false, false, false]
@[reducible] def KnaaPx12_30 : Array Bool := #[true, true, true, true, true, true, true, true, true, true, true, true, true, true, true, true, true, true, true, true, true, true, true, true, true, true, true, true, true, true, false, false]
@[reducible] def KnaaPx12_31 : Array Bool := #[true, true, true, true, true, true, true, true, true, true, true, true, true, true, true, true, true, true, true, true, true, true, true, true, true, true, true, true, true, true, true, false]
@[reducible] def KnaaPx12_32 : Array Bool := #[true, true, true, true, true, true, true, true, true, true, true, true, true, true, true, true, true, true, true, true, true, true, true, true, true, true, true, true, true, true, true, true]
@[reducible] def KnaaPx12_33 : Array Bool := #[true, true, true, true, true, true, true, true, true, true, true, true, true, true, true, true, true, true, true, true, true, true, true, true, true, true, false, false, false, false, false, false]
/-! ### shardmap_fine: function 20 -/
mutual
def shardmap_fine.l0 : Nat → List (S30) → List (S30) → Int → Int → Option (Bool)
 | 0, _, _, _, _ => none
 | k + 1, x0, x5, x6, x7 => if x7 < x6 then (if 0 ≤ x7 then (if x7 < (x5.length : Int) then ((shardmap_isKey.f ((rd_T30 x5 x7).f0.f0) ((rd_T30 x5 x7).f0.f1)).bind fun t127 => (if t127 = true then ((shardmap_within.f ((rd_T30 x5 x7).f1) 0 3).bind fun t128 => (if t128 = true then ((shardmap_within.f ((rd_T30 x5 x7).f2) 0 1000000).bind fun t129 => (if t129 = true then (if x7 > 0 then (if 0 ≤ (wrap64 (x7 - 1)) then (if (wrap64 (x7 - 1)) < (x0.length : Int) then ((shardmap_byKey.f k ((rd_T30 x0 (wrap64 (x7 - 1))).f0.f0) ((rd_T30 x0 (wrap64 (x7 - 1))).f0.f1) ((rd_T30 x5 x7).f0.f0) ((rd_T30 x5 x7).f0.f1)).bind fun t131 => (shardmap_fine.j1 k x0 x5 x6 x7 (decide (t131 ≥ 0)))) else (none)) else (none)) else (shardmap_fine.j1 k x0 x5 x6 x7 false)) else (shardmap_fine.j1 k x0 x5 x6 x7 true))) else (shardmap_fine.j1 k x0 x5 x6 x7 true))) else (shardmap_fine.j1 k x0 x5 x6 x7 true))) else (none)) else (none)) else (some true)
def shardmap_fine.j1 : Nat → List (S30) → List (S30) → Int → Int → Bool → Option (Bool)
 | 0, _, _, _, _, _ => none
 | k + 1, x0, x5, x6, x7, x43 => if x43 = true then (some false) else (shardmap_fine.l0 k x0 x5 x6 (wrap64 (x7 + 1)))
end
def shardmap_fine.f (k : Nat) (l0 : List (S30)) : Option (Bool) := shardmap_fine.l0 k l0 l0 (l0.length : Int) 0
theorem shardmap_fine.mono_l : ∀ k, (∀ y0 y1 y2 y3, LeO (shardmap_fine.l0 k y0 y1 y2 y3) (shardmap_fine.l0 (k + 1) y0 y1 y2 y3)) ∧ (∀ y0 y1 y2 y3 y4, LeO (shardmap_fine.j1 k y0 y1 y2 y3 y4) (shardmap_fine.j1 (k + 1) y0 y1 y2 y3 y4))
 | 0 => ⟨fun _ _ _ _ r h => by simp [shardmap_fine.l0] at h, fun _ _ _ _ _ r h => by simp [shardmap_fine.j1] at h⟩
 | k + 1 => by
  obtain ⟨ih0, ih1⟩ := shardmap_fine.mono_l k
  refine ⟨?_, ?_⟩
  ·intro y0 y1 y2 y3
   unfold shardmap_fine.l0
   repeat' first
   | (with_reducible exact ih0 _ _ _ _)
   | (with_reducible exact ih1 _ _ _ _ _)
   | (with_reducible exact shardmap_byKey.mono _ _ _ _ _)
   | (with_reducible exact LeO.refl _)
   | (with_reducible exact LeO.none _)
   | (with_reducible refine LeO.ite ?_ ?_)
   | (with_reducible refine LeO.bind ?_ (fun _ => ?_))
   | exact ih0 _ _ _ _
   | exact ih1 _ _ _ _ _
   | exact shardmap_byKey.mono _ _ _ _ _
   | exact LeO.none _
   | refine LeO.ite ?_ ?_
   | refine LeO.bind ?_ (fun _ => ?_)
  ·intro y0 y1 y2 y3 y4
   unfold shardmap_fine.j1
   repeat' first
   | (with_reducible exact ih0 _ _ _ _)
   | (with_reducible exact ih1 _ _ _ _ _)
   | (with_reducible exact shardmap_byKey.mono _ _ _ _ _)
   | (with_reducible exact LeO.refl _)
   | (with_reducible exact LeO.none _)
   | (with_reducible refine LeO.ite ?_ ?_)
   | (with_reducible refine LeO.bind ?_ (fun _ => ?_))
   | exact ih0 _ _ _ _
   | exact ih1 _ _ _ _ _
   | exact shardmap_byKey.mono _ _ _ _ _
   | exact LeO.none _
   | refine LeO.ite ?_ ?_
   | refine LeO.bind ?_ (fun _ => ?_)
theorem shardmap_fine.mono : ∀ a0 k, LeO (shardmap_fine.f k a0) (shardmap_fine.f (k + 1) a0) := by
 intro a0 k
 obtain ⟨ih0, ih1⟩ := shardmap_fine.mono_l k
 unfold shardmap_fine.f
 repeat' first
   | (with_reducible exact ih0 _ _ _ _)
   | (with_reducible exact ih1 _ _ _ _ _)
   | (with_reducible exact shardmap_byKey.mono _ _ _ _ _)
   | (with_reducible exact LeO.refl _)
   | (with_reducible exact LeO.none _)
   | (with_reducible refine LeO.ite ?_ ?_)
   | (with_reducible refine LeO.bind ?_ (fun _ => ?_))
   | exact ih0 _ _ _ _
   | exact ih1 _ _ _ _ _
   | exact shardmap_byKey.mono _ _ _ _ _
   | exact LeO.none _
   | refine LeO.ite ?_ ?_
   | refine LeO.bind ?_ (fun _ => ?_)
def shardmap_fine.T4 : Bool × List (List Nat × List Nat) := (true, [([], []), ([0], [0]), ([1], [1]), ([2], [2]), ([3, 2], [3]), ([4], [4]), ([5, 4], [4, 5]), ([6, 4, 4], [4, 6]), ([7, 4], [4, 7]), ([4, 8], [4, 8]), ([9, 7], [9]), ([10], [10]), ([11, 10], [10, 11]), ([12, 10, 10], [10, 12]), ([13, 10], [10, 13]), ([10, 14], [10, 14]), ([15, 13], [15]), ([16], [16]), ([17, 16], [16, 17]), ([18, 16, 16], [16, 18]), ([19], [19]), ([19], [19]), ([21, 19], [19, 21]), ([20, 22, 19], [19, 20, 22]), ([23, 19], [19, 23]), ([24, 19], [19, 24]), ([19], [19]), ([26, 19], [19, 26]), ([25, 27, 19, 19], [19, 25, 27]), ([28, 19], [19, 28]), ([19, 29, 16], [16, 19, 29]), ([16, 30], [16, 30])])
def shardmap_fine.B4 : List Nat := [0, 1, 3, 7, 15, 31, 63, 127, 255, 511, 1023, 2047, 4095, 8191, 16383, 32767, 65535, 131071, 262143, 524287, 1048575, 1048575, 3145727, 8388607, 16777215, 33554431, 1048575, 68157439, 268435455, 536870911, 1073741823, 2147483647]
theorem shardmap_fine.tab4 : rtab .any (opsOf Try.f20 4) = shardmap_fine.T4 := by kernel_rfl
theorem shardmap_fine.bits4 : waitsOk shardmap_fine.T4.2 shardmap_fine.B4 = true := by kernel_rfl
set_option maxHeartbeats 8000000 in
set_option maxRecDepth 100000 in
theorem shardmap_fine.calls (k : Nat) (A0 : Option Addr) (c0 : Nat) (l0 : List (S30)) (r : Bool) (w : World) (hr0 : Kd.C k30 w A0 l0.length l0) (hc0 : l0.length ≤ c0) (h : shardmap_fine.f k l0 = some r) :
  Calls Try.prog 20 #[.slice A0 l0.length c0] w fun e w' => e = .returned (.bool r) ∧ Below w.heap.size w w' := by
 have hu30 := Try.underlying30
 have hu24 := Try.underlying24
 have HR0 := Aside0.mk hr0
 have HC0 := Aside0.mk hc0
 clear hr0 hc0
 have HB := Aside0.mk (Below.refl w.heap.size w)
 have H : (shardmap_fine.l0 k l0 l0 (l0.length : Int) 0) = some r := h
 clear h
 have H' := Aside0.mk H
 clear H
 go_enter Try.func20, Try.ntmps20
 go_wp2
 go_loopg [7] k (fun kq v7 w' => ∃ (x7_1 : Int), v7 = .int .i64 x7_1 ∧ Aside0 (shardmap_fine.l0 kq l0 l0 (l0.length : Int) x7_1 = some r) ∧ Aside0 (kq ≤ k) ∧ Aside0 (Below w.heap.size w w'))
 case atStart => exact ⟨(0), (by first | rfl | (simp; done) | (simp [*]; done)), H', ⟨Nat.le_refl _⟩, ⟨by exact bl_ HB.out⟩⟩
 case round =>
  clear H'
  obtain ⟨x7_1, rfl, HA, HK1, HB⟩ := hrel
  cases gk with
  | zero => exact absurd HA.out (by simp [shardmap_fine.l0])
  | succ k1 =>
   have H := HA.out
   clear HA
   simp only [shardmap_fine.l0] at H
   by_cases c2 : x7_1 < (l0.length : Int)
   ·rw [if_pos c2] at H
    have c2b0 : decide (x7_1 < (l0.length : Int)) = true := decide_eq_true c2
    clear c2
    by_cases c3 : 0 ≤ x7_1
    ·rw [if_pos c3] at H
     have c3b0 : decide (0 ≤ x7_1) = true := decide_eq_true c3
     clear c3
     by_cases c4 : x7_1 < (l0.length : Int)
     ·rw [if_pos c4] at H
      have c4b0 : decide (x7_1 < (l0.length : Int)) = true := decide_eq_true c4
      clear c4
      have HC5 := Aside0.mk H
      clear H
      have p125 : 0 ≤ (x7_1 : Int) := of_decide_eq_true (by first | (with_reducible assumption) | assumption)
      have q125 : x7_1 < (l0.length : Int) := of_decide_eq_true (by first | (with_reducible assumption) | assumption)
      obtain ⟨ad125, e125, hx125_0, hx125_1, hx125_2, hx125_3⟩ := at_T30 HR0.out x7_1 p125 q125
      cases e125
      replace hx125_0 := (HB.out.cell (World.block_lt_of_cell? w _ hx125_0)).trans hx125_0
      replace hx125_1 := (HB.out.cell (World.block_lt_of_cell? w _ hx125_1)).trans hx125_1
      replace hx125_2 := (HB.out.cell (World.block_lt_of_cell? w _ hx125_2)).trans hx125_2
      replace hx125_3 := (HB.out.cell (World.block_lt_of_cell? w _ hx125_3)).trans hx125_3
      replace p125 := eq_true p125
      replace q125 := eq_true q125
      go_upto_region 4 with (first | ((with_reducible refine gate_dst (N := 4) rfl ?_); refine box_event ?hg (N := 4) ?hd (cs := #[.int .i64 0, .int .i64 0, .int .i64 0, .int .i64 0]) (t := 30) ?hr ?_; (case hd => rfl); (case hg => rfl); (case hr => first | (go_simp; done) | (go_simp; rfl)); intro gb126 hg w6 hbox hb; have n0_ := Aside0.mk (below_step (by exact bl_ HB.out) hb); have n1_ := Aside0.mk (hbox); have n2_ := Aside0.mk ((by rw [hg]; exact (below_size (by exact bl_ HB.out)) : w.heap.size ≤ gb126)); have n3_ := Aside0.mk ((by rw [hg]; exact (below_size (by exact bl_ HB.out)) : w.heap.size ≤ gb126)); clear HB; have HB := n0_; have BK126 := n1_; have GW126 := n2_; have GE126 := n3_; clear n0_ n1_ n2_ n3_; clear hb hbox hg; have hcz7_0 : w6.cell? ⟨gb126, 0, none⟩ = some (.int .i64 0) := (blk_cell BK126.out 0).trans rfl; have hcz7_1 : w6.cell? ⟨gb126, 1, none⟩ = some (.int .i64 0) := (blk_cell BK126.out 1).trans rfl; have hcz7_2 : w6.cell? ⟨gb126, 2, none⟩ = some (.int .i64 0) := (blk_cell BK126.out 2).trans rfl; have hcz7_3 : w6.cell? ⟨gb126, 3, none⟩ = some (.int .i64 0) := (blk_cell BK126.out 3).trans rfl; have hfz7_0 := blk_frozen BK126.out 0; have hfz7_1 := blk_frozen BK126.out 1; have hfz7_2 := blk_frozen BK126.out 2; have hfz7_3 := blk_frozen BK126.out 3))
      (try simp only [Act.put, List.setIfInBounds_toArray, List.set_cons_zero, List.set_cons_succ])
      go_cut [43] (fun v43 wc => ∃ (kq : Nat) (x43_4 : Bool), v43 = .bool x43_4 ∧ Aside0 (shardmap_fine.j1 kq l0 l0 (l0.length : Int) x7_1 x43_4 = some r) ∧ Aside0 (kq ≤ k1) ∧ Aside0 (wc.heap[gb126]? = some (.cells #[.int .i64 ((rd_T30 l0 x7_1).f0.f0), .int .i64 ((rd_T30 l0 x7_1).f0.f1), .int .i64 ((rd_T30 l0 x7_1).f1), .int .i64 ((rd_T30 l0 x7_1).f2)] 30 (0, 0))) ∧ Aside0 (Below w.heap.size w wc))
      case first =>
       have H := HC5.out
       clear HC5
       replace H := Option.bind_eq_some_iff.mp H
       obtain ⟨t127, A80, H⟩ := H
       replace H : (if t127 = true then ((shardmap_within.f ((rd_T30 l0 x7_1).f1) 0 3).bind fun t128 => (if t128 = true then ((shardmap_within.f ((rd_T30 l0 x7_1).f2) 0 1000000).bind fun t129 => (if t129 = true then (if x7_1 > 0 then (if 0 ≤ (wrap64 (x7_1 - 1)) then (if (wrap64 (x7_1 - 1)) < (l0.length : Int) then ((shardmap_byKey.f k1 ((rd_T30 l0 (wrap64 (x7_1 - 1))).f0.f0) ((rd_T30 l0 (wrap64 (x7_1 - 1))).f0.f1) ((rd_T30 l0 x7_1).f0.f0) ((rd_T30 l0 x7_1).f0.f1)).bind fun t131 => (shardmap_fine.j1 k1 l0 l0 (l0.length : Int) x7_1 (decide (t131 ≥ 0)))) else (none)) else (none)) else (shardmap_fine.j1 k1 l0 l0 (l0.length : Int) x7_1 false)) else (shardmap_fine.j1 k1 l0 l0 (l0.length : Int) x7_1 true))) else (shardmap_fine.j1 k1 l0 l0 (l0.length : Int) x7_1 true))) else (shardmap_fine.j1 k1 l0 l0 (l0.length : Int) x7_1 true)) = some r := H
       have A8 := Aside0.mk A80
       clear A80
       by_cases c9 : t127 = true
       ·subst c9
        have H1 : ((shardmap_within.f ((rd_T30 l0 x7_1).f1) 0 3).bind fun t128 => (if t128 = true then ((shardmap_within.f ((rd_T30 l0 x7_1).f2) 0 1000000).bind fun t129 => (if t129 = true then (if x7_1 > 0 then (if 0 ≤ (wrap64 (x7_1 - 1)) then (if (wrap64 (x7_1 - 1)) < (l0.length : Int) then ((shardmap_byKey.f k1 ((rd_T30 l0 (wrap64 (x7_1 - 1))).f0.f0) ((rd_T30 l0 (wrap64 (x7_1 - 1))).f0.f1) ((rd_T30 l0 x7_1).f0.f0) ((rd_T30 l0 x7_1).f0.f1)).bind fun t131 => (shardmap_fine.j1 k1 l0 l0 (l0.length : Int) x7_1 (decide (t131 ≥ 0)))) else (none)) else (none)) else (shardmap_fine.j1 k1 l0 l0 (l0.length : Int) x7_1 false)) else (shardmap_fine.j1 k1 l0 l0 (l0.length : Int) x7_1 true))) else (shardmap_fine.j1 k1 l0 l0 (l0.length : Int) x7_1 true))) = some r := by rw [if_pos rfl] at H; exact H
        clear H
        have H := H1
        clear H1
        replace H := Option.bind_eq_some_iff.mp H
        obtain ⟨t128, A100, H⟩ := H
        replace H : (if t128 = true then ((shardmap_within.f ((rd_T30 l0 x7_1).f2) 0 1000000).bind fun t129 => (if t129 = true then (if x7_1 > 0 then (if 0 ≤ (wrap64 (x7_1 - 1)) then (if (wrap64 (x7_1 - 1)) < (l0.length : Int) then ((shardmap_byKey.f k1 ((rd_T30 l0 (wrap64 (x7_1 - 1))).f0.f0) ((rd_T30 l0 (wrap64 (x7_1 - 1))).f0.f1) ((rd_T30 l0 x7_1).f0.f0) ((rd_T30 l0 x7_1).f0.f1)).bind fun t131 => (shardmap_fine.j1 k1 l0 l0 (l0.length : Int) x7_1 (decide (t131 ≥ 0)))) else (none)) else (none)) else (shardmap_fine.j1 k1 l0 l0 (l0.length : Int) x7_1 false)) else (shardmap_fine.j1 k1 l0 l0 (l0.length : Int) x7_1 true))) else (shardmap_fine.j1 k1 l0 l0 (l0.length : Int) x7_1 true)) = some r := H
        have A10 := Aside0.mk A100
        clear A100
        by_cases c11 : t128 = true
        ·subst c11
         have H1 : ((shardmap_within.f ((rd_T30 l0 x7_1).f2) 0 1000000).bind fun t129 => (if t129 = true then (if x7_1 > 0 then (if 0 ≤ (wrap64 (x7_1 - 1)) then (if (wrap64 (x7_1 - 1)) < (l0.length : Int) then ((shardmap_byKey.f k1 ((rd_T30 l0 (wrap64 (x7_1 - 1))).f0.f0) ((rd_T30 l0 (wrap64 (x7_1 - 1))).f0.f1) ((rd_T30 l0 x7_1).f0.f0) ((rd_T30 l0 x7_1).f0.f1)).bind fun t131 => (shardmap_fine.j1 k1 l0 l0 (l0.length : Int) x7_1 (decide (t131 ≥ 0)))) else (none)) else (none)) else (shardmap_fine.j1 k1 l0 l0 (l0.length : Int) x7_1 false)) else (shardmap_fine.j1 k1 l0 l0 (l0.length : Int) x7_1 true))) = some r := by rw [if_pos rfl] at H; exact H
         clear H
         have H := H1
         clear H1
         replace H := Option.bind_eq_some_iff.mp H
         obtain ⟨t129, A120, H⟩ := H
         replace H : (if t129 = true then (if x7_1 > 0 then (if 0 ≤ (wrap64 (x7_1 - 1)) then (if (wrap64 (x7_1 - 1)) < (l0.length : Int) then ((shardmap_byKey.f k1 ((rd_T30 l0 (wrap64 (x7_1 - 1))).f0.f0) ((rd_T30 l0 (wrap64 (x7_1 - 1))).f0.f1) ((rd_T30 l0 x7_1).f0.f0) ((rd_T30 l0 x7_1).f0.f1)).bind fun t131 => (shardmap_fine.j1 k1 l0 l0 (l0.length : Int) x7_1 (decide (t131 ≥ 0)))) else (none)) else (none)) else (shardmap_fine.j1 k1 l0 l0 (l0.length : Int) x7_1 false)) else (shardmap_fine.j1 k1 l0 l0 (l0.length : Int) x7_1 true)) = some r := H
         have A12 := Aside0.mk A120
         clear A120
         by_cases c13 : t129 = true
         ·subst c13
          have H1 : (if x7_1 > 0 then (if 0 ≤ (wrap64 (x7_1 - 1)) then (if (wrap64 (x7_1 - 1)) < (l0.length : Int) then ((shardmap_byKey.f k1 ((rd_T30 l0 (wrap64 (x7_1 - 1))).f0.f0) ((rd_T30 l0 (wrap64 (x7_1 - 1))).f0.f1) ((rd_T30 l0 x7_1).f0.f0) ((rd_T30 l0 x7_1).f0.f1)).bind fun t131 => (shardmap_fine.j1 k1 l0 l0 (l0.length : Int) x7_1 (decide (t131 ≥ 0)))) else (none)) else (none)) else (shardmap_fine.j1 k1 l0 l0 (l0.length : Int) x7_1 false)) = some r := by rw [if_pos rfl] at H; exact H
          clear H
          have H := H1
          clear H1
          by_cases c14 : x7_1 > 0
          ·rw [if_pos c14] at H
           have c14b0 : decide (0 < x7_1) = true := decide_eq_true c14
           clear c14
           (first | rw [c14b0] | (simp only [i64_w, i32_w]; rw [c14b0]) | skip)
           obtain ⟨ji15, hji15⟩ : ∃ j_ : Int, (wrap64 (x7_1 - 1)) = j_ := ⟨_, rfl⟩
           replace H : (if 0 ≤ (ji15) then (if (ji15) < (l0.length : Int) then ((shardmap_byKey.f k1 ((rd_T30 l0 (ji15)).f0.f0) ((rd_T30 l0 (ji15)).f0.f1) ((rd_T30 l0 x7_1).f0.f0) ((rd_T30 l0 x7_1).f0.f1)).bind fun t131 => (shardmap_fine.j1 k1 l0 l0 (l0.length : Int) x7_1 (decide (t131 ≥ 0)))) else (none)) else (none)) = some r := by first | (rw [hji15] at H; exact H) | (simp only [hji15] at H ⊢; exact H)
           (try rw [hji15] at A8)
           (try rw [hji15] at A10)
           (try rw [hji15] at A12)
           have hji15w : (IntKind.i64.wrap (x7_1 - 1)) = ji15 := (i64_w _).trans hji15
           by_cases c16 : 0 ≤ (ji15)
           ·rw [if_pos c16] at H
            have c16b0 : decide (0 ≤ (ji15)) = true := decide_eq_true c16
            clear c16
            by_cases c17 : (ji15) < (l0.length : Int)
            ·rw [if_pos c17] at H
             have c17b0 : decide ((ji15) < (l0.length : Int)) = true := decide_eq_true c17
             clear c17
             replace H := Option.bind_eq_some_iff.mp H
             obtain ⟨t131, A180, H⟩ := H
             replace H : (shardmap_fine.j1 k1 l0 l0 (l0.length : Int) x7_1 (decide (t131 ≥ 0))) = some r := H
             have A18 := Aside0.mk A180
             clear A180
             have H' := Aside0.mk H
             clear H
             try go_wp2
             have n0_ : Aside0 (((((w6.setCell ⟨gb126, 0, none⟩ (.int .i64 ((rd_T30 l0 x7_1).f0.f0))).setCell ⟨gb126, 1, none⟩ (.int .i64 ((rd_T30 l0 x7_1).f0.f1))).setCell ⟨gb126, 2, none⟩ (.int .i64 ((rd_T30 l0 x7_1).f1))).setCell ⟨gb126, 3, none⟩ (.int .i64 ((rd_T30 l0 x7_1).f2))).heap[gb126]? = some (.cells #[.int .i64 ((rd_T30 l0 x7_1).f0.f0), .int .i64 ((rd_T30 l0 x7_1).f0.f1), .int .i64 ((rd_T30 l0 x7_1).f1), .int .i64 ((rd_T30 l0 x7_1).f2)] 30 (0, 0))) := ⟨by (with_reducible repeat (first | refine blk_drewN ?_ _ | refine blk_drew ?_ | refine blk_alloc ?_ _)); refine blk_put (cs := #[.int .i64 ((rd_T30 l0 x7_1).f0.f0), .int .i64 ((rd_T30 l0 x7_1).f0.f1), .int .i64 ((rd_T30 l0 x7_1).f1), .int .i64 0]) ?_ 3 _ rfl; (with_reducible repeat (first | refine blk_drewN ?_ _ | refine blk_drew ?_ | refine blk_alloc ?_ _)); refine blk_put (cs := #[.int .i64 ((rd_T30 l0 x7_1).f0.f0), .int .i64 ((rd_T30 l0 x7_1).f0.f1), .int .i64 0, .int .i64 0]) ?_ 2 _ rfl; (with_reducible repeat (first | refine blk_drewN ?_ _ | refine blk_drew ?_ | refine blk_alloc ?_ _)); refine blk_put (cs := #[.int .i64 ((rd_T30 l0 x7_1).f0.f0), .int .i64 0, .int .i64 0, .int .i64 0]) ?_ 1 _ rfl; (with_reducible repeat (first | refine blk_drewN ?_ _ | refine blk_drew ?_ | refine blk_alloc ?_ _)); refine blk_put (cs := #[.int .i64 0, .int .i64 0, .int .i64 0, .int .i64 0]) ?_ 0 _ rfl; exact bk_ BK126.out⟩
             have n1_ : Aside0 (Below w.heap.size w ((((w6.setCell ⟨gb126, 0, none⟩ (.int .i64 ((rd_T30 l0 x7_1).f0.f0))).setCell ⟨gb126, 1, none⟩ (.int .i64 ((rd_T30 l0 x7_1).f0.f1))).setCell ⟨gb126, 2, none⟩ (.int .i64 ((rd_T30 l0 x7_1).f1))).setCell ⟨gb126, 3, none⟩ (.int .i64 ((rd_T30 l0 x7_1).f2)))) := ⟨by repeat (first | (with_reducible first | exact HB.out | apply below_alloc | apply pw_below_drewN | apply below_drew1 | refine below_set ?_ GE126.out) | exact HB.out)⟩
             (try clear BK126)
             (try clear HB)
             generalize ((((w6.setCell ⟨gb126, 0, none⟩ (.int .i64 ((rd_T30 l0 x7_1).f0.f0))).setCell ⟨gb126, 1, none⟩ (.int .i64 ((rd_T30 l0 x7_1).f0.f1))).setCell ⟨gb126, 2, none⟩ (.int .i64 ((rd_T30 l0 x7_1).f1))).setCell ⟨gb126, 3, none⟩ (.int .i64 ((rd_T30 l0 x7_1).f2))) = w19 at n0_ n1_ ⊢
             have BK126 := n0_
             have HB := n1_
             clear n0_ n1_
             have n0_ := Aside0.mk (blk_drew BK126.out)
             have n1_ := Aside0.mk (below_drew1 HB.out)
             clear BK126
             clear HB
             have BK126 := n0_
             have HB := n1_
             clear n0_ n1_
             have p130 : 0 ≤ ((ji15) : Int) := of_decide_eq_true (by first | (with_reducible assumption) | assumption)
             have q130 : (ji15) < (l0.length : Int) := of_decide_eq_true (by first | (with_reducible assumption) | assumption)
             obtain ⟨ad130, e130, hx130_0, hx130_1, hx130_2, hx130_3⟩ := at_T30 HR0.out (ji15) p130 q130
             have hw130_3 := hx130_3
             have hw130_2 := hx130_2
             have hw130_1 := hx130_1
             have hw130_0 := hx130_0
             obtain rfl : ad125 = ad130 := (by injection e130)
             replace hx130_0 := (HB.out.cell (World.block_lt_of_cell? w _ hx130_0)).trans hx130_0
             replace hx130_1 := (HB.out.cell (World.block_lt_of_cell? w _ hx130_1)).trans hx130_1
             replace hx130_2 := (HB.out.cell (World.block_lt_of_cell? w _ hx130_2)).trans hx130_2
             replace hx130_3 := (HB.out.cell (World.block_lt_of_cell? w _ hx130_3)).trans hx130_3
             replace p130 := eq_true p130
             replace q130 := eq_true q130
             refine start_ (n := 32) (S := fun w' => w'.cell? ⟨gb126, 0, none⟩ = some (.int .i64 ((rd_T30 l0 x7_1).f0.f0)) ∧ w'.cell? ⟨gb126, 1, none⟩ = some (.int .i64 ((rd_T30 l0 x7_1).f0.f1)) ∧ w'.cell? ⟨gb126, 2, none⟩ = some (.int .i64 ((rd_T30 l0 x7_1).f1)) ∧ w'.cell? ⟨gb126, 3, none⟩ = some (.int .i64 ((rd_T30 l0 x7_1).f2)) ∧ w'.cell? (ad125.add (((ji15)).toNat * 4)) = some (.int .i64 ((rd_T30 l0 (ji15)).f0.f0)) ∧ w'.cell? ⟨(ad125.add (((ji15)).toNat * 4)).block, (ad125.add (((ji15)).toNat * 4)).off + 1, none⟩ = some (.int .i64 ((rd_T30 l0 (ji15)).f0.f1)) ∧ w'.cell? ⟨(ad125.add (((ji15)).toNat * 4)).block, (ad125.add (((ji15)).toNat * 4)).off + 2, none⟩ = some (.int .i64 ((rd_T30 l0 (ji15)).f1)) ∧ w'.cell? ⟨(ad125.add (((ji15)).toNat * 4)).block, (ad125.add (((ji15)).toNat * 4)).off + 3, none⟩ = some (.int .i64 ((rd_T30 l0 (ji15)).f2))) (ds := []) KnaaPx12_0 (by kernel_rfl) rfl rfl ⟨(blk_cell BK126.out 0).trans rfl, (blk_cell BK126.out 1).trans rfl, (blk_cell BK126.out 2).trans rfl, (blk_cell BK126.out 3).trans rfl, ((HB.out.cell (World.block_lt_of_cell? w _ hw130_0)).trans hw130_0), ((HB.out.cell (World.block_lt_of_cell? w _ hw130_1)).trans hw130_1), ((HB.out.cell (World.block_lt_of_cell? w _ hw130_2)).trans hw130_2), ((HB.out.cell (World.block_lt_of_cell? w _ hw130_3)).trans hw130_3)⟩ (fun hHeld => ?_); refine with_tabW shardmap_fine.tab4 shardmap_fine.bits4 (fun HT_ HW_ => ?_)
             generalize w19.drew = w20 at BK126 HB hx130_0 hx130_1 hx130_2 hx130_3 hHeld ⊢
             refine pure_ (i := 0) (N := some 12) (v := ?_) (a' := ?_) KnaaPx12_1 rfl rfl (any_of HT_.out (by kernel_rfl)) (fun _ _ _ h => h) (Or.inl ⟨by rfl, ?_⟩) ?_ ?_; rotate_left; focus (intro w'; go_simp; with_reducible rfl)
             rotate_left; focus (simp only [Act.put, List.setIfInBounds_toArray, List.set_cons_zero, List.set_cons_succ, i64_w, i32_w]; rfl)
             refine take_ (i := 1) (N := some 13) (v := ?_) (a' := ?_) KnaaPx12_2 rfl rfl (take_ofW HT_.out HW_.out (by kernel_rfl)) (fun _ _ _ h => h) (Or.inl ⟨by rfl, ?_⟩) hHeld ?_ ?_; rotate_left; focus (rintro w' ⟨s0, s1, s2, s3, s4, s5, s6, s7⟩; go_simp; with_reducible rfl)
             rotate_left; focus (simp only [Act.put, List.setIfInBounds_toArray, List.set_cons_zero, List.set_cons_succ, i64_w, i32_w]; rfl)
             refine one_ (i := 2) (N := some 14) KnaaPx12_3 rfl rfl (one_of HT_.out (by kernel_rfl)) (by decide) (fun K hK => ?_)
             refine goes_ Try.func17 (by kernel_rfl) rfl #[.agg #[.int .i64 ((rd_T30 l0 x7_1).f0.f0), .int .i64 ((rd_T30 l0 x7_1).f0.f1)]] (by rfl) rfl rfl (by (try simp only [List.map_toArray, List.map_cons, List.map_nil]); first | done | rfl | (simp only [List.length_drop, List.length_take]; rfl)) ?_
             with_reducible refine (shardmap_isKey.calls ((rd_T30 l0 x7_1).f0.f0) ((rd_T30 l0 x7_1).f0.f1) true _ A8.out).mono ?_
             rintro e w21 ⟨rfl, hb⟩
             refine ⟨_, rfl, ?_⟩
             have n0_ := Aside0.mk (blk_below (g := gb126) (o := .cells #[.int .i64 ((rd_T30 l0 x7_1).f0.f0), .int .i64 ((rd_T30 l0 x7_1).f0.f1), .int .i64 ((rd_T30 l0 x7_1).f1), .int .i64 ((rd_T30 l0 x7_1).f2)] 30 (0, 0)) (by exact bk_ BK126.out) hb)
             have n1_ := Aside0.mk (below_step (by repeat (first | (with_reducible first | exact HB.out | apply below_alloc | apply pw_below_drewN | apply below_drew1 | refine below_set ?_ GE126.out) | exact HB.out)) hb)
             clear BK126
             clear HB
             have BK126 := n0_
             have HB := n1_
             clear n0_ n1_
             (try clear hb)
             (try clear hb2)
             (try clear hk)
             (try clear hi)
             refine hK.out _ _ ⟨(blk_cell BK126.out 0).trans rfl, (blk_cell BK126.out 1).trans rfl, (blk_cell BK126.out 2).trans rfl, (blk_cell BK126.out 3).trans rfl, ((HB.out.cell (World.block_lt_of_cell? w _ hw130_0)).trans hw130_0), ((HB.out.cell (World.block_lt_of_cell? w _ hw130_1)).trans hw130_1), ((HB.out.cell (World.block_lt_of_cell? w _ hw130_2)).trans hw130_2), ((HB.out.cell (World.block_lt_of_cell? w _ hw130_3)).trans hw130_3)⟩ (fun hHeld => ?_)
             clear hK K
             refine norm_ (a' := ?_) ?_ ?_
             rotate_left
             ·show Act.put _ (some 14) _ = _
              simp only [Act.put, List.setIfInBounds_toArray, List.set_cons_zero, List.set_cons_succ, i64_w, i32_w]
              rfl
             refine pure_ (i := 3) (N := some 15) (v := ?_) (a' := ?_) KnaaPx12_4 rfl rfl (any_of HT_.out (by kernel_rfl)) (fun _ _ _ h => h) (Or.inl ⟨by rfl, ?_⟩) ?_ ?_; rotate_left; focus (intro w'; go_simp; with_reducible rfl)
             rotate_left; focus (simp only [Act.put, List.setIfInBounds_toArray, List.set_cons_zero, List.set_cons_succ, i64_w, i32_w]; rfl)
             refine pure_ (i := 4) (N := some 16) (v := ?_) (a' := ?_) KnaaPx12_5 rfl rfl (any_of HT_.out (by kernel_rfl)) (fun _ _ _ h => h) (Or.inl ⟨by rfl, ?_⟩) ?_ ?_; rotate_left; focus (intro w'; go_simp; with_reducible rfl)
             rotate_left; focus (simp only [Act.put, List.setIfInBounds_toArray, List.set_cons_zero, List.set_cons_succ, i64_w, i32_w]; rfl)
             refine pure_ (i := 5) (N := some 17) (v := ?_) (a' := ?_) KnaaPx12_6 rfl rfl (any_of HT_.out (by kernel_rfl)) (fun _ _ _ h => h) (Or.inl ⟨by rfl, ?_⟩) ?_ ?_; rotate_left; focus (intro w'; go_simp; with_reducible rfl)
             rotate_left; focus (simp only [Act.put, List.setIfInBounds_toArray, List.set_cons_zero, List.set_cons_succ, i64_w, i32_w]; rfl)
             refine take_ (i := 6) (N := some 18) (v := ?_) (a' := ?_) KnaaPx12_7 rfl rfl (take_ofW HT_.out HW_.out (by kernel_rfl)) (fun _ _ _ h => h) (Or.inl ⟨by rfl, ?_⟩) hHeld ?_ ?_; rotate_left; focus (rintro w' ⟨s0, s1, s2, s3, s4, s5, s6, s7⟩; go_simp; with_reducible rfl)
             rotate_left; focus (simp only [Act.put, List.setIfInBounds_toArray, List.set_cons_zero, List.set_cons_succ, i64_w, i32_w]; rfl)
             refine one_ (i := 7) (N := some 19) KnaaPx12_8 rfl rfl (one_of HT_.out (by kernel_rfl)) (by decide) (fun K hK => ?_)
             refine goes_ Try.func18 (by kernel_rfl) rfl #[.int .i64 ((rd_T30 l0 x7_1).f1), .int .i64 0, .int .i64 3] (by rfl) rfl rfl (by (try simp only [List.map_toArray, List.map_cons, List.map_nil]); first | done | rfl | (simp only [List.length_drop, List.length_take]; rfl)) ?_
             with_reducible refine (shardmap_within.calls ((rd_T30 l0 x7_1).f1) 0 3 true _ A10.out).mono ?_
             rintro e w' ⟨rfl, ⟨nd, rfl⟩⟩
             refine ⟨_, rfl, ?_⟩
             refine hK.out _ _ ⟨(blk_cell BK126.out 0).trans rfl, (blk_cell BK126.out 1).trans rfl, (blk_cell BK126.out 2).trans rfl, (blk_cell BK126.out 3).trans rfl, ((HB.out.cell (World.block_lt_of_cell? w _ hw130_0)).trans hw130_0), ((HB.out.cell (World.block_lt_of_cell? w _ hw130_1)).trans hw130_1), ((HB.out.cell (World.block_lt_of_cell? w _ hw130_2)).trans hw130_2), ((HB.out.cell (World.block_lt_of_cell? w _ hw130_3)).trans hw130_3)⟩ (fun hHeld => ?_)
             clear hK K
             refine norm_ (a' := ?_) ?_ ?_
             rotate_left
             ·show Act.put _ (some 19) _ = _
              simp only [Act.put, List.setIfInBounds_toArray, List.set_cons_zero, List.set_cons_succ, i64_w, i32_w]
              rfl
             refine pure_ (i := 8) (N := some 20) (v := ?_) (a' := ?_) KnaaPx12_9 rfl rfl (any_of HT_.out (by kernel_rfl)) (fun _ _ _ h => h) (Or.inl ⟨by rfl, ?_⟩) ?_ ?_; rotate_left; focus (intro w'; go_simp; with_reducible rfl)
             rotate_left; focus (simp only [Act.put, List.setIfInBounds_toArray, List.set_cons_zero, List.set_cons_succ, i64_w, i32_w]; rfl)
             refine pure_ (i := 9) (N := some 21) (v := ?_) (a' := ?_) KnaaPx12_10 rfl rfl (any_of HT_.out (by kernel_rfl)) (fun _ _ _ h => h) (Or.inl ⟨by rfl, ?_⟩) ?_ ?_; rotate_left; focus (intro w'; go_simp; with_reducible rfl)
             rotate_left; focus (simp only [Act.put, List.setIfInBounds_toArray, List.set_cons_zero, List.set_cons_succ, i64_w, i32_w]; rfl)
             refine pure_ (i := 10) (N := some 22) (v := ?_) (a' := ?_) KnaaPx12_11 rfl rfl (any_of HT_.out (by kernel_rfl)) (fun _ _ _ h => h) (Or.inl ⟨by rfl, ?_⟩) ?_ ?_; rotate_left; focus (intro w'; go_simp; with_reducible rfl)
             rotate_left; focus (simp only [Act.put, List.setIfInBounds_toArray, List.set_cons_zero, List.set_cons_succ, i64_w, i32_w]; rfl)
             refine pure_ (i := 11) (N := some 23) (v := ?_) (a' := ?_) KnaaPx12_12 rfl rfl (any_of HT_.out (by kernel_rfl)) (fun _ _ _ h => h) (Or.inl ⟨by rfl, ?_⟩) ?_ ?_; rotate_left; focus (intro w'; go_simp; with_reducible rfl)
             rotate_left; focus (simp only [Act.put, List.setIfInBounds_toArray, List.set_cons_zero, List.set_cons_succ, i64_w, i32_w]; rfl)
             refine take_ (i := 12) (N := some 24) (v := ?_) (a' := ?_) KnaaPx12_13 rfl rfl (take_ofW HT_.out HW_.out (by kernel_rfl)) (fun _ _ _ h => h) (Or.inl ⟨by rfl, ?_⟩) hHeld ?_ ?_; rotate_left; focus (rintro w' ⟨s0, s1, s2, s3, s4, s5, s6, s7⟩; go_simp; with_reducible rfl)
             rotate_left; focus (simp only [Act.put, List.setIfInBounds_toArray, List.set_cons_zero, List.set_cons_succ, i64_w, i32_w]; rfl)
             refine one_ (i := 13) (N := some 25) KnaaPx12_14 rfl rfl (one_of HT_.out (by kernel_rfl)) (by decide) (fun K hK => ?_)
             refine goes_ Try.func18 (by kernel_rfl) rfl #[.int .i64 ((rd_T30 l0 x7_1).f2), .int .i64 0, .int .i64 1000000] (by rfl) rfl rfl (by (try simp only [List.map_toArray, List.map_cons, List.map_nil]); first | done | rfl | (simp only [List.length_drop, List.length_take]; rfl)) ?_
             with_reducible refine (shardmap_within.calls ((rd_T30 l0 x7_1).f2) 0 1000000 true _ A12.out).mono ?_
             rintro e w' ⟨rfl, ⟨nd, rfl⟩⟩
             refine ⟨_, rfl, ?_⟩
             refine hK.out _ _ ⟨(blk_cell BK126.out 0).trans rfl, (blk_cell BK126.out 1).trans rfl, (blk_cell BK126.out 2).trans rfl, (blk_cell BK126.out 3).trans rfl, ((HB.out.cell (World.block_lt_of_cell? w _ hw130_0)).trans hw130_0), ((HB.out.cell (World.block_lt_of_cell? w _ hw130_1)).trans hw130_1), ((HB.out.cell (World.block_lt_of_cell? w _ hw130_2)).trans hw130_2), ((HB.out.cell (World.block_lt_of_cell? w _ hw130_3)).trans hw130_3)⟩ (fun hHeld => ?_)
             clear hK K
             refine norm_ (a' := ?_) ?_ ?_
             rotate_left
             ·show Act.put _ (some 25) _ = _
              simp only [Act.put, List.setIfInBounds_toArray, List.set_cons_zero, List.set_cons_succ, i64_w, i32_w]
              rfl
             refine pure_ (i := 14) (N := some 26) (v := ?_) (a' := ?_) KnaaPx12_15 rfl rfl (any_of HT_.out (by kernel_rfl)) (fun _ _ _ h => h) (Or.inl ⟨by rfl, ?_⟩) ?_ ?_; rotate_left; focus (intro w'; go_simp; with_reducible rfl)
             rotate_left; focus (simp only [Act.put, List.setIfInBounds_toArray, List.set_cons_zero, List.set_cons_succ, i64_w, i32_w]; rfl)
             refine pure_ (i := 15) (N := some 27) (v := ?_) (a' := ?_) KnaaPx12_16 rfl rfl (any_of HT_.out (by kernel_rfl)) (fun _ _ _ h => h) (Or.inl ⟨by rfl, ?_⟩) ?_ ?_; rotate_left; focus (intro w'; go_simp; with_reducible rfl)
             rotate_left; focus (simp only [Act.put, List.setIfInBounds_toArray, List.set_cons_zero, List.set_cons_succ, i64_w, i32_w]; rfl)
             refine pure_ (i := 16) (N := some 28) (v := ?_) (a' := ?_) KnaaPx12_17 rfl rfl (any_of HT_.out (by kernel_rfl)) (fun _ _ _ h => h) (Or.inl ⟨by rfl, ?_⟩) ?_ ?_; rotate_left; focus (intro w'; go_simp; with_reducible rfl)
             rotate_left; focus (simp only [Act.put, List.setIfInBounds_toArray, List.set_cons_zero, List.set_cons_succ, i64_w, i32_w]; rfl)
             refine pure_ (i := 17) (N := some 29) (v := ?_) (a' := ?_) KnaaPx12_18 rfl rfl (any_of HT_.out (by kernel_rfl)) (fun _ _ _ h => h) (Or.inl ⟨by rfl, ?_⟩) ?_ ?_; rotate_left; focus (intro w'; go_simp; with_reducible rfl)
             rotate_left; focus (simp only [Act.put, List.setIfInBounds_toArray, List.set_cons_zero, List.set_cons_succ, i64_w, i32_w]; rfl)
             refine pure_ (i := 18) (N := some 30) (v := ?_) (a' := ?_) KnaaPx12_19 rfl rfl (any_of HT_.out (by kernel_rfl)) (fun _ _ _ h => h) (Or.inl ⟨by rfl, ?_⟩) ?_ ?_; rotate_left; focus (intro w'; go_simp; with_reducible rfl)
             rotate_left; focus (simp only [Act.put, List.setIfInBounds_toArray, List.set_cons_zero, List.set_cons_succ, i64_w, i32_w]; rfl)
             refine pure_ (i := 19) (N := some 31) (v := ?_) (a' := ?_) KnaaPx12_20 rfl rfl (any_of HT_.out (by kernel_rfl)) (fun _ _ _ h => h) (Or.inl ⟨by rfl, ?_⟩) ?_ ?_; rotate_left; focus (intro w'; go_simp; with_reducible rfl)
             rotate_left; focus (simp only [Act.put, List.setIfInBounds_toArray, List.set_cons_zero, List.set_cons_succ, i64_w, i32_w]; rfl)
             refine pure_ (i := 20) (N := some 32) (v := ?_) (a' := ?_) KnaaPx12_21 rfl rfl (any_of HT_.out (by kernel_rfl)) (fun _ _ _ h => h) (Or.inl ⟨by rfl, ?_⟩) ?_ ?_; rotate_left; focus (intro w'; go_simp; with_reducible rfl)
             rotate_left; focus (simp only [Act.put, List.setIfInBounds_toArray, List.set_cons_zero, List.set_cons_succ, i64_w, i32_w]; rfl)
             refine pure_ (i := 21) (N := some 33) (v := ?_) (a' := ?_) KnaaPx12_22 rfl rfl (any_of HT_.out (by kernel_rfl)) (fun _ _ _ h => h) (Or.inl ⟨by rfl, ?_⟩) ?_ ?_; rotate_left; focus (intro w'; go_simp; with_reducible rfl)
             rotate_left; focus (simp only [Act.put, List.setIfInBounds_toArray, List.set_cons_zero, List.set_cons_succ, i64_w, i32_w]; rfl)
             refine pure_ (i := 22) (N := some 34) (v := ?_) (a' := ?_) KnaaPx12_23 rfl rfl (any_of HT_.out (by kernel_rfl)) (fun _ _ _ h => h) (Or.inl ⟨by rfl, ?_⟩) ?_ ?_; rotate_left; focus (intro w'; go_simp; with_reducible rfl)
             rotate_left; focus (simp only [Act.put, List.setIfInBounds_toArray, List.set_cons_zero, List.set_cons_succ, i64_w, i32_w]; rfl)
             refine pure_ (i := 23) (N := some 35) (v := ?_) (a' := ?_) KnaaPx12_24 rfl rfl (any_of HT_.out (by kernel_rfl)) (fun _ _ _ h => h) (Or.inl ⟨by rfl, ?_⟩) ?_ ?_; rotate_left; focus (intro w'; go_simp; with_reducible rfl)
             rotate_left; focus (simp only [Act.put, List.setIfInBounds_toArray, List.set_cons_zero, List.set_cons_succ, i64_w, i32_w]; rfl)
             refine pure_ (i := 24) (N := some 36) (v := ?_) (a' := ?_) KnaaPx12_25 rfl rfl (any_of HT_.out (by kernel_rfl)) (fun _ _ _ h => h) (Or.inl ⟨by rfl, ?_⟩) ?_ ?_; rotate_left; focus (intro w'; go_simp; with_reducible rfl)
             rotate_left; focus (simp only [Act.put, List.setIfInBounds_toArray, List.set_cons_zero, List.set_cons_succ, i64_w, i32_w]; rfl)
             refine pure_ (i := 26) (N := some 38) (v := ?_) (a' := ?_) KnaaPx12_26 rfl rfl (any_of HT_.out (by kernel_rfl)) (fun _ _ _ h => h) (Or.inl ⟨by rfl, ?_⟩) ?_ ?_; rotate_left; focus (intro w'; go_simp; with_reducible rfl)
             rotate_left; focus (simp only [Act.put, List.setIfInBounds_toArray, List.set_cons_zero, List.set_cons_succ, i64_w, i32_w]; rfl)
             refine take_ (i := 25) (N := some 37) (v := ?_) (a' := ?_) KnaaPx12_27 rfl rfl (take_ofW HT_.out HW_.out (by kernel_rfl)) (fun _ _ _ h => h) (Or.inl ⟨by rfl, ?_⟩) hHeld ?_ ?_; rotate_left; focus (rintro w' ⟨s0, s1, s2, s3, s4, s5, s6, s7⟩; go_simp; with_reducible rfl)
             rotate_left; focus (simp only [Act.put, List.setIfInBounds_toArray, List.set_cons_zero, List.set_cons_succ, i64_w, i32_w]; rfl)
             refine take_ (i := 27) (N := some 39) (v := ?_) (a' := ?_) KnaaPx12_28 rfl rfl (take_ofW HT_.out HW_.out (by kernel_rfl)) (fun _ _ _ h => h) (Or.inl ⟨by rfl, ?_⟩) hHeld ?_ ?_; rotate_left; focus (rintro w' ⟨s0, s1, s2, s3, s4, s5, s6, s7⟩; go_simp; with_reducible rfl)
             rotate_left; focus (simp only [Act.put, List.setIfInBounds_toArray, List.set_cons_zero, List.set_cons_succ, i64_w, i32_w]; rfl)
             refine one_ (i := 28) (N := some 40) KnaaPx12_29 rfl rfl (one_of HT_.out (by kernel_rfl)) (by decide) (fun K hK => ?_)
             refine goes_ Try.func26 (by kernel_rfl) rfl #[.agg #[.int .i64 ((rd_T30 l0 (ji15)).f0.f0), .int .i64 ((rd_T30 l0 (ji15)).f0.f1)], .agg #[.int .i64 ((rd_T30 l0 x7_1).f0.f0), .int .i64 ((rd_T30 l0 x7_1).f0.f1)]] (by rfl) rfl rfl (by (try simp only [List.map_toArray, List.map_cons, List.map_nil]); first | done | (simp only [hji15]; rfl) | rfl | (simp only [List.length_drop, List.length_take]; rfl)) ?_
             with_reducible refine (shardmap_byKey.calls k1 ((rd_T30 l0 (ji15)).f0.f0) ((rd_T30 l0 (ji15)).f0.f1) ((rd_T30 l0 x7_1).f0.f0) ((rd_T30 l0 x7_1).f0.f1) t131 _ A18.out).mono ?_
             rintro e w22 ⟨rfl, hb⟩
             refine ⟨_, rfl, ?_⟩
             have n0_ := Aside0.mk (blk_below (g := gb126) (o := .cells #[.int .i64 ((rd_T30 l0 x7_1).f0.f0), .int .i64 ((rd_T30 l0 x7_1).f0.f1), .int .i64 ((rd_T30 l0 x7_1).f1), .int .i64 ((rd_T30 l0 x7_1).f2)] 30 (0, 0)) (by exact bk_ BK126.out) hb)
             have n1_ := Aside0.mk (below_step (by repeat (first | (with_reducible first | exact HB.out | apply below_alloc | apply pw_below_drewN | apply below_drew1 | refine below_set ?_ GE126.out) | exact HB.out)) hb)
             clear BK126
             clear HB
             have BK126 := n0_
             have HB := n1_
             clear n0_ n1_
             (try clear hb)
             (try clear hb2)
             (try clear hk)
             (try clear hi)
             refine hK.out _ _ ⟨(blk_cell BK126.out 0).trans rfl, (blk_cell BK126.out 1).trans rfl, (blk_cell BK126.out 2).trans rfl, (blk_cell BK126.out 3).trans rfl, ((HB.out.cell (World.block_lt_of_cell? w _ hw130_0)).trans hw130_0), ((HB.out.cell (World.block_lt_of_cell? w _ hw130_1)).trans hw130_1), ((HB.out.cell (World.block_lt_of_cell? w _ hw130_2)).trans hw130_2), ((HB.out.cell (World.block_lt_of_cell? w _ hw130_3)).trans hw130_3)⟩ (fun hHeld => ?_)
             clear hK K
             refine norm_ (a' := ?_) ?_ ?_
             rotate_left
             ·show Act.put _ (some 40) _ = _
              simp only [Act.put, List.setIfInBounds_toArray, List.set_cons_zero, List.set_cons_succ, i64_w, i32_w]
              rfl
             refine pure_ (i := 29) (N := some 41) (v := ?_) (a' := ?_) KnaaPx12_30 rfl rfl (any_of HT_.out (by kernel_rfl)) (fun _ _ _ h => h) (Or.inl ⟨by rfl, ?_⟩) ?_ ?_; rotate_left; focus (intro w'; go_simp; with_reducible rfl)
             rotate_left; focus (simp only [Act.put, List.setIfInBounds_toArray, List.set_cons_zero, List.set_cons_succ, i64_w, i32_w]; rfl)
             refine pure_ (i := 30) (N := some 42) (v := ?_) (a' := ?_) KnaaPx12_31 rfl rfl (any_of HT_.out (by kernel_rfl)) (fun _ _ _ h => h) (Or.inl ⟨by rfl, ?_⟩) ?_ ?_; rotate_left; focus (intro w'; go_simp; with_reducible rfl)
             rotate_left; focus (simp only [Act.put, List.setIfInBounds_toArray, List.set_cons_zero, List.set_cons_succ, i64_w, i32_w]; rfl)
             refine pure_ (i := 31) (N := some 43) (v := ?_) (a' := ?_) KnaaPx12_32 rfl rfl (any_of HT_.out (by kernel_rfl)) (fun _ _ _ h => h) (Or.inl ⟨by rfl, ?_⟩) ?_ ?_; rotate_left; focus (intro w'; go_simp; with_reducible rfl)
             rotate_left; focus (simp only [Act.put, List.setIfInBounds_toArray, List.set_cons_zero, List.set_cons_succ, i64_w, i32_w]; rfl)
             refine done_ (done_of HT_.out (by kernel_rfl)) ?_
             try go_wp2
             go_meet
             case rel => exact ⟨_, (decide (t131 ≥ 0)), (by first | rfl | (simp; done) | (simp [*]; done)), H', ⟨by have := HK1.out; first | omega | exact Nat.le_refl _⟩, ⟨by exact bk_ BK126.out⟩, ⟨by repeat (first | (with_reducible first | exact HB.out | apply below_alloc | apply pw_below_drewN | apply below_drew1 | refine below_set ?_ GE126.out) | exact HB.out)⟩⟩
            ·rw [if_neg c17] at H
             exact absurd H (by simp)
           ·rw [if_neg c16] at H
            exact absurd H (by simp)
          ·rw [if_neg c14] at H
           have c14b0 : decide (0 < x7_1) = false := decide_eq_false c14
           clear c14
           (first | rw [c14b0] | (simp only [i64_w, i32_w]; rw [c14b0]) | skip)
           have H' := Aside0.mk H
           clear H
           try go_wp2
           have n0_ : Aside0 (((((w6.setCell ⟨gb126, 0, none⟩ (.int .i64 ((rd_T30 l0 x7_1).f0.f0))).setCell ⟨gb126, 1, none⟩ (.int .i64 ((rd_T30 l0 x7_1).f0.f1))).setCell ⟨gb126, 2, none⟩ (.int .i64 ((rd_T30 l0 x7_1).f1))).setCell ⟨gb126, 3, none⟩ (.int .i64 ((rd_T30 l0 x7_1).f2))).heap[gb126]? = some (.cells #[.int .i64 ((rd_T30 l0 x7_1).f0.f0), .int .i64 ((rd_T30 l0 x7_1).f0.f1), .int .i64 ((rd_T30 l0 x7_1).f1), .int .i64 ((rd_T30 l0 x7_1).f2)] 30 (0, 0))) := ⟨by (with_reducible repeat (first | refine blk_drewN ?_ _ | refine blk_drew ?_ | refine blk_alloc ?_ _)); refine blk_put (cs := #[.int .i64 ((rd_T30 l0 x7_1).f0.f0), .int .i64 ((rd_T30 l0 x7_1).f0.f1), .int .i64 ((rd_T30 l0 x7_1).f1), .int .i64 0]) ?_ 3 _ rfl; (with_reducible repeat (first | refine blk_drewN ?_ _ | refine blk_drew ?_ | refine blk_alloc ?_ _)); refine blk_put (cs := #[.int .i64 ((rd_T30 l0 x7_1).f0.f0), .int .i64 ((rd_T30 l0 x7_1).f0.f1), .int .i64 0, .int .i64 0]) ?_ 2 _ rfl; (with_reducible repeat (first | refine blk_drewN ?_ _ | refine blk_drew ?_ | refine blk_alloc ?_ _)); refine blk_put (cs := #[.int .i64 ((rd_T30 l0 x7_1).f0.f0), .int .i64 0, .int .i64 0, .int .i64 0]) ?_ 1 _ rfl; (with_reducible repeat (first | refine blk_drewN ?_ _ | refine blk_drew ?_ | refine blk_alloc ?_ _)); refine blk_put (cs := #[.int .i64 0, .int .i64 0, .int .i64 0, .int .i64 0]) ?_ 0 _ rfl; exact bk_ BK126.out⟩
           have n1_ : Aside0 (Below w.heap.size w ((((w6.setCell ⟨gb126, 0, none⟩ (.int .i64 ((rd_T30 l0 x7_1).f0.f0))).setCell ⟨gb126, 1, none⟩ (.int .i64 ((rd_T30 l0 x7_1).f0.f1))).setCell ⟨gb126, 2, none⟩ (.int .i64 ((rd_T30 l0 x7_1).f1))).setCell ⟨gb126, 3, none⟩ (.int .i64 ((rd_T30 l0 x7_1).f2)))) := ⟨by repeat (first | (with_reducible first | exact HB.out | apply below_alloc | apply pw_below_drewN | apply below_drew1 | refine below_set ?_ GE126.out) | exact HB.out)⟩
           (try clear BK126)
           (try clear HB)
           generalize ((((w6.setCell ⟨gb126, 0, none⟩ (.int .i64 ((rd_T30 l0 x7_1).f0.f0))).setCell ⟨gb126, 1, none⟩ (.int .i64 ((rd_T30 l0 x7_1).f0.f1))).setCell ⟨gb126, 2, none⟩ (.int .i64 ((rd_T30 l0 x7_1).f1))).setCell ⟨gb126, 3, none⟩ (.int .i64 ((rd_T30 l0 x7_1).f2))) = w23 at n0_ n1_ ⊢
           have BK126 := n0_
           have HB := n1_
           clear n0_ n1_
           have n0_ := Aside0.mk (blk_drew BK126.out)
           have n1_ := Aside0.mk (below_drew1 HB.out)
           clear BK126
           clear HB
           have BK126 := n0_
           have HB := n1_
           clear n0_ n1_
           refine start_ (n := 32) (S := fun w' => w'.cell? ⟨gb126, 0, none⟩ = some (.int .i64 ((rd_T30 l0 x7_1).f0.f0)) ∧ w'.cell? ⟨gb126, 1, none⟩ = some (.int .i64 ((rd_T30 l0 x7_1).f0.f1)) ∧ w'.cell? ⟨gb126, 2, none⟩ = some (.int .i64 ((rd_T30 l0 x7_1).f1)) ∧ w'.cell? ⟨gb126, 3, none⟩ = some (.int .i64 ((rd_T30 l0 x7_1).f2))) (ds := []) KnaaPx12_0 (by kernel_rfl) rfl rfl ⟨(blk_cell BK126.out 0).trans rfl, (blk_cell BK126.out 1).trans rfl, (blk_cell BK126.out 2).trans rfl, (blk_cell BK126.out 3).trans rfl⟩ (fun hHeld => ?_); refine with_tabW shardmap_fine.tab4 shardmap_fine.bits4 (fun HT_ HW_ => ?_)
           generalize w23.drew = w24 at BK126 HB hHeld ⊢
           refine pure_ (i := 0) (N := some 12) (v := ?_) (a' := ?_) KnaaPx12_1 rfl rfl (any_of HT_.out (by kernel_rfl)) (fun _ _ _ h => h) (Or.inl ⟨by rfl, ?_⟩) ?_ ?_; rotate_left; focus (intro w'; go_simp; with_reducible rfl)
           rotate_left; focus (simp only [Act.put, List.setIfInBounds_toArray, List.set_cons_zero, List.set_cons_succ, i64_w, i32_w]; rfl)
           refine take_ (i := 1) (N := some 13) (v := ?_) (a' := ?_) KnaaPx12_2 rfl rfl (take_ofW HT_.out HW_.out (by kernel_rfl)) (fun _ _ _ h => h) (Or.inl ⟨by rfl, ?_⟩) hHeld ?_ ?_; rotate_left; focus (rintro w' ⟨s0, s1, s2, s3⟩; go_simp; with_reducible rfl)
           rotate_left; focus (simp only [Act.put, List.setIfInBounds_toArray, List.set_cons_zero, List.set_cons_succ, i64_w, i32_w]; rfl)
           refine one_ (i := 2) (N := some 14) KnaaPx12_3 rfl rfl (one_of HT_.out (by kernel_rfl)) (by decide) (fun K hK => ?_)
           refine goes_ Try.func17 (by kernel_rfl) rfl #[.agg #[.int .i64 ((rd_T30 l0 x7_1).f0.f0), .int .i64 ((rd_T30 l0 x7_1).f0.f1)]] (by rfl) rfl rfl (by (try simp only [List.map_toArray, List.map_cons, List.map_nil]); first | done | rfl | (simp only [List.length_drop, List.length_take]; rfl)) ?_
           with_reducible refine (shardmap_isKey.calls ((rd_T30 l0 x7_1).f0.f0) ((rd_T30 l0 x7_1).f0.f1) true _ A8.out).mono ?_
           rintro e w25 ⟨rfl, hb⟩
           refine ⟨_, rfl, ?_⟩
           have n0_ := Aside0.mk (blk_below (g := gb126) (o := .cells #[.int .i64 ((rd_T30 l0 x7_1).f0.f0), .int .i64 ((rd_T30 l0 x7_1).f0.f1), .int .i64 ((rd_T30 l0 x7_1).f1), .int .i64 ((rd_T30 l0 x7_1).f2)] 30 (0, 0)) (by exact bk_ BK126.out) hb)
           have n1_ := Aside0.mk (below_step (by repeat (first | (with_reducible first | exact HB.out | apply below_alloc | apply pw_below_drewN | apply below_drew1 | refine below_set ?_ GE126.out) | exact HB.out)) hb)
           clear BK126
           clear HB
           have BK126 := n0_
           have HB := n1_
           clear n0_ n1_
           (try clear hb)
           (try clear hb2)
           (try clear hk)
           (try clear hi)
           refine hK.out _ _ ⟨(blk_cell BK126.out 0).trans rfl, (blk_cell BK126.out 1).trans rfl, (blk_cell BK126.out 2).trans rfl, (blk_cell BK126.out 3).trans rfl⟩ (fun hHeld => ?_)
           clear hK K
           refine norm_ (a' := ?_) ?_ ?_
           rotate_left
           ·show Act.put _ (some 14) _ = _
            simp only [Act.put, List.setIfInBounds_toArray, List.set_cons_zero, List.set_cons_succ, i64_w, i32_w]
            rfl
           refine pure_ (i := 3) (N := some 15) (v := ?_) (a' := ?_) KnaaPx12_4 rfl rfl (any_of HT_.out (by kernel_rfl)) (fun _ _ _ h => h) (Or.inl ⟨by rfl, ?_⟩) ?_ ?_; rotate_left; focus (intro w'; go_simp; with_reducible rfl)
           rotate_left; focus (simp only [Act.put, List.setIfInBounds_toArray, List.set_cons_zero, List.set_cons_succ, i64_w, i32_w]; rfl)
           refine pure_ (i := 4) (N := some 16) (v := ?_) (a' := ?_) KnaaPx12_5 rfl rfl (any_of HT_.out (by kernel_rfl)) (fun _ _ _ h => h) (Or.inl ⟨by rfl, ?_⟩) ?_ ?_; rotate_left; focus (intro w'; go_simp; with_reducible rfl)
           rotate_left; focus (simp only [Act.put, List.setIfInBounds_toArray, List.set_cons_zero, List.set_cons_succ, i64_w, i32_w]; rfl)
           refine pure_ (i := 5) (N := some 17) (v := ?_) (a' := ?_) KnaaPx12_6 rfl rfl (any_of HT_.out (by kernel_rfl)) (fun _ _ _ h => h) (Or.inl ⟨by rfl, ?_⟩) ?_ ?_; rotate_left; focus (intro w'; go_simp; with_reducible rfl)
           rotate_left; focus (simp only [Act.put, List.setIfInBounds_toArray, List.set_cons_zero, List.set_cons_succ, i64_w, i32_w]; rfl)
           refine take_ (i := 6) (N := some 18) (v := ?_) (a' := ?_) KnaaPx12_7 rfl rfl (take_ofW HT_.out HW_.out (by kernel_rfl)) (fun _ _ _ h => h) (Or.inl ⟨by rfl, ?_⟩) hHeld ?_ ?_; rotate_left; focus (rintro w' ⟨s0, s1, s2, s3⟩; go_simp; with_reducible rfl)
           rotate_left; focus (simp only [Act.put, List.setIfInBounds_toArray, List.set_cons_zero, List.set_cons_succ, i64_w, i32_w]; rfl)
           refine one_ (i := 7) (N := some 19) KnaaPx12_8 rfl rfl (one_of HT_.out (by kernel_rfl)) (by decide) (fun K hK => ?_)
           refine goes_ Try.func18 (by kernel_rfl) rfl #[.int .i64 ((rd_T30 l0 x7_1).f1), .int .i64 0, .int .i64 3] (by rfl) rfl rfl (by (try simp only [List.map_toArray, List.map_cons, List.map_nil]); first | done | rfl | (simp only [List.length_drop, List.length_take]; rfl)) ?_
           with_reducible refine (shardmap_within.calls ((rd_T30 l0 x7_1).f1) 0 3 true _ A10.out).mono ?_
           rintro e w' ⟨rfl, ⟨nd, rfl⟩⟩
           refine ⟨_, rfl, ?_⟩
           refine hK.out _ _ ⟨(blk_cell BK126.out 0).trans rfl, (blk_cell BK126.out 1).trans rfl, (blk_cell BK126.out 2).trans rfl, (blk_cell BK126.out 3).trans rfl⟩ (fun hHeld => ?_)
           clear hK K
           refine norm_ (a' := ?_) ?_ ?_
           rotate_left
           ·show Act.put _ (some 19) _ = _
            simp only [Act.put, List.setIfInBounds_toArray, List.set_cons_zero, List.set_cons_succ, i64_w, i32_w]
            rfl
           refine pure_ (i := 8) (N := some 20) (v := ?_) (a' := ?_) KnaaPx12_9 rfl rfl (any_of HT_.out (by kernel_rfl)) (fun _ _ _ h => h) (Or.inl ⟨by rfl, ?_⟩) ?_ ?_; rotate_left; focus (intro w'; go_simp; with_reducible rfl)
           rotate_left; focus (simp only [Act.put, List.setIfInBounds_toArray, List.set_cons_zero, List.set_cons_succ, i64_w, i32_w]; rfl)
           refine pure_ (i := 9) (N := some 21) (v := ?_) (a' := ?_) KnaaPx12_10 rfl rfl (any_of HT_.out (by kernel_rfl)) (fun _ _ _ h => h) (Or.inl ⟨by rfl, ?_⟩) ?_ ?_; rotate_left; focus (intro w'; go_simp; with_reducible rfl)
           rotate_left; focus (simp only [Act.put, List.setIfInBounds_toArray, List.set_cons_zero, List.set_cons_succ, i64_w, i32_w]; rfl)
           refine pure_ (i := 10) (N := some 22) (v := ?_) (a' := ?_) KnaaPx12_11 rfl rfl (any_of HT_.out (by kernel_rfl)) (fun _ _ _ h => h) (Or.inl ⟨by rfl, ?_⟩) ?_ ?_; rotate_left; focus (intro w'; go_simp; with_reducible rfl)
           rotate_left; focus (simp only [Act.put, List.setIfInBounds_toArray, List.set_cons_zero, List.set_cons_succ, i64_w, i32_w]; rfl)
           refine pure_ (i := 11) (N := some 23) (v := ?_) (a' := ?_) KnaaPx12_12 rfl rfl (any_of HT_.out (by kernel_rfl)) (fun _ _ _ h => h) (Or.inl ⟨by rfl, ?_⟩) ?_ ?_; rotate_left; focus (intro w'; go_simp; with_reducible rfl)
           rotate_left; focus (simp only [Act.put, List.setIfInBounds_toArray, List.set_cons_zero, List.set_cons_succ, i64_w, i32_w]; rfl)
           refine take_ (i := 12) (N := some 24) (v := ?_) (a' := ?_) KnaaPx12_13 rfl rfl (take_ofW HT_.out HW_.out (by kernel_rfl)) (fun _ _ _ h => h) (Or.inl ⟨by rfl, ?_⟩) hHeld ?_ ?_; rotate_left; focus (rintro w' ⟨s0, s1, s2, s3⟩; go_simp; with_reducible rfl)
           rotate_left; focus (simp only [Act.put, List.setIfInBounds_toArray, List.set_cons_zero, List.set_cons_succ, i64_w, i32_w]; rfl)
           refine one_ (i := 13) (N := some 25) KnaaPx12_14 rfl rfl (one_of HT_.out (by kernel_rfl)) (by decide) (fun K hK => ?_)
           refine goes_ Try.func18 (by kernel_rfl) rfl #[.int .i64 ((rd_T30 l0 x7_1).f2), .int .i64 0, .int .i64 1000000] (by rfl) rfl rfl (by (try simp only [List.map_toArray, List.map_cons, List.map_nil]); first | done | rfl | (simp only [List.length_drop, List.length_take]; rfl)) ?_
           with_reducible refine (shardmap_within.calls ((rd_T30 l0 x7_1).f2) 0 1000000 true _ A12.out).mono ?_
           rintro e w' ⟨rfl, ⟨nd, rfl⟩⟩
           refine ⟨_, rfl, ?_⟩
           refine hK.out _ _ ⟨(blk_cell BK126.out 0).trans rfl, (blk_cell BK126.out 1).trans rfl, (blk_cell BK126.out 2).trans rfl, (blk_cell BK126.out 3).trans rfl⟩ (fun hHeld => ?_)
           clear hK K
           refine norm_ (a' := ?_) ?_ ?_
           rotate_left
           ·show Act.put _ (some 25) _ = _
            simp only [Act.put, List.setIfInBounds_toArray, List.set_cons_zero, List.set_cons_succ, i64_w, i32_w]
            rfl
           refine pure_ (i := 14) (N := some 26) (v := ?_) (a' := ?_) KnaaPx12_15 rfl rfl (any_of HT_.out (by kernel_rfl)) (fun _ _ _ h => h) (Or.inl ⟨by rfl, ?_⟩) ?_ ?_; rotate_left; focus (intro w'; go_simp; with_reducible rfl)
           rotate_left; focus (simp only [Act.put, List.setIfInBounds_toArray, List.set_cons_zero, List.set_cons_succ, i64_w, i32_w]; rfl)
           refine pure_ (i := 15) (N := some 27) (v := ?_) (a' := ?_) KnaaPx12_16 rfl rfl (any_of HT_.out (by kernel_rfl)) (fun _ _ _ h => h) (Or.inl ⟨by rfl, ?_⟩) ?_ ?_; rotate_left; focus (intro w'; go_simp; with_reducible rfl)
           rotate_left; focus (simp only [Act.put, List.setIfInBounds_toArray, List.set_cons_zero, List.set_cons_succ, i64_w, i32_w]; rfl)
           refine pure_ (i := 16) (N := some 28) (v := ?_) (a' := ?_) KnaaPx12_17 rfl rfl (any_of HT_.out (by kernel_rfl)) (fun _ _ _ h => h) (Or.inl ⟨by rfl, ?_⟩) ?_ ?_; rotate_left; focus (intro w'; go_simp; with_reducible rfl)
           rotate_left; focus (simp only [Act.put, List.setIfInBounds_toArray, List.set_cons_zero, List.set_cons_succ, i64_w, i32_w]; rfl)
           refine pure_ (i := 17) (N := some 29) (v := ?_) (a' := ?_) KnaaPx12_18 rfl rfl (any_of HT_.out (by kernel_rfl)) (fun _ _ _ h => h) (Or.inl ⟨by rfl, ?_⟩) ?_ ?_; rotate_left; focus (intro w'; go_simp; with_reducible rfl)
           rotate_left; focus (simp only [Act.put, List.setIfInBounds_toArray, List.set_cons_zero, List.set_cons_succ, i64_w, i32_w]; rfl)
           refine pure_ (i := 18) (N := some 30) (v := ?_) (a' := ?_) KnaaPx12_19 rfl rfl (any_of HT_.out (by kernel_rfl)) (fun _ _ _ h => h) (Or.inl ⟨by rfl, ?_⟩) ?_ ?_; rotate_left; focus (intro w'; go_simp; with_reducible rfl)
           rotate_left; focus (simp only [Act.put, List.setIfInBounds_toArray, List.set_cons_zero, List.set_cons_succ, i64_w, i32_w]; rfl)
           refine pure_ (i := 19) (N := some 31) (v := ?_) (a' := ?_) KnaaPx12_20 rfl rfl (any_of HT_.out (by kernel_rfl)) (fun _ _ _ h => h) (Or.inl ⟨by rfl, ?_⟩) ?_ ?_; rotate_left; focus (intro w'; go_simp; with_reducible rfl)
           rotate_left; focus (simp only [Act.put, List.setIfInBounds_toArray, List.set_cons_zero, List.set_cons_succ, i64_w, i32_w]; rfl)
           refine pure_ (i := 20) (N := some 32) (v := undef) (a' := ?_) KnaaPx12_21 rfl rfl (any_of HT_.out (by kernel_rfl)) (fun _ _ _ h => h) (Or.inr ⟨by rfl, rfl⟩) ?_ ?_; rotate_left; focus (simp only [Act.put, List.setIfInBounds_toArray, List.set_cons_zero, List.set_cons_succ, i64_w, i32_w]; rfl)
           refine pure_ (i := 21) (N := some 33) (v := undef) (a' := ?_) KnaaPx12_22 rfl rfl (any_of HT_.out (by kernel_rfl)) (fun _ _ _ h => h) (Or.inr ⟨by rfl, rfl⟩) ?_ ?_; rotate_left; focus (simp only [Act.put, List.setIfInBounds_toArray, List.set_cons_zero, List.set_cons_succ, i64_w, i32_w]; rfl)
           refine pure_ (i := 22) (N := some 34) (v := undef) (a' := ?_) KnaaPx12_23 rfl rfl (any_of HT_.out (by kernel_rfl)) (fun _ _ _ h => h) (Or.inr ⟨by rfl, rfl⟩) ?_ ?_; rotate_left; focus (simp only [Act.put, List.setIfInBounds_toArray, List.set_cons_zero, List.set_cons_succ, i64_w, i32_w]; rfl)
           refine pure_ (i := 23) (N := some 35) (v := undef) (a' := ?_) KnaaPx12_24 rfl rfl (any_of HT_.out (by kernel_rfl)) (fun _ _ _ h => h) (Or.inr ⟨by rfl, rfl⟩) ?_ ?_; rotate_left; focus (simp only [Act.put, List.setIfInBounds_toArray, List.set_cons_zero, List.set_cons_succ, i64_w, i32_w]; rfl)
           refine pure_ (i := 24) (N := some 36) (v := undef) (a' := ?_) KnaaPx12_25 rfl rfl (any_of HT_.out (by kernel_rfl)) (fun _ _ _ h => h) (Or.inr ⟨by rfl, rfl⟩) ?_ ?_; rotate_left; focus (simp only [Act.put, List.setIfInBounds_toArray, List.set_cons_zero, List.set_cons_succ, i64_w, i32_w]; rfl)
           refine pure_ (i := 25) (N := some 37) (v := undef) (a' := ?_) KnaaPx12_33 rfl rfl (any_of HT_.out (by kernel_rfl)) (fun _ _ _ h => h) (Or.inr ⟨by rfl, rfl⟩) ?_ ?_; rotate_left; focus (simp only [Act.put, List.setIfInBounds_toArray, List.set_cons_zero, List.set_cons_succ, i64_w, i32_w]; rfl)
           refine pure_ (i := 26) (N := some 38) (v := undef) (a' := ?_) KnaaPx12_27 rfl rfl (any_of HT_.out (by kernel_rfl)) (fun _ _ _ h => h) (Or.inr ⟨by rfl, rfl⟩) ?_ ?_; rotate_left; focus (simp only [Act.put, List.setIfInBounds_toArray, List.set_cons_zero, List.set_cons_succ, i64_w, i32_w]; rfl)
           refine pure_ (i := 27) (N := some 39) (v := undef) (a' := ?_) KnaaPx12_28 rfl rfl (any_of HT_.out (by kernel_rfl)) (fun _ _ _ h => h) (Or.inr ⟨by rfl, rfl⟩) ?_ ?_; rotate_left; focus (simp only [Act.put, List.setIfInBounds_toArray, List.set_cons_zero, List.set_cons_succ, i64_w, i32_w]; rfl)
           refine pure_ (i := 28) (N := some 40) (v := undef) (a' := ?_) KnaaPx12_29 rfl rfl (any_of HT_.out (by kernel_rfl)) (fun _ _ _ h => h) (Or.inr ⟨by rfl, rfl⟩) ?_ ?_; rotate_left; focus (simp only [Act.put, List.setIfInBounds_toArray, List.set_cons_zero, List.set_cons_succ, i64_w, i32_w]; rfl)
           refine pure_ (i := 29) (N := some 41) (v := undef) (a' := ?_) KnaaPx12_30 rfl rfl (any_of HT_.out (by kernel_rfl)) (fun _ _ _ h => h) (Or.inr ⟨by rfl, rfl⟩) ?_ ?_; rotate_left; focus (simp only [Act.put, List.setIfInBounds_toArray, List.set_cons_zero, List.set_cons_succ, i64_w, i32_w]; rfl)
           refine pure_ (i := 30) (N := some 42) (v := ?_) (a' := ?_) KnaaPx12_31 rfl rfl (any_of HT_.out (by kernel_rfl)) (fun _ _ _ h => h) (Or.inl ⟨by rfl, ?_⟩) ?_ ?_; rotate_left; focus (intro w'; go_simp; with_reducible rfl)
           rotate_left; focus (simp only [Act.put, List.setIfInBounds_toArray, List.set_cons_zero, List.set_cons_succ, i64_w, i32_w]; rfl)
           refine pure_ (i := 31) (N := some 43) (v := ?_) (a' := ?_) KnaaPx12_32 rfl rfl (any_of HT_.out (by kernel_rfl)) (fun _ _ _ h => h) (Or.inl ⟨by rfl, ?_⟩) ?_ ?_; rotate_left; focus (intro w'; go_simp; with_reducible rfl)
           rotate_left; focus (simp only [Act.put, List.setIfInBounds_toArray, List.set_cons_zero, List.set_cons_succ, i64_w, i32_w]; rfl)
           refine done_ (done_of HT_.out (by kernel_rfl)) ?_
           try go_wp2
           go_meet
           case rel => exact ⟨_, (false), (by first | rfl | (simp; done) | (simp [*]; done)), H', ⟨by have := HK1.out; first | omega | exact Nat.le_refl _⟩, ⟨by exact bk_ BK126.out⟩, ⟨by repeat (first | (with_reducible first | exact HB.out | apply below_alloc | apply pw_below_drewN | apply below_drew1 | refine below_set ?_ GE126.out) | exact HB.out)⟩⟩
         ·replace c13 := Bool.eq_false_iff.mpr c13
          subst c13
          have H1 : (shardmap_fine.j1 k1 l0 l0 (l0.length : Int) x7_1 true) = some r := by rw [if_neg (show ¬ (false = true) by decide)] at H; exact H
          clear H
          have H := H1
          clear H1
          have H' := Aside0.mk H
          clear H
          try go_wp2
          have n0_ : Aside0 (((((w6.setCell ⟨gb126, 0, none⟩ (.int .i64 ((rd_T30 l0 x7_1).f0.f0))).setCell ⟨gb126, 1, none⟩ (.int .i64 ((rd_T30 l0 x7_1).f0.f1))).setCell ⟨gb126, 2, none⟩ (.int .i64 ((rd_T30 l0 x7_1).f1))).setCell ⟨gb126, 3, none⟩ (.int .i64 ((rd_T30 l0 x7_1).f2))).heap[gb126]? = some (.cells #[.int .i64 ((rd_T30 l0 x7_1).f0.f0), .int .i64 ((rd_T30 l0 x7_1).f0.f1), .int .i64 ((rd_T30 l0 x7_1).f1), .int .i64 ((rd_T30 l0 x7_1).f2)] 30 (0, 0))) := ⟨by (with_reducible repeat (first | refine blk_drewN ?_ _ | refine blk_drew ?_ | refine blk_alloc ?_ _)); refine blk_put (cs := #[.int .i64 ((rd_T30 l0 x7_1).f0.f0), .int .i64 ((rd_T30 l0 x7_1).f0.f1), .int .i64 ((rd_T30 l0 x7_1).f1), .int .i64 0]) ?_ 3 _ rfl; (with_reducible repeat (first | refine blk_drewN ?_ _ | refine blk_drew ?_ | refine blk_alloc ?_ _)); refine blk_put (cs := #[.int .i64 ((rd_T30 l0 x7_1).f0.f0), .int .i64 ((rd_T30 l0 x7_1).f0.f1), .int .i64 0, .int .i64 0]) ?_ 2 _ rfl; (with_reducible repeat (first | refine blk_drewN ?_ _ | refine blk_drew ?_ | refine blk_alloc ?_ _)); refine blk_put (cs := #[.int .i64 ((rd_T30 l0 x7_1).f0.f0), .int .i64 0, .int .i64 0, .int .i64 0]) ?_ 1 _ rfl; (with_reducible repeat (first | refine blk_drewN ?_ _ | refine blk_drew ?_ | refine blk_alloc ?_ _)); refine blk_put (cs := #[.int .i64 0, .int .i64 0, .int .i64 0, .int .i64 0]) ?_ 0 _ rfl; exact bk_ BK126.out⟩
          have n1_ : Aside0 (Below w.heap.size w ((((w6.setCell ⟨gb126, 0, none⟩ (.int .i64 ((rd_T30 l0 x7_1).f0.f0))).setCell ⟨gb126, 1, none⟩ (.int .i64 ((rd_T30 l0 x7_1).f0.f1))).setCell ⟨gb126, 2, none⟩ (.int .i64 ((rd_T30 l0 x7_1).f1))).setCell ⟨gb126, 3, none⟩ (.int .i64 ((rd_T30 l0 x7_1).f2)))) := ⟨by repeat (first | (with_reducible first | exact HB.out | apply below_alloc | apply pw_below_drewN | apply below_drew1 | refine below_set ?_ GE126.out) | exact HB.out)⟩
          (try clear BK126)
          (try clear HB)
          generalize ((((w6.setCell ⟨gb126, 0, none⟩ (.int .i64 ((rd_T30 l0 x7_1).f0.f0))).setCell ⟨gb126, 1, none⟩ (.int .i64 ((rd_T30 l0 x7_1).f0.f1))).setCell ⟨gb126, 2, none⟩ (.int .i64 ((rd_T30 l0 x7_1).f1))).setCell ⟨gb126, 3, none⟩ (.int .i64 ((rd_T30 l0 x7_1).f2))) = w26 at n0_ n1_ ⊢
          have BK126 := n0_
          have HB := n1_
          clear n0_ n1_
          have n0_ := Aside0.mk (blk_drew BK126.out)
          have n1_ := Aside0.mk (below_drew1 HB.out)
          clear BK126
          clear HB
          have BK126 := n0_
          have HB := n1_
          clear n0_ n1_
          refine start_ (n := 32) (S := fun w' => w'.cell? ⟨gb126, 0, none⟩ = some (.int .i64 ((rd_T30 l0 x7_1).f0.f0)) ∧ w'.cell? ⟨gb126, 1, none⟩ = some (.int .i64 ((rd_T30 l0 x7_1).f0.f1)) ∧ w'.cell? ⟨gb126, 2, none⟩ = some (.int .i64 ((rd_T30 l0 x7_1).f1)) ∧ w'.cell? ⟨gb126, 3, none⟩ = some (.int .i64 ((rd_T30 l0 x7_1).f2))) (ds := []) KnaaPx12_0 (by kernel_rfl) rfl rfl ⟨(blk_cell BK126.out 0).trans rfl, (blk_cell BK126.out 1).trans rfl, (blk_cell BK126.out 2).trans rfl, (blk_cell BK126.out 3).trans rfl⟩ (fun hHeld => ?_); refine with_tabW shardmap_fine.tab4 shardmap_fine.bits4 (fun HT_ HW_ => ?_)
          generalize w26.drew = w27 at BK126 HB hHeld ⊢
          refine pure_ (i := 0) (N := some 12) (v := ?_) (a' := ?_) KnaaPx12_1 rfl rfl (any_of HT_.out (by kernel_rfl)) (fun _ _ _ h => h) (Or.inl ⟨by rfl, ?_⟩) ?_ ?_; rotate_left; focus (intro w'; go_simp; with_reducible rfl)
          rotate_left; focus (simp only [Act.put, List.setIfInBounds_toArray, List.set_cons_zero, List.set_cons_succ, i64_w, i32_w]; rfl)
          refine take_ (i := 1) (N := some 13) (v := ?_) (a' := ?_) KnaaPx12_2 rfl rfl (take_ofW HT_.out HW_.out (by kernel_rfl)) (fun _ _ _ h => h) (Or.inl ⟨by rfl, ?_⟩) hHeld ?_ ?_; rotate_left; focus (rintro w' ⟨s0, s1, s2, s3⟩; go_simp; with_reducible rfl)
          rotate_left; focus (simp only [Act.put, List.setIfInBounds_toArray, List.set_cons_zero, List.set_cons_succ, i64_w, i32_w]; rfl)
          refine one_ (i := 2) (N := some 14) KnaaPx12_3 rfl rfl (one_of HT_.out (by kernel_rfl)) (by decide) (fun K hK => ?_)
          refine goes_ Try.func17 (by kernel_rfl) rfl #[.agg #[.int .i64 ((rd_T30 l0 x7_1).f0.f0), .int .i64 ((rd_T30 l0 x7_1).f0.f1)]] (by rfl) rfl rfl (by (try simp only [List.map_toArray, List.map_cons, List.map_nil]); first | done | rfl | (simp only [List.length_drop, List.length_take]; rfl)) ?_
          with_reducible refine (shardmap_isKey.calls ((rd_T30 l0 x7_1).f0.f0) ((rd_T30 l0 x7_1).f0.f1) true _ A8.out).mono ?_
          rintro e w28 ⟨rfl, hb⟩
          refine ⟨_, rfl, ?_⟩
          have n0_ := Aside0.mk (blk_below (g := gb126) (o := .cells #[.int .i64 ((rd_T30 l0 x7_1).f0.f0), .int .i64 ((rd_T30 l0 x7_1).f0.f1), .int .i64 ((rd_T30 l0 x7_1).f1), .int .i64 ((rd_T30 l0 x7_1).f2)] 30 (0, 0)) (by exact bk_ BK126.out) hb)
          have n1_ := Aside0.mk (below_step (by repeat (first | (with_reducible first | exact HB.out | apply below_alloc | apply pw_below_drewN | apply below_drew1 | refine below_set ?_ GE126.out) | exact HB.out)) hb)
          clear BK126
          clear HB
          have BK126 := n0_
          have HB := n1_
          clear n0_ n1_
          (try clear hb)
          (try clear hb2)
          (try clear hk)
          (try clear hi)
          refine hK.out _ _ ⟨(blk_cell BK126.out 0).trans rfl, (blk_cell BK126.out 1).trans rfl, (blk_cell BK126.out 2).trans rfl, (blk_cell BK126.out 3).trans rfl⟩ (fun hHeld => ?_)
          clear hK K
          refine norm_ (a' := ?_) ?_ ?_
          rotate_left
          ·show Act.put _ (some 14) _ = _
           simp only [Act.put, List.setIfInBounds_toArray, List.set_cons_zero, List.set_cons_succ, i64_w, i32_w]
           rfl
          refine pure_ (i := 3) (N := some 15) (v := ?_) (a' := ?_) KnaaPx12_4 rfl rfl (any_of HT_.out (by kernel_rfl)) (fun _ _ _ h => h) (Or.inl ⟨by rfl, ?_⟩) ?_ ?_; rotate_left; focus (intro w'; go_simp; with_reducible rfl)
          rotate_left; focus (simp only [Act.put, List.setIfInBounds_toArray, List.set_cons_zero, List.set_cons_succ, i64_w, i32_w]; rfl)
          refine pure_ (i := 4) (N := some 16) (v := ?_) (a' := ?_) KnaaPx12_5 rfl rfl (any_of HT_.out (by kernel_rfl)) (fun _ _ _ h => h) (Or.inl ⟨by rfl, ?_⟩) ?_ ?_; rotate_left; focus (intro w'; go_simp; with_reducible rfl)
          rotate_left; focus (simp only [Act.put, List.setIfInBounds_toArray, List.set_cons_zero, List.set_cons_succ, i64_w, i32_w]; rfl)
          refine pure_ (i := 5) (N := some 17) (v := ?_) (a' := ?_) KnaaPx12_6 rfl rfl (any_of HT_.out (by kernel_rfl)) (fun _ _ _ h => h) (Or.inl ⟨by rfl, ?_⟩) ?_ ?_; rotate_left; focus (intro w'; go_simp; with_reducible rfl)
          rotate_left; focus (simp only [Act.put, List.setIfInBounds_toArray, List.set_cons_zero, List.set_cons_succ, i64_w, i32_w]; rfl)
          refine take_ (i := 6) (N := some 18) (v := ?_) (a' := ?_) KnaaPx12_7 rfl rfl (take_ofW HT_.out HW_.out (by kernel_rfl)) (fun _ _ _ h => h) (Or.inl ⟨by rfl, ?_⟩) hHeld ?_ ?_; rotate_left; focus (rintro w' ⟨s0, s1, s2, s3⟩; go_simp; with_reducible rfl)
          rotate_left; focus (simp only [Act.put, List.setIfInBounds_toArray, List.set_cons_zero, List.set_cons_succ, i64_w, i32_w]; rfl)
          refine one_ (i := 7) (N := some 19) KnaaPx12_8 rfl rfl (one_of HT_.out (by kernel_rfl)) (by decide) (fun K hK => ?_)
          refine goes_ Try.func18 (by kernel_rfl) rfl #[.int .i64 ((rd_T30 l0 x7_1).f1), .int .i64 0, .int .i64 3] (by rfl) rfl rfl (by (try simp only [List.map_toArray, List.map_cons, List.map_nil]); first | done | rfl | (simp only [List.length_drop, List.length_take]; rfl)) ?_
          with_reducible refine (shardmap_within.calls ((rd_T30 l0 x7_1).f1) 0 3 true _ A10.out).mono ?_
          rintro e w' ⟨rfl, ⟨nd, rfl⟩⟩
          refine ⟨_, rfl, ?_⟩
          refine hK.out _ _ ⟨(blk_cell BK126.out 0).trans rfl, (blk_cell BK126.out 1).trans rfl, (blk_cell BK126.out 2).trans rfl, (blk_cell BK126.out 3).trans rfl⟩ (fun hHeld => ?_)
          clear hK K
          refine norm_ (a' := ?_) ?_ ?_
          rotate_left
          ·show Act.put _ (some 19) _ = _
           simp only [Act.put, List.setIfInBounds_toArray, List.set_cons_zero, List.set_cons_succ, i64_w, i32_w]
           rfl
          refine pure_ (i := 8) (N := some 20) (v := ?_) (a' := ?_) KnaaPx12_9 rfl rfl (any_of HT_.out (by kernel_rfl)) (fun _ _ _ h => h) (Or.inl ⟨by rfl, ?_⟩) ?_ ?_; rotate_left; focus (intro w'; go_simp; with_reducible rfl)
          rotate_left; focus (simp only [Act.put, List.setIfInBounds_toArray, List.set_cons_zero, List.set_cons_succ, i64_w, i32_w]; rfl)
          refine pure_ (i := 9) (N := some 21) (v := ?_) (a' := ?_) KnaaPx12_10 rfl rfl (any_of HT_.out (by kernel_rfl)) (fun _ _ _ h => h) (Or.inl ⟨by rfl, ?_⟩) ?_ ?_; rotate_left; focus (intro w'; go_simp; with_reducible rfl)
          rotate_left; focus (simp only [Act.put, List.setIfInBounds_toArray, List.set_cons_zero, List.set_cons_succ, i64_w, i32_w]; rfl)
          refine pure_ (i := 10) (N := some 22) (v := ?_) (a' := ?_) KnaaPx12_11 rfl rfl (any_of HT_.out (by kernel_rfl)) (fun _ _ _ h => h) (Or.inl ⟨by rfl, ?_⟩) ?_ ?_; rotate_left; focus (intro w'; go_simp; with_reducible rfl)
          rotate_left; focus (simp only [Act.put, List.setIfInBounds_toArray, List.set_cons_zero, List.set_cons_succ, i64_w, i32_w]; rfl)
          refine pure_ (i := 11) (N := some 23) (v := ?_) (a' := ?_) KnaaPx12_12 rfl rfl (any_of HT_.out (by kernel_rfl)) (fun _ _ _ h => h) (Or.inl ⟨by rfl, ?_⟩) ?_ ?_; rotate_left; focus (intro w'; go_simp; with_reducible rfl)
          rotate_left; focus (simp only [Act.put, List.setIfInBounds_toArray, List.set_cons_zero, List.set_cons_succ, i64_w, i32_w]; rfl)
          refine take_ (i := 12) (N := some 24) (v := ?_) (a' := ?_) KnaaPx12_13 rfl rfl (take_ofW HT_.out HW_.out (by kernel_rfl)) (fun _ _ _ h => h) (Or.inl ⟨by rfl, ?_⟩) hHeld ?_ ?_; rotate_left; focus (rintro w' ⟨s0, s1, s2, s3⟩; go_simp; with_reducible rfl)
          rotate_left; focus (simp only [Act.put, List.setIfInBounds_toArray, List.set_cons_zero, List.set_cons_succ, i64_w, i32_w]; rfl)
          refine one_ (i := 13) (N := some 25) KnaaPx12_14 rfl rfl (one_of HT_.out (by kernel_rfl)) (by decide) (fun K hK => ?_)
          refine goes_ Try.func18 (by kernel_rfl) rfl #[.int .i64 ((rd_T30 l0 x7_1).f2), .int .i64 0, .int .i64 1000000] (by rfl) rfl rfl (by (try simp only [List.map_toArray, List.map_cons, List.map_nil]); first | done | rfl | (simp only [List.length_drop, List.length_take]; rfl)) ?_
          with_reducible refine (shardmap_within.calls ((rd_T30 l0 x7_1).f2) 0 1000000 false _ A12.out).mono ?_
          rintro e w' ⟨rfl, ⟨nd, rfl⟩⟩
          refine ⟨_, rfl, ?_⟩
          refine hK.out _ _ ⟨(blk_cell BK126.out 0).trans rfl, (blk_cell BK126.out 1).trans rfl, (blk_cell BK126.out 2).trans rfl, (blk_cell BK126.out 3).trans rfl⟩ (fun hHeld => ?_)
          clear hK K
          refine norm_ (a' := ?_) ?_ ?_
          rotate_left
          ·show Act.put _ (some 25) _ = _
           simp only [Act.put, List.setIfInBounds_toArray, List.set_cons_zero, List.set_cons_succ, i64_w, i32_w]
           rfl
          refine pure_ (i := 14) (N := some 26) (v := ?_) (a' := ?_) KnaaPx12_15 rfl rfl (any_of HT_.out (by kernel_rfl)) (fun _ _ _ h => h) (Or.inl ⟨by rfl, ?_⟩) ?_ ?_; rotate_left; focus (intro w'; go_simp; with_reducible rfl)
          rotate_left; focus (simp only [Act.put, List.setIfInBounds_toArray, List.set_cons_zero, List.set_cons_succ, i64_w, i32_w]; rfl)
          refine pure_ (i := 15) (N := some 27) (v := ?_) (a' := ?_) KnaaPx12_16 rfl rfl (any_of HT_.out (by kernel_rfl)) (fun _ _ _ h => h) (Or.inl ⟨by rfl, ?_⟩) ?_ ?_; rotate_left; focus (intro w'; go_simp; with_reducible rfl)
          rotate_left; focus (simp only [Act.put, List.setIfInBounds_toArray, List.set_cons_zero, List.set_cons_succ, i64_w, i32_w]; rfl)
          refine pure_ (i := 16) (N := some 28) (v := ?_) (a' := ?_) KnaaPx12_17 rfl rfl (any_of HT_.out (by kernel_rfl)) (fun _ _ _ h => h) (Or.inl ⟨by rfl, ?_⟩) ?_ ?_; rotate_left; focus (intro w'; go_simp; with_reducible rfl)
          rotate_left; focus (simp only [Act.put, List.setIfInBounds_toArray, List.set_cons_zero, List.set_cons_succ, i64_w, i32_w]; rfl)
          refine pure_ (i := 17) (N := some 29) (v := undef) (a' := ?_) KnaaPx12_18 rfl rfl (any_of HT_.out (by kernel_rfl)) (fun _ _ _ h => h) (Or.inr ⟨by rfl, rfl⟩) ?_ ?_; rotate_left; focus (simp only [Act.put, List.setIfInBounds_toArray, List.set_cons_zero, List.set_cons_succ, i64_w, i32_w]; rfl)
          refine pure_ (i := 18) (N := some 30) (v := undef) (a' := ?_) KnaaPx12_19 rfl rfl (any_of HT_.out (by kernel_rfl)) (fun _ _ _ h => h) (Or.inr ⟨by rfl, rfl⟩) ?_ ?_; rotate_left; focus (simp only [Act.put, List.setIfInBounds_toArray, List.set_cons_zero, List.set_cons_succ, i64_w, i32_w]; rfl)
          refine pure_ (i := 19) (N := some 31) (v := undef) (a' := ?_) KnaaPx12_20 rfl rfl (any_of HT_.out (by kernel_rfl)) (fun _ _ _ h => h) (Or.inr ⟨by rfl, rfl⟩) ?_ ?_; rotate_left; focus (simp only [Act.put, List.setIfInBounds_toArray, List.set_cons_zero, List.set_cons_succ, i64_w, i32_w]; rfl)
          refine pure_ (i := 20) (N := some 32) (v := undef) (a' := ?_) KnaaPx12_21 rfl rfl (any_of HT_.out (by kernel_rfl)) (fun _ _ _ h => h) (Or.inr ⟨by rfl, rfl⟩) ?_ ?_; rotate_left; focus (simp only [Act.put, List.setIfInBounds_toArray, List.set_cons_zero, List.set_cons_succ, i64_w, i32_w]; rfl)
          refine pure_ (i := 21) (N := some 33) (v := undef) (a' := ?_) KnaaPx12_22 rfl rfl (any_of HT_.out (by kernel_rfl)) (fun _ _ _ h => h) (Or.inr ⟨by rfl, rfl⟩) ?_ ?_; rotate_left; focus (simp only [Act.put, List.setIfInBounds_toArray, List.set_cons_zero, List.set_cons_succ, i64_w, i32_w]; rfl)
          refine pure_ (i := 22) (N := some 34) (v := undef) (a' := ?_) KnaaPx12_23 rfl rfl (any_of HT_.out (by kernel_rfl)) (fun _ _ _ h => h) (Or.inr ⟨by rfl, rfl⟩) ?_ ?_; rotate_left; focus (simp only [Act.put, List.setIfInBounds_toArray, List.set_cons_zero, List.set_cons_succ, i64_w, i32_w]; rfl)
          refine pure_ (i := 23) (N := some 35) (v := undef) (a' := ?_) KnaaPx12_24 rfl rfl (any_of HT_.out (by kernel_rfl)) (fun _ _ _ h => h) (Or.inr ⟨by rfl, rfl⟩) ?_ ?_; rotate_left; focus (simp only [Act.put, List.setIfInBounds_toArray, List.set_cons_zero, List.set_cons_succ, i64_w, i32_w]; rfl)
          refine pure_ (i := 24) (N := some 36) (v := undef) (a' := ?_) KnaaPx12_25 rfl rfl (any_of HT_.out (by kernel_rfl)) (fun _ _ _ h => h) (Or.inr ⟨by rfl, rfl⟩) ?_ ?_; rotate_left; focus (simp only [Act.put, List.setIfInBounds_toArray, List.set_cons_zero, List.set_cons_succ, i64_w, i32_w]; rfl)
          refine pure_ (i := 25) (N := some 37) (v := undef) (a' := ?_) KnaaPx12_33 rfl rfl (any_of HT_.out (by kernel_rfl)) (fun _ _ _ h => h) (Or.inr ⟨by rfl, rfl⟩) ?_ ?_; rotate_left; focus (simp only [Act.put, List.setIfInBounds_toArray, List.set_cons_zero, List.set_cons_succ, i64_w, i32_w]; rfl)
          refine pure_ (i := 26) (N := some 38) (v := undef) (a' := ?_) KnaaPx12_27 rfl rfl (any_of HT_.out (by kernel_rfl)) (fun _ _ _ h => h) (Or.inr ⟨by rfl, rfl⟩) ?_ ?_; rotate_left; focus (simp only [Act.put, List.setIfInBounds_toArray, List.set_cons_zero, List.set_cons_succ, i64_w, i32_w]; rfl)
          refine pure_ (i := 27) (N := some 39) (v := undef) (a' := ?_) KnaaPx12_28 rfl rfl (any_of HT_.out (by kernel_rfl)) (fun _ _ _ h => h) (Or.inr ⟨by rfl, rfl⟩) ?_ ?_; rotate_left; focus (simp only [Act.put, List.setIfInBounds_toArray, List.set_cons_zero, List.set_cons_succ, i64_w, i32_w]; rfl)
          refine pure_ (i := 28) (N := some 40) (v := undef) (a' := ?_) KnaaPx12_29 rfl rfl (any_of HT_.out (by kernel_rfl)) (fun _ _ _ h => h) (Or.inr ⟨by rfl, rfl⟩) ?_ ?_; rotate_left; focus (simp only [Act.put, List.setIfInBounds_toArray, List.set_cons_zero, List.set_cons_succ, i64_w, i32_w]; rfl)
          refine pure_ (i := 29) (N := some 41) (v := undef) (a' := ?_) KnaaPx12_30 rfl rfl (any_of HT_.out (by kernel_rfl)) (fun _ _ _ h => h) (Or.inr ⟨by rfl, rfl⟩) ?_ ?_; rotate_left; focus (simp only [Act.put, List.setIfInBounds_toArray, List.set_cons_zero, List.set_cons_succ, i64_w, i32_w]; rfl)
          refine pure_ (i := 30) (N := some 42) (v := undef) (a' := ?_) KnaaPx12_31 rfl rfl (any_of HT_.out (by kernel_rfl)) (fun _ _ _ h => h) (Or.inr ⟨by rfl, rfl⟩) ?_ ?_; rotate_left; focus (simp only [Act.put, List.setIfInBounds_toArray, List.set_cons_zero, List.set_cons_succ, i64_w, i32_w]; rfl)
          refine pure_ (i := 31) (N := some 43) (v := ?_) (a' := ?_) KnaaPx12_32 rfl rfl (any_of HT_.out (by kernel_rfl)) (fun _ _ _ h => h) (Or.inl ⟨by rfl, ?_⟩) ?_ ?_; rotate_left; focus (intro w'; go_simp; with_reducible rfl)
          rotate_left; focus (simp only [Act.put, List.setIfInBounds_toArray, List.set_cons_zero, List.set_cons_succ, i64_w, i32_w]; rfl)
          refine done_ (done_of HT_.out (by kernel_rfl)) ?_
          try go_wp2
          go_meet
          case rel => exact ⟨_, (true), (by first | rfl | (simp; done) | (simp [*]; done)), H', ⟨by have := HK1.out; first | omega | exact Nat.le_refl _⟩, ⟨by exact bk_ BK126.out⟩, ⟨by repeat (first | (with_reducible first | exact HB.out | apply below_alloc | apply pw_below_drewN | apply below_drew1 | refine below_set ?_ GE126.out) | exact HB.out)⟩⟩
        ·replace c11 := Bool.eq_false_iff.mpr c11
         subst c11
         have H1 : (shardmap_fine.j1 k1 l0 l0 (l0.length : Int) x7_1 true) = some r := by rw [if_neg (show ¬ (false = true) by decide)] at H; exact H
         clear H
         have H := H1
         clear H1
         have H' := Aside0.mk H
         clear H
         try go_wp2
         have n0_ : Aside0 (((((w6.setCell ⟨gb126, 0, none⟩ (.int .i64 ((rd_T30 l0 x7_1).f0.f0))).setCell ⟨gb126, 1, none⟩ (.int .i64 ((rd_T30 l0 x7_1).f0.f1))).setCell ⟨gb126, 2, none⟩ (.int .i64 ((rd_T30 l0 x7_1).f1))).setCell ⟨gb126, 3, none⟩ (.int .i64 ((rd_T30 l0 x7_1).f2))).heap[gb126]? = some (.cells #[.int .i64 ((rd_T30 l0 x7_1).f0.f0), .int .i64 ((rd_T30 l0 x7_1).f0.f1), .int .i64 ((rd_T30 l0 x7_1).f1), .int .i64 ((rd_T30 l0 x7_1).f2)] 30 (0, 0))) := ⟨by (with_reducible repeat (first | refine blk_drewN ?_ _ | refine blk_drew ?_ | refine blk_alloc ?_ _)); refine blk_put (cs := #[.int .i64 ((rd_T30 l0 x7_1).f0.f0), .int .i64 ((rd_T30 l0 x7_1).f0.f1), .int .i64 ((rd_T30 l0 x7_1).f1), .int .i64 0]) ?_ 3 _ rfl; (with_reducible repeat (first | refine blk_drewN ?_ _ | refine blk_drew ?_ | refine blk_alloc ?_ _)); refine blk_put (cs := #[.int .i64 ((rd_T30 l0 x7_1).f0.f0), .int .i64 ((rd_T30 l0 x7_1).f0.f1), .int .i64 0, .int .i64 0]) ?_ 2 _ rfl; (with_reducible repeat (first | refine blk_drewN ?_ _ | refine blk_drew ?_ | refine blk_alloc ?_ _)); refine blk_put (cs := #[.int .i64 ((rd_T30 l0 x7_1).f0.f0), .int .i64 0, .int .i64 0, .int .i64 0]) ?_ 1 _ rfl; (with_reducible repeat (first | refine blk_drewN ?_ _ | refine blk_drew ?_ | refine blk_alloc ?_ _)); refine blk_put (cs := #[.int .i64 0, .int .i64 0, .int .i64 0, .int .i64 0]) ?_ 0 _ rfl; exact bk_ BK126.out⟩
         have n1_ : Aside0 (Below w.heap.size w ((((w6.setCell ⟨gb126, 0, none⟩ (.int .i64 ((rd_T30 l0 x7_1).f0.f0))).setCell ⟨gb126, 1, none⟩ (.int .i64 ((rd_T30 l0 x7_1).f0.f1))).setCell ⟨gb126, 2, none⟩ (.int .i64 ((rd_T30 l0 x7_1).f1))).setCell ⟨gb126, 3, none⟩ (.int .i64 ((rd_T30 l0 x7_1).f2)))) := ⟨by repeat (first | (with_reducible first | exact HB.out | apply below_alloc | apply pw_below_drewN | apply below_drew1 | refine below_set ?_ GE126.out) | exact HB.out)⟩
         (try clear BK126)
         (try clear HB)
         generalize ((((w6.setCell ⟨gb126, 0, none⟩ (.int .i64 ((rd_T30 l0 x7_1).f0.f0))).setCell ⟨gb126, 1, none⟩ (.int .i64 ((rd_T30 l0 x7_1).f0.f1))).setCell ⟨gb126, 2, none⟩ (.int .i64 ((rd_T30 l0 x7_1).f1))).setCell ⟨gb126, 3, none⟩ (.int .i64 ((rd_T30 l0 x7_1).f2))) = w29 at n0_ n1_ ⊢
         have BK126 := n0_
         have HB := n1_
         clear n0_ n1_
         have n0_ := Aside0.mk (blk_drew BK126.out)
         have n1_ := Aside0.mk (below_drew1 HB.out)
         clear BK126
         clear HB
         have BK126 := n0_
         have HB := n1_
         clear n0_ n1_
         refine start_ (n := 32) (S := fun w' => w'.cell? ⟨gb126, 0, none⟩ = some (.int .i64 ((rd_T30 l0 x7_1).f0.f0)) ∧ w'.cell? ⟨gb126, 1, none⟩ = some (.int .i64 ((rd_T30 l0 x7_1).f0.f1)) ∧ w'.cell? ⟨gb126, 2, none⟩ = some (.int .i64 ((rd_T30 l0 x7_1).f1)) ∧ w'.cell? ⟨gb126, 3, none⟩ = some (.int .i64 ((rd_T30 l0 x7_1).f2))) (ds := []) KnaaPx12_0 (by kernel_rfl) rfl rfl ⟨(blk_cell BK126.out 0).trans rfl, (blk_cell BK126.out 1).trans rfl, (blk_cell BK126.out 2).trans rfl, (blk_cell BK126.out 3).trans rfl⟩ (fun hHeld => ?_); refine with_tabW shardmap_fine.tab4 shardmap_fine.bits4 (fun HT_ HW_ => ?_)
         generalize w29.drew = w30 at BK126 HB hHeld ⊢
         refine pure_ (i := 0) (N := some 12) (v := ?_) (a' := ?_) KnaaPx12_1 rfl rfl (any_of HT_.out (by kernel_rfl)) (fun _ _ _ h => h) (Or.inl ⟨by rfl, ?_⟩) ?_ ?_; rotate_left; focus (intro w'; go_simp; with_reducible rfl)
         rotate_left; focus (simp only [Act.put, List.setIfInBounds_toArray, List.set_cons_zero, List.set_cons_succ, i64_w, i32_w]; rfl)
         refine take_ (i := 1) (N := some 13) (v := ?_) (a' := ?_) KnaaPx12_2 rfl rfl (take_ofW HT_.out HW_.out (by kernel_rfl)) (fun _ _ _ h => h) (Or.inl ⟨by rfl, ?_⟩) hHeld ?_ ?_; rotate_left; focus (rintro w' ⟨s0, s1, s2, s3⟩; go_simp; with_reducible rfl)
         rotate_left; focus (simp only [Act.put, List.setIfInBounds_toArray, List.set_cons_zero, List.set_cons_succ, i64_w, i32_w]; rfl)
         refine one_ (i := 2) (N := some 14) KnaaPx12_3 rfl rfl (one_of HT_.out (by kernel_rfl)) (by decide) (fun K hK => ?_)
         refine goes_ Try.func17 (by kernel_rfl) rfl #[.agg #[.int .i64 ((rd_T30 l0 x7_1).f0.f0), .int .i64 ((rd_T30 l0 x7_1).f0.f1)]] (by rfl) rfl rfl (by (try simp only [List.map_toArray, List.map_cons, List.map_nil]); first | done | rfl | (simp only [List.length_drop, List.length_take]; rfl)) ?_
         with_reducible refine (shardmap_isKey.calls ((rd_T30 l0 x7_1).f0.f0) ((rd_T30 l0 x7_1).f0.f1) true _ A8.out).mono ?_
         rintro e w31 ⟨rfl, hb⟩
         refine ⟨_, rfl, ?_⟩
         have n0_ := Aside0.mk (blk_below (g := gb126) (o := .cells #[.int .i64 ((rd_T30 l0 x7_1).f0.f0), .int .i64 ((rd_T30 l0 x7_1).f0.f1), .int .i64 ((rd_T30 l0 x7_1).f1), .int .i64 ((rd_T30 l0 x7_1).f2)] 30 (0, 0)) (by exact bk_ BK126.out) hb)
         have n1_ := Aside0.mk (below_step (by repeat (first | (with_reducible first | exact HB.out | apply below_alloc | apply pw_below_drewN | apply below_drew1 | refine below_set ?_ GE126.out) | exact HB.out)) hb)
         clear BK126
         clear HB
         have BK126 := n0_
         have HB := n1_
         clear n0_ n1_
         (try clear hb)
         (try clear hb2)
         (try clear hk)
         (try clear hi)
         refine hK.out _ _ ⟨(blk_cell BK126.out 0).trans rfl, (blk_cell BK126.out 1).trans rfl, (blk_cell BK126.out 2).trans rfl, (blk_cell BK126.out 3).trans rfl⟩ (fun hHeld => ?_)
         clear hK K
         refine norm_ (a' := ?_) ?_ ?_
         rotate_left
         ·show Act.put _ (some 14) _ = _
          simp only [Act.put, List.setIfInBounds_toArray, List.set_cons_zero, List.set_cons_succ, i64_w, i32_w]
          rfl
         refine pure_ (i := 3) (N := some 15) (v := ?_) (a' := ?_) KnaaPx12_4 rfl rfl (any_of HT_.out (by kernel_rfl)) (fun _ _ _ h => h) (Or.inl ⟨by rfl, ?_⟩) ?_ ?_; rotate_left; focus (intro w'; go_simp; with_reducible rfl)
         rotate_left; focus (simp only [Act.put, List.setIfInBounds_toArray, List.set_cons_zero, List.set_cons_succ, i64_w, i32_w]; rfl)
         refine pure_ (i := 4) (N := some 16) (v := ?_) (a' := ?_) KnaaPx12_5 rfl rfl (any_of HT_.out (by kernel_rfl)) (fun _ _ _ h => h) (Or.inl ⟨by rfl, ?_⟩) ?_ ?_; rotate_left; focus (intro w'; go_simp; with_reducible rfl)
         rotate_left; focus (simp only [Act.put, List.setIfInBounds_toArray, List.set_cons_zero, List.set_cons_succ, i64_w, i32_w]; rfl)
         refine pure_ (i := 5) (N := some 17) (v := ?_) (a' := ?_) KnaaPx12_6 rfl rfl (any_of HT_.out (by kernel_rfl)) (fun _ _ _ h => h) (Or.inl ⟨by rfl, ?_⟩) ?_ ?_; rotate_left; focus (intro w'; go_simp; with_reducible rfl)
         rotate_left; focus (simp only [Act.put, List.setIfInBounds_toArray, List.set_cons_zero, List.set_cons_succ, i64_w, i32_w]; rfl)
         refine take_ (i := 6) (N := some 18) (v := ?_) (a' := ?_) KnaaPx12_7 rfl rfl (take_ofW HT_.out HW_.out (by kernel_rfl)) (fun _ _ _ h => h) (Or.inl ⟨by rfl, ?_⟩) hHeld ?_ ?_; rotate_left; focus (rintro w' ⟨s0, s1, s2, s3⟩; go_simp; with_reducible rfl)
         rotate_left; focus (simp only [Act.put, List.setIfInBounds_toArray, List.set_cons_zero, List.set_cons_succ, i64_w, i32_w]; rfl)
         refine one_ (i := 7) (N := some 19) KnaaPx12_8 rfl rfl (one_of HT_.out (by kernel_rfl)) (by decide) (fun K hK => ?_)
         refine goes_ Try.func18 (by kernel_rfl) rfl #[.int .i64 ((rd_T30 l0 x7_1).f1), .int .i64 0, .int .i64 3] (by rfl) rfl rfl (by (try simp only [List.map_toArray, List.map_cons, List.map_nil]); first | done | rfl | (simp only [List.length_drop, List.length_take]; rfl)) ?_
         with_reducible refine (shardmap_within.calls ((rd_T30 l0 x7_1).f1) 0 3 false _ A10.out).mono ?_
         rintro e w' ⟨rfl, ⟨nd, rfl⟩⟩
         refine ⟨_, rfl, ?_⟩
         refine hK.out _ _ ⟨(blk_cell BK126.out 0).trans rfl, (blk_cell BK126.out 1).trans rfl, (blk_cell BK126.out 2).trans rfl, (blk_cell BK126.out 3).trans rfl⟩ (fun hHeld => ?_)
         clear hK K
         refine norm_ (a' := ?_) ?_ ?_
         rotate_left
         ·show Act.put _ (some 19) _ = _
          simp only [Act.put, List.setIfInBounds_toArray, List.set_cons_zero, List.set_cons_succ, i64_w, i32_w]
          rfl
         refine pure_ (i := 8) (N := some 20) (v := ?_) (a' := ?_) KnaaPx12_9 rfl rfl (any_of HT_.out (by kernel_rfl)) (fun _ _ _ h => h) (Or.inl ⟨by rfl, ?_⟩) ?_ ?_; rotate_left; focus (intro w'; go_simp; with_reducible rfl)
         rotate_left; focus (simp only [Act.put, List.setIfInBounds_toArray, List.set_cons_zero, List.set_cons_succ, i64_w, i32_w]; rfl)
         refine pure_ (i := 9) (N := some 21) (v := ?_) (a' := ?_) KnaaPx12_10 rfl rfl (any_of HT_.out (by kernel_rfl)) (fun _ _ _ h => h) (Or.inl ⟨by rfl, ?_⟩) ?_ ?_; rotate_left; focus (intro w'; go_simp; with_reducible rfl)
         rotate_left; focus (simp only [Act.put, List.setIfInBounds_toArray, List.set_cons_zero, List.set_cons_succ, i64_w, i32_w]; rfl)
         refine pure_ (i := 10) (N := some 22) (v := ?_) (a' := ?_) KnaaPx12_11 rfl rfl (any_of HT_.out (by kernel_rfl)) (fun _ _ _ h => h) (Or.inl ⟨by rfl, ?_⟩) ?_ ?_; rotate_left; focus (intro w'; go_simp; with_reducible rfl)
         rotate_left; focus (simp only [Act.put, List.setIfInBounds_toArray, List.set_cons_zero, List.set_cons_succ, i64_w, i32_w]; rfl)
         refine pure_ (i := 11) (N := some 23) (v := undef) (a' := ?_) KnaaPx12_12 rfl rfl (any_of HT_.out (by kernel_rfl)) (fun _ _ _ h => h) (Or.inr ⟨by rfl, rfl⟩) ?_ ?_; rotate_left; focus (simp only [Act.put, List.setIfInBounds_toArray, List.set_cons_zero, List.set_cons_succ, i64_w, i32_w]; rfl)
         refine pure_ (i := 12) (N := some 24) (v := undef) (a' := ?_) KnaaPx12_13 rfl rfl (any_of HT_.out (by kernel_rfl)) (fun _ _ _ h => h) (Or.inr ⟨by rfl, rfl⟩) ?_ ?_; rotate_left; focus (simp only [Act.put, List.setIfInBounds_toArray, List.set_cons_zero, List.set_cons_succ, i64_w, i32_w]; rfl)
         refine pure_ (i := 13) (N := some 25) (v := undef) (a' := ?_) KnaaPx12_14 rfl rfl (any_of HT_.out (by kernel_rfl)) (fun _ _ _ h => h) (Or.inr ⟨by rfl, rfl⟩) ?_ ?_; rotate_left; focus (simp only [Act.put, List.setIfInBounds_toArray, List.set_cons_zero, List.set_cons_succ, i64_w, i32_w]; rfl)
         refine pure_ (i := 14) (N := some 26) (v := undef) (a' := ?_) KnaaPx12_15 rfl rfl (any_of HT_.out (by kernel_rfl)) (fun _ _ _ h => h) (Or.inr ⟨by rfl, rfl⟩) ?_ ?_; rotate_left; focus (simp only [Act.put, List.setIfInBounds_toArray, List.set_cons_zero, List.set_cons_succ, i64_w, i32_w]; rfl)
         refine pure_ (i := 15) (N := some 27) (v := ?_) (a' := ?_) KnaaPx12_16 rfl rfl (any_of HT_.out (by kernel_rfl)) (fun _ _ _ h => h) (Or.inl ⟨by rfl, ?_⟩) ?_ ?_; rotate_left; focus (intro w'; go_simp; with_reducible rfl)
         rotate_left; focus (simp only [Act.put, List.setIfInBounds_toArray, List.set_cons_zero, List.set_cons_succ, i64_w, i32_w]; rfl)
         refine pure_ (i := 16) (N := some 28) (v := ?_) (a' := ?_) KnaaPx12_17 rfl rfl (any_of HT_.out (by kernel_rfl)) (fun _ _ _ h => h) (Or.inl ⟨by rfl, ?_⟩) ?_ ?_; rotate_left; focus (intro w'; go_simp; with_reducible rfl)
         rotate_left; focus (simp only [Act.put, List.setIfInBounds_toArray, List.set_cons_zero, List.set_cons_succ, i64_w, i32_w]; rfl)
         refine pure_ (i := 17) (N := some 29) (v := undef) (a' := ?_) KnaaPx12_18 rfl rfl (any_of HT_.out (by kernel_rfl)) (fun _ _ _ h => h) (Or.inr ⟨by rfl, rfl⟩) ?_ ?_; rotate_left; focus (simp only [Act.put, List.setIfInBounds_toArray, List.set_cons_zero, List.set_cons_succ, i64_w, i32_w]; rfl)
         refine pure_ (i := 18) (N := some 30) (v := undef) (a' := ?_) KnaaPx12_19 rfl rfl (any_of HT_.out (by kernel_rfl)) (fun _ _ _ h => h) (Or.inr ⟨by rfl, rfl⟩) ?_ ?_; rotate_left; focus (simp only [Act.put, List.setIfInBounds_toArray, List.set_cons_zero, List.set_cons_succ, i64_w, i32_w]; rfl)
         refine pure_ (i := 19) (N := some 31) (v := undef) (a' := ?_) KnaaPx12_20 rfl rfl (any_of HT_.out (by kernel_rfl)) (fun _ _ _ h => h) (Or.inr ⟨by rfl, rfl⟩) ?_ ?_; rotate_left; focus (simp only [Act.put, List.setIfInBounds_toArray, List.set_cons_zero, List.set_cons_succ, i64_w, i32_w]; rfl)
         refine pure_ (i := 20) (N := some 32) (v := undef) (a' := ?_) KnaaPx12_21 rfl rfl (any_of HT_.out (by kernel_rfl)) (fun _ _ _ h => h) (Or.inr ⟨by rfl, rfl⟩) ?_ ?_; rotate_left; focus (simp only [Act.put, List.setIfInBounds_toArray, List.set_cons_zero, List.set_cons_succ, i64_w, i32_w]; rfl)
         refine pure_ (i := 21) (N := some 33) (v := undef) (a' := ?_) KnaaPx12_22 rfl rfl (any_of HT_.out (by kernel_rfl)) (fun _ _ _ h => h) (Or.inr ⟨by rfl, rfl⟩) ?_ ?_; rotate_left; focus (simp only [Act.put, List.setIfInBounds_toArray, List.set_cons_zero, List.set_cons_succ, i64_w, i32_w]; rfl)
         refine pure_ (i := 22) (N := some 34) (v := undef) (a' := ?_) KnaaPx12_23 rfl rfl (any_of HT_.out (by kernel_rfl)) (fun _ _ _ h => h) (Or.inr ⟨by rfl, rfl⟩) ?_ ?_; rotate_left; focus (simp only [Act.put, List.setIfInBounds_toArray, List.set_cons_zero, List.set_cons_succ, i64_w, i32_w]; rfl)
         refine pure_ (i := 23) (N := some 35) (v := undef) (a' := ?_) KnaaPx12_24 rfl rfl (any_of HT_.out (by kernel_rfl)) (fun _ _ _ h => h) (Or.inr ⟨by rfl, rfl⟩) ?_ ?_; rotate_left; focus (simp only [Act.put, List.setIfInBounds_toArray, List.set_cons_zero, List.set_cons_succ, i64_w, i32_w]; rfl)
         refine pure_ (i := 24) (N := some 36) (v := undef) (a' := ?_) KnaaPx12_25 rfl rfl (any_of HT_.out (by kernel_rfl)) (fun _ _ _ h => h) (Or.inr ⟨by rfl, rfl⟩) ?_ ?_; rotate_left; focus (simp only [Act.put, List.setIfInBounds_toArray, List.set_cons_zero, List.set_cons_succ, i64_w, i32_w]; rfl)
         refine pure_ (i := 25) (N := some 37) (v := undef) (a' := ?_) KnaaPx12_33 rfl rfl (any_of HT_.out (by kernel_rfl)) (fun _ _ _ h => h) (Or.inr ⟨by rfl, rfl⟩) ?_ ?_; rotate_left; focus (simp only [Act.put, List.setIfInBounds_toArray, List.set_cons_zero, List.set_cons_succ, i64_w, i32_w]; rfl)
         refine pure_ (i := 26) (N := some 38) (v := undef) (a' := ?_) KnaaPx12_27 rfl rfl (any_of HT_.out (by kernel_rfl)) (fun _ _ _ h => h) (Or.inr ⟨by rfl, rfl⟩) ?_ ?_; rotate_left; focus (simp only [Act.put, List.setIfInBounds_toArray, List.set_cons_zero, List.set_cons_succ, i64_w, i32_w]; rfl)
         refine pure_ (i := 27) (N := some 39) (v := undef) (a' := ?_) KnaaPx12_28 rfl rfl (any_of HT_.out (by kernel_rfl)) (fun _ _ _ h => h) (Or.inr ⟨by rfl, rfl⟩) ?_ ?_; rotate_left; focus (simp only [Act.put, List.setIfInBounds_toArray, List.set_cons_zero, List.set_cons_succ, i64_w, i32_w]; rfl)
         refine pure_ (i := 28) (N := some 40) (v := undef) (a' := ?_) KnaaPx12_29 rfl rfl (any_of HT_.out (by kernel_rfl)) (fun _ _ _ h => h) (Or.inr ⟨by rfl, rfl⟩) ?_ ?_; rotate_left; focus (simp only [Act.put, List.setIfInBounds_toArray, List.set_cons_zero, List.set_cons_succ, i64_w, i32_w]; rfl)
         refine pure_ (i := 29) (N := some 41) (v := undef) (a' := ?_) KnaaPx12_30 rfl rfl (any_of HT_.out (by kernel_rfl)) (fun _ _ _ h => h) (Or.inr ⟨by rfl, rfl⟩) ?_ ?_; rotate_left; focus (simp only [Act.put, List.setIfInBounds_toArray, List.set_cons_zero, List.set_cons_succ, i64_w, i32_w]; rfl)
         refine pure_ (i := 30) (N := some 42) (v := undef) (a' := ?_) KnaaPx12_31 rfl rfl (any_of HT_.out (by kernel_rfl)) (fun _ _ _ h => h) (Or.inr ⟨by rfl, rfl⟩) ?_ ?_; rotate_left; focus (simp only [Act.put, List.setIfInBounds_toArray, List.set_cons_zero, List.set_cons_succ, i64_w, i32_w]; rfl)
         refine pure_ (i := 31) (N := some 43) (v := ?_) (a' := ?_) KnaaPx12_32 rfl rfl (any_of HT_.out (by kernel_rfl)) (fun _ _ _ h => h) (Or.inl ⟨by rfl, ?_⟩) ?_ ?_; rotate_left; focus (intro w'; go_simp; with_reducible rfl)
         rotate_left; focus (simp only [Act.put, List.setIfInBounds_toArray, List.set_cons_zero, List.set_cons_succ, i64_w, i32_w]; rfl)
         refine done_ (done_of HT_.out (by kernel_rfl)) ?_
         try go_wp2
         go_meet
         case rel => exact ⟨_, (true), (by first | rfl | (simp; done) | (simp [*]; done)), H', ⟨by have := HK1.out; first | omega | exact Nat.le_refl _⟩, ⟨by exact bk_ BK126.out⟩, ⟨by repeat (first | (with_reducible first | exact HB.out | apply below_alloc | apply pw_below_drewN | apply below_drew1 | refine below_set ?_ GE126.out) | exact HB.out)⟩⟩
       ·replace c9 := Bool.eq_false_iff.mpr c9
        subst c9
        have H1 : (shardmap_fine.j1 k1 l0 l0 (l0.length : Int) x7_1 true) = some r := by rw [if_neg (show ¬ (false = true) by decide)] at H; exact H
        clear H
        have H := H1
        clear H1
        have H' := Aside0.mk H
        clear H
        try go_wp2
        have n0_ : Aside0 (((((w6.setCell ⟨gb126, 0, none⟩ (.int .i64 ((rd_T30 l0 x7_1).f0.f0))).setCell ⟨gb126, 1, none⟩ (.int .i64 ((rd_T30 l0 x7_1).f0.f1))).setCell ⟨gb126, 2, none⟩ (.int .i64 ((rd_T30 l0 x7_1).f1))).setCell ⟨gb126, 3, none⟩ (.int .i64 ((rd_T30 l0 x7_1).f2))).heap[gb126]? = some (.cells #[.int .i64 ((rd_T30 l0 x7_1).f0.f0), .int .i64 ((rd_T30 l0 x7_1).f0.f1), .int .i64 ((rd_T30 l0 x7_1).f1), .int .i64 ((rd_T30 l0 x7_1).f2)] 30 (0, 0))) := ⟨by (with_reducible repeat (first | refine blk_drewN ?_ _ | refine blk_drew ?_ | refine blk_alloc ?_ _)); refine blk_put (cs := #[.int .i64 ((rd_T30 l0 x7_1).f0.f0), .int .i64 ((rd_T30 l0 x7_1).f0.f1), .int .i64 ((rd_T30 l0 x7_1).f1), .int .i64 0]) ?_ 3 _ rfl; (with_reducible repeat (first | refine blk_drewN ?_ _ | refine blk_drew ?_ | refine blk_alloc ?_ _)); refine blk_put (cs := #[.int .i64 ((rd_T30 l0 x7_1).f0.f0), .int .i64 ((rd_T30 l0 x7_1).f0.f1), .int .i64 0, .int .i64 0]) ?_ 2 _ rfl; (with_reducible repeat (first | refine blk_drewN ?_ _ | refine blk_drew ?_ | refine blk_alloc ?_ _)); refine blk_put (cs := #[.int .i64 ((rd_T30 l0 x7_1).f0.f0), .int .i64 0, .int .i64 0, .int .i64 0]) ?_ 1 _ rfl; (with_reducible repeat (first | refine blk_drewN ?_ _ | refine blk_drew ?_ | refine blk_alloc ?_ _)); refine blk_put (cs := #[.int .i64 0, .int .i64 0, .int .i64 0, .int .i64 0]) ?_ 0 _ rfl; exact bk_ BK126.out⟩
        have n1_ : Aside0 (Below w.heap.size w ((((w6.setCell ⟨gb126, 0, none⟩ (.int .i64 ((rd_T30 l0 x7_1).f0.f0))).setCell ⟨gb126, 1, none⟩ (.int .i64 ((rd_T30 l0 x7_1).f0.f1))).setCell ⟨gb126, 2, none⟩ (.int .i64 ((rd_T30 l0 x7_1).f1))).setCell ⟨gb126, 3, none⟩ (.int .i64 ((rd_T30 l0 x7_1).f2)))) := ⟨by repeat (first | (with_reducible first | exact HB.out | apply below_alloc | apply pw_below_drewN | apply below_drew1 | refine below_set ?_ GE126.out) | exact HB.out)⟩
        (try clear BK126)
        (try clear HB)
        generalize ((((w6.setCell ⟨gb126, 0, none⟩ (.int .i64 ((rd_T30 l0 x7_1).f0.f0))).setCell ⟨gb126, 1, none⟩ (.int .i64 ((rd_T30 l0 x7_1).f0.f1))).setCell ⟨gb126, 2, none⟩ (.int .i64 ((rd_T30 l0 x7_1).f1))).setCell ⟨gb126, 3, none⟩ (.int .i64 ((rd_T30 l0 x7_1).f2))) = w32 at n0_ n1_ ⊢
        have BK126 := n0_
        have HB := n1_
        clear n0_ n1_
        have n0_ := Aside0.mk (blk_drew BK126.out)
        have n1_ := Aside0.mk (below_drew1 HB.out)
        clear BK126
        clear HB
        have BK126 := n0_
        have HB := n1_
        clear n0_ n1_
        refine start_ (n := 32) (S := fun w' => w'.cell? ⟨gb126, 0, none⟩ = some (.int .i64 ((rd_T30 l0 x7_1).f0.f0)) ∧ w'.cell? ⟨gb126, 1, none⟩ = some (.int .i64 ((rd_T30 l0 x7_1).f0.f1)) ∧ w'.cell? ⟨gb126, 2, none⟩ = some (.int .i64 ((rd_T30 l0 x7_1).f1)) ∧ w'.cell? ⟨gb126, 3, none⟩ = some (.int .i64 ((rd_T30 l0 x7_1).f2))) (ds := []) KnaaPx12_0 (by kernel_rfl) rfl rfl ⟨(blk_cell BK126.out 0).trans rfl, (blk_cell BK126.out 1).trans rfl, (blk_cell BK126.out 2).trans rfl, (blk_cell BK126.out 3).trans rfl⟩ (fun hHeld => ?_); refine with_tabW shardmap_fine.tab4 shardmap_fine.bits4 (fun HT_ HW_ => ?_)
        generalize w32.drew = w33 at BK126 HB hHeld ⊢
        refine pure_ (i := 0) (N := some 12) (v := ?_) (a' := ?_) KnaaPx12_1 rfl rfl (any_of HT_.out (by kernel_rfl)) (fun _ _ _ h => h) (Or.inl ⟨by rfl, ?_⟩) ?_ ?_; rotate_left; focus (intro w'; go_simp; with_reducible rfl)
        rotate_left; focus (simp only [Act.put, List.setIfInBounds_toArray, List.set_cons_zero, List.set_cons_succ, i64_w, i32_w]; rfl)
        refine take_ (i := 1) (N := some 13) (v := ?_) (a' := ?_) KnaaPx12_2 rfl rfl (take_ofW HT_.out HW_.out (by kernel_rfl)) (fun _ _ _ h => h) (Or.inl ⟨by rfl, ?_⟩) hHeld ?_ ?_; rotate_left; focus (rintro w' ⟨s0, s1, s2, s3⟩; go_simp; with_reducible rfl)
        rotate_left; focus (simp only [Act.put, List.setIfInBounds_toArray, List.set_cons_zero, List.set_cons_succ, i64_w, i32_w]; rfl)
        refine one_ (i := 2) (N := some 14) KnaaPx12_3 rfl rfl (one_of HT_.out (by kernel_rfl)) (by decide) (fun K hK => ?_)
        refine goes_ Try.func17 (by kernel_rfl) rfl #[.agg #[.int .i64 ((rd_T30 l0 x7_1).f0.f0), .int .i64 ((rd_T30 l0 x7_1).f0.f1)]] (by rfl) rfl rfl (by (try simp only [List.map_toArray, List.map_cons, List.map_nil]); first | done | rfl | (simp only [List.length_drop, List.length_take]; rfl)) ?_
        with_reducible refine (shardmap_isKey.calls ((rd_T30 l0 x7_1).f0.f0) ((rd_T30 l0 x7_1).f0.f1) false _ A8.out).mono ?_
        rintro e w34 ⟨rfl, hb⟩
        refine ⟨_, rfl, ?_⟩
        have n0_ := Aside0.mk (blk_below (g := gb126) (o := .cells #[.int .i64 ((rd_T30 l0 x7_1).f0.f0), .int .i64 ((rd_T30 l0 x7_1).f0.f1), .int .i64 ((rd_T30 l0 x7_1).f1), .int .i64 ((rd_T30 l0 x7_1).f2)] 30 (0, 0)) (by exact bk_ BK126.out) hb)
        have n1_ := Aside0.mk (below_step (by repeat (first | (with_reducible first | exact HB.out | apply below_alloc | apply pw_below_drewN | apply below_drew1 | refine below_set ?_ GE126.out) | exact HB.out)) hb)
        clear BK126
        clear HB
        have BK126 := n0_
        have HB := n1_
        clear n0_ n1_
        (try clear hb)
        (try clear hb2)
        (try clear hk)
        (try clear hi)
        refine hK.out _ _ ⟨(blk_cell BK126.out 0).trans rfl, (blk_cell BK126.out 1).trans rfl, (blk_cell BK126.out 2).trans rfl, (blk_cell BK126.out 3).trans rfl⟩ (fun hHeld => ?_)
        clear hK K
        refine norm_ (a' := ?_) ?_ ?_
        rotate_left
        ·show Act.put _ (some 14) _ = _
         simp only [Act.put, List.setIfInBounds_toArray, List.set_cons_zero, List.set_cons_succ, i64_w, i32_w]
         rfl
        refine pure_ (i := 3) (N := some 15) (v := ?_) (a' := ?_) KnaaPx12_4 rfl rfl (any_of HT_.out (by kernel_rfl)) (fun _ _ _ h => h) (Or.inl ⟨by rfl, ?_⟩) ?_ ?_; rotate_left; focus (intro w'; go_simp; with_reducible rfl)
        rotate_left; focus (simp only [Act.put, List.setIfInBounds_toArray, List.set_cons_zero, List.set_cons_succ, i64_w, i32_w]; rfl)
        refine pure_ (i := 4) (N := some 16) (v := ?_) (a' := ?_) KnaaPx12_5 rfl rfl (any_of HT_.out (by kernel_rfl)) (fun _ _ _ h => h) (Or.inl ⟨by rfl, ?_⟩) ?_ ?_; rotate_left; focus (intro w'; go_simp; with_reducible rfl)
        rotate_left; focus (simp only [Act.put, List.setIfInBounds_toArray, List.set_cons_zero, List.set_cons_succ, i64_w, i32_w]; rfl)
        refine pure_ (i := 5) (N := some 17) (v := undef) (a' := ?_) KnaaPx12_6 rfl rfl (any_of HT_.out (by kernel_rfl)) (fun _ _ _ h => h) (Or.inr ⟨by rfl, rfl⟩) ?_ ?_; rotate_left; focus (simp only [Act.put, List.setIfInBounds_toArray, List.set_cons_zero, List.set_cons_succ, i64_w, i32_w]; rfl)
        refine pure_ (i := 6) (N := some 18) (v := undef) (a' := ?_) KnaaPx12_7 rfl rfl (any_of HT_.out (by kernel_rfl)) (fun _ _ _ h => h) (Or.inr ⟨by rfl, rfl⟩) ?_ ?_; rotate_left; focus (simp only [Act.put, List.setIfInBounds_toArray, List.set_cons_zero, List.set_cons_succ, i64_w, i32_w]; rfl)
        refine pure_ (i := 7) (N := some 19) (v := undef) (a' := ?_) KnaaPx12_8 rfl rfl (any_of HT_.out (by kernel_rfl)) (fun _ _ _ h => h) (Or.inr ⟨by rfl, rfl⟩) ?_ ?_; rotate_left; focus (simp only [Act.put, List.setIfInBounds_toArray, List.set_cons_zero, List.set_cons_succ, i64_w, i32_w]; rfl)
        refine pure_ (i := 8) (N := some 20) (v := undef) (a' := ?_) KnaaPx12_9 rfl rfl (any_of HT_.out (by kernel_rfl)) (fun _ _ _ h => h) (Or.inr ⟨by rfl, rfl⟩) ?_ ?_; rotate_left; focus (simp only [Act.put, List.setIfInBounds_toArray, List.set_cons_zero, List.set_cons_succ, i64_w, i32_w]; rfl)
        refine pure_ (i := 9) (N := some 21) (v := ?_) (a' := ?_) KnaaPx12_10 rfl rfl (any_of HT_.out (by kernel_rfl)) (fun _ _ _ h => h) (Or.inl ⟨by rfl, ?_⟩) ?_ ?_; rotate_left; focus (intro w'; go_simp; with_reducible rfl)
        rotate_left; focus (simp only [Act.put, List.setIfInBounds_toArray, List.set_cons_zero, List.set_cons_succ, i64_w, i32_w]; rfl)
        refine pure_ (i := 10) (N := some 22) (v := ?_) (a' := ?_) KnaaPx12_11 rfl rfl (any_of HT_.out (by kernel_rfl)) (fun _ _ _ h => h) (Or.inl ⟨by rfl, ?_⟩) ?_ ?_; rotate_left; focus (intro w'; go_simp; with_reducible rfl)
        rotate_left; focus (simp only [Act.put, List.setIfInBounds_toArray, List.set_cons_zero, List.set_cons_succ, i64_w, i32_w]; rfl)
        refine pure_ (i := 11) (N := some 23) (v := undef) (a' := ?_) KnaaPx12_12 rfl rfl (any_of HT_.out (by kernel_rfl)) (fun _ _ _ h => h) (Or.inr ⟨by rfl, rfl⟩) ?_ ?_; rotate_left; focus (simp only [Act.put, List.setIfInBounds_toArray, List.set_cons_zero, List.set_cons_succ, i64_w, i32_w]; rfl)
        refine pure_ (i := 12) (N := some 24) (v := undef) (a' := ?_) KnaaPx12_13 rfl rfl (any_of HT_.out (by kernel_rfl)) (fun _ _ _ h => h) (Or.inr ⟨by rfl, rfl⟩) ?_ ?_; rotate_left; focus (simp only [Act.put, List.setIfInBounds_toArray, List.set_cons_zero, List.set_cons_succ, i64_w, i32_w]; rfl)
        refine pure_ (i := 13) (N := some 25) (v := undef) (a' := ?_) KnaaPx12_14 rfl rfl (any_of HT_.out (by kernel_rfl)) (fun _ _ _ h => h) (Or.inr ⟨by rfl, rfl⟩) ?_ ?_; rotate_left; focus (simp only [Act.put, List.setIfInBounds_toArray, List.set_cons_zero, List.set_cons_succ, i64_w, i32_w]; rfl)
        refine pure_ (i := 14) (N := some 26) (v := undef) (a' := ?_) KnaaPx12_15 rfl rfl (any_of HT_.out (by kernel_rfl)) (fun _ _ _ h => h) (Or.inr ⟨by rfl, rfl⟩) ?_ ?_; rotate_left; focus (simp only [Act.put, List.setIfInBounds_toArray, List.set_cons_zero, List.set_cons_succ, i64_w, i32_w]; rfl)
        refine pure_ (i := 15) (N := some 27) (v := ?_) (a' := ?_) KnaaPx12_16 rfl rfl (any_of HT_.out (by kernel_rfl)) (fun _ _ _ h => h) (Or.inl ⟨by rfl, ?_⟩) ?_ ?_; rotate_left; focus (intro w'; go_simp; with_reducible rfl)
        rotate_left; focus (simp only [Act.put, List.setIfInBounds_toArray, List.set_cons_zero, List.set_cons_succ, i64_w, i32_w]; rfl)
        refine pure_ (i := 16) (N := some 28) (v := ?_) (a' := ?_) KnaaPx12_17 rfl rfl (any_of HT_.out (by kernel_rfl)) (fun _ _ _ h => h) (Or.inl ⟨by rfl, ?_⟩) ?_ ?_; rotate_left; focus (intro w'; go_simp; with_reducible rfl)
        rotate_left; focus (simp only [Act.put, List.setIfInBounds_toArray, List.set_cons_zero, List.set_cons_succ, i64_w, i32_w]; rfl)
        refine pure_ (i := 17) (N := some 29) (v := undef) (a' := ?_) KnaaPx12_18 rfl rfl (any_of HT_.out (by kernel_rfl)) (fun _ _ _ h => h) (Or.inr ⟨by rfl, rfl⟩) ?_ ?_; rotate_left; focus (simp only [Act.put, List.setIfInBounds_toArray, List.set_cons_zero, List.set_cons_succ, i64_w, i32_w]; rfl)
        refine pure_ (i := 18) (N := some 30) (v := undef) (a' := ?_) KnaaPx12_19 rfl rfl (any_of HT_.out (by kernel_rfl)) (fun _ _ _ h => h) (Or.inr ⟨by rfl, rfl⟩) ?_ ?_; rotate_left; focus (simp only [Act.put, List.setIfInBounds_toArray, List.set_cons_zero, List.set_cons_succ, i64_w, i32_w]; rfl)
        refine pure_ (i := 19) (N := some 31) (v := undef) (a' := ?_) KnaaPx12_20 rfl rfl (any_of HT_.out (by kernel_rfl)) (fun _ _ _ h => h) (Or.inr ⟨by rfl, rfl⟩) ?_ ?_; rotate_left; focus (simp only [Act.put, List.setIfInBounds_toArray, List.set_cons_zero, List.set_cons_succ, i64_w, i32_w]; rfl)
        refine pure_ (i := 20) (N := some 32) (v := undef) (a' := ?_) KnaaPx12_21 rfl rfl (any_of HT_.out (by kernel_rfl)) (fun _ _ _ h => h) (Or.inr ⟨by rfl, rfl⟩) ?_ ?_; rotate_left; focus (simp only [Act.put, List.setIfInBounds_toArray, List.set_cons_zero, List.set_cons_succ, i64_w, i32_w]; rfl)
        refine pure_ (i := 21) (N := some 33) (v := undef) (a' := ?_) KnaaPx12_22 rfl rfl (any_of HT_.out (by kernel_rfl)) (fun _ _ _ h => h) (Or.inr ⟨by rfl, rfl⟩) ?_ ?_; rotate_left; focus (simp only [Act.put, List.setIfInBounds_toArray, List.set_cons_zero, List.set_cons_succ, i64_w, i32_w]; rfl)
        refine pure_ (i := 22) (N := some 34) (v := undef) (a' := ?_) KnaaPx12_23 rfl rfl (any_of HT_.out (by kernel_rfl)) (fun _ _ _ h => h) (Or.inr ⟨by rfl, rfl⟩) ?_ ?_; rotate_left; focus (simp only [Act.put, List.setIfInBounds_toArray, List.set_cons_zero, List.set_cons_succ, i64_w, i32_w]; rfl)
        refine pure_ (i := 23) (N := some 35) (v := undef) (a' := ?_) KnaaPx12_24 rfl rfl (any_of HT_.out (by kernel_rfl)) (fun _ _ _ h => h) (Or.inr ⟨by rfl, rfl⟩) ?_ ?_; rotate_left; focus (simp only [Act.put, List.setIfInBounds_toArray, List.set_cons_zero, List.set_cons_succ, i64_w, i32_w]; rfl)
        refine pure_ (i := 24) (N := some 36) (v := undef) (a' := ?_) KnaaPx12_25 rfl rfl (any_of HT_.out (by kernel_rfl)) (fun _ _ _ h => h) (Or.inr ⟨by rfl, rfl⟩) ?_ ?_; rotate_left; focus (simp only [Act.put, List.setIfInBounds_toArray, List.set_cons_zero, List.set_cons_succ, i64_w, i32_w]; rfl)
        refine pure_ (i := 25) (N := some 37) (v := undef) (a' := ?_) KnaaPx12_33 rfl rfl (any_of HT_.out (by kernel_rfl)) (fun _ _ _ h => h) (Or.inr ⟨by rfl, rfl⟩) ?_ ?_; rotate_left; focus (simp only [Act.put, List.setIfInBounds_toArray, List.set_cons_zero, List.set_cons_succ, i64_w, i32_w]; rfl)
        refine pure_ (i := 26) (N := some 38) (v := undef) (a' := ?_) KnaaPx12_27 rfl rfl (any_of HT_.out (by kernel_rfl)) (fun _ _ _ h => h) (Or.inr ⟨by rfl, rfl⟩) ?_ ?_; rotate_left; focus (simp only [Act.put, List.setIfInBounds_toArray, List.set_cons_zero, List.set_cons_succ, i64_w, i32_w]; rfl)
        refine pure_ (i := 27) (N := some 39) (v := undef) (a' := ?_) KnaaPx12_28 rfl rfl (any_of HT_.out (by kernel_rfl)) (fun _ _ _ h => h) (Or.inr ⟨by rfl, rfl⟩) ?_ ?_; rotate_left; focus (simp only [Act.put, List.setIfInBounds_toArray, List.set_cons_zero, List.set_cons_succ, i64_w, i32_w]; rfl)
        refine pure_ (i := 28) (N := some 40) (v := undef) (a' := ?_) KnaaPx12_29 rfl rfl (any_of HT_.out (by kernel_rfl)) (fun _ _ _ h => h) (Or.inr ⟨by rfl, rfl⟩) ?_ ?_; rotate_left; focus (simp only [Act.put, List.setIfInBounds_toArray, List.set_cons_zero, List.set_cons_succ, i64_w, i32_w]; rfl)
        refine pure_ (i := 29) (N := some 41) (v := undef) (a' := ?_) KnaaPx12_30 rfl rfl (any_of HT_.out (by kernel_rfl)) (fun _ _ _ h => h) (Or.inr ⟨by rfl, rfl⟩) ?_ ?_; rotate_left; focus (simp only [Act.put, List.setIfInBounds_toArray, List.set_cons_zero, List.set_cons_succ, i64_w, i32_w]; rfl)
        refine pure_ (i := 30) (N := some 42) (v := undef) (a' := ?_) KnaaPx12_31 rfl rfl (any_of HT_.out (by kernel_rfl)) (fun _ _ _ h => h) (Or.inr ⟨by rfl, rfl⟩) ?_ ?_; rotate_left; focus (simp only [Act.put, List.setIfInBounds_toArray, List.set_cons_zero, List.set_cons_succ, i64_w, i32_w]; rfl)
        refine pure_ (i := 31) (N := some 43) (v := ?_) (a' := ?_) KnaaPx12_32 rfl rfl (any_of HT_.out (by kernel_rfl)) (fun _ _ _ h => h) (Or.inl ⟨by rfl, ?_⟩) ?_ ?_; rotate_left; focus (intro w'; go_simp; with_reducible rfl)
        rotate_left; focus (simp only [Act.put, List.setIfInBounds_toArray, List.set_cons_zero, List.set_cons_succ, i64_w, i32_w]; rfl)
        refine done_ (done_of HT_.out (by kernel_rfl)) ?_
        try go_wp2
        go_meet
        case rel => exact ⟨_, (true), (by first | rfl | (simp; done) | (simp [*]; done)), H', ⟨by have := HK1.out; first | omega | exact Nat.le_refl _⟩, ⟨by exact bk_ BK126.out⟩, ⟨by repeat (first | (with_reducible first | exact HB.out | apply below_alloc | apply pw_below_drewN | apply below_drew1 | refine below_set ?_ GE126.out) | exact HB.out)⟩⟩
      case rest =>
       clear HC5
       try clear c1
       try clear p2
       try clear c9
       try clear c11
       try clear c17
       try clear c18
       obtain ⟨kq, x43_4, rfl, HA, HJ4, BK126, HB⟩ := hcut
       cases kq with
       | zero => exact absurd HA.out (by simp [shardmap_fine.j1])
       | succ kj4 =>
        have H := HA.out
        clear HA
        simp only [shardmap_fine.j1] at H
        by_cases c35 : x43_4 = true
        ·subst c35
         have H1 : (some false) = some r := by rw [if_pos rfl] at H; exact H
         clear H
         have H := H1
         clear H1
         obtain rfl := Option.some.inj H
         go_wp2
         go_ret
         exact ⟨by first | rfl | (simp [errW_none, errW_some] <;> rfl) | (simp [*, errW_none, errW_some] <;> rfl), by repeat (first | (with_reducible first | exact HB.out | apply below_alloc | apply pw_below_drewN | apply below_drew1 | refine below_set ?_ GE126.out) | exact HB.out)⟩
        ·replace c35 := Bool.eq_false_iff.mpr c35
         subst c35
         have H1 : (shardmap_fine.l0 kj4 l0 l0 (l0.length : Int) (wrap64 (x7_1 + 1))) = some r := by rw [if_neg (show ¬ (false = true) by decide)] at H; exact H
         clear H
         have H := H1
         clear H1
         have H' := Aside0.mk H
         clear H
         go_wp2
         go_roundg kj4
         case measure => have := HK1.out; have := HJ4.out; omega
         case rel => exact ⟨(wrap64 (x7_1 + 1)), (by first | rfl | (simp; done) | (simp [*]; done)), H', ⟨by have := HK1.out; have := HJ4.out; omega⟩, ⟨by repeat (first | (with_reducible first | exact HB.out | apply below_alloc | apply pw_below_drewN | apply below_drew1 | refine below_set ?_ GE126.out) | exact HB.out)⟩⟩
     ·rw [if_neg c4] at H
      exact absurd H (by simp)
    ·rw [if_neg c3] at H
     exact absurd H (by simp)
   ·rw [if_neg c2] at H
    have c2b0 : decide (x7_1 < (l0.length : Int)) = false := decide_eq_false c2
    clear c2
    obtain rfl := Option.some.inj H
    go_wp2
    go_ret
    exact ⟨by first | rfl | (simp [errW_none, errW_some] <;> rfl) | (simp [*, errW_none, errW_some] <;> rfl), by exact bl_ HB.out⟩

end Go.Proofs.Ythflfekhanjlnaa.P
