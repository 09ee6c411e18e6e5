/- Functions that the laws reach, told as plain functions, each with a proof that the call computes it; for every input. Written by a program of ours out of the translation. -/
import Derived.Test.YthblegfihenflaaPx0
import Derived.Test.YthblegfihenflaaPx19
import Derived.Test.YthblegfihenflaaPx21
namespace Go.Proofs.Ythblegfihenflaa.P
open Go.RowKit Go.Proofs.YthblegfihenflaaW.PrintWords Go.Proofs.YthblegfihenflaaW.PrintLast Go.Proofs.YthblegfihenflaaW.PrintMore
open Go.Proofs.YthblegfihenflaaG (bk_ bl_ rk_)
attribute [local go_sem] max2_int min2_int max_two min_two max_three min_three max_four min_four   -- for this text's walks alone
set_option linter.unusedVariables false
set_option linter.unusedSimpArgs false

/-! ### rialtoref12_Total: function 23 -/
mutual
def rialtoref12_Total.l0 : Nat → List (S24) → Int → Option ((List (S31)) × Int)
 | 0, _, _ => none
 | k + 1, x0, x4 => if x4 < (x0.length : Int) then (if 0 ≤ x4 then ((rialtoref12_Check.f k ((rd_T24 x0 x4).f0) ((rd_T24 x0 x4).f1)).bind fun t211 => (if t211 = 0 then (rialtoref12_Total.l0 k x0 (wrap64 (x4 + 1))) else (some (([] : List (S31)), 120)))) else (none)) else (rialtoref12_Total.l1 k x0 ([] : List (S31)) 0)
def rialtoref12_Total.l1 : Nat → List (S24) → List (S31) → Int → Option ((List (S31)) × Int)
 | 0, _, _, _ => none
 | k + 1, x0, x5, x6 => if x6 ≤ 3 then (rialtoref12_Total.l2 k x0 x5 x6 0 0) else (some (x5, 0))
def rialtoref12_Total.l2 : Nat → List (S24) → List (S31) → Int → Int → Int → Option ((List (S31)) × Int)
 | 0, _, _, _, _, _ => none
 | k + 1, x0, x5, x6, x7, x8 => if x8 < (x0.length : Int) then (if 0 ≤ x8 then ((rialtoref12_Balance.f k ((rd_T24 x0 x8).f0) ((rd_T24 x0 x8).f1) x6).bind fun t213 => (rialtoref12_Total.l2 k x0 x5 x6 (wrap64 (x7 + t213)) (wrap64 (x8 + 1)))) else (none)) else (if x7 > 0 then (if x5.length < 8796093022208 then (rialtoref12_Total.l1 k x0 (x5 ++ [(⟨x6, x7⟩ : S31)]) (wrap64 (x6 + 1))) else (none)) else (rialtoref12_Total.l1 k x0 x5 (wrap64 (x6 + 1))))
end
def rialtoref12_Total.f (k : Nat) (l0 : List (S24)) : Option ((List (S31)) × Int) := if (l0.length : Int) > 1000 then (some (([] : List (S31)), 120)) else (rialtoref12_Total.l0 k l0 0)
theorem rialtoref12_Total.mono_l : ∀ k, (∀ y0 y1, LeO (rialtoref12_Total.l0 k y0 y1) (rialtoref12_Total.l0 (k + 1) y0 y1)) ∧ (∀ y0 y1 y2, LeO (rialtoref12_Total.l1 k y0 y1 y2) (rialtoref12_Total.l1 (k + 1) y0 y1 y2)) ∧ (∀ y0 y1 y2 y3 y4, LeO (rialtoref12_Total.l2 k y0 y1 y2 y3 y4) (rialtoref12_Total.l2 (k + 1) y0 y1 y2 y3 y4))
 | 0 => ⟨fun _ _ r h => by simp [rialtoref12_Total.l0] at h, fun _ _ _ r h => by simp [rialtoref12_Total.l1] at h, fun _ _ _ _ _ r h => by simp [rialtoref12_Total.l2] at h⟩
 | k + 1 => by
  obtain ⟨ih0, ih1, ih2⟩ := rialtoref12_Total.mono_l k
  refine ⟨?_, ?_, ?_⟩
  ·intro y0 y1
   unfold rialtoref12_Total.l0
   repeat' first
   | (with_reducible exact ih0 _ _)
   | (with_reducible exact ih1 _ _ _)
   | (with_reducible exact ih2 _ _ _ _ _)
   | (with_reducible exact rialtoref12_Balance.mono _ _ _ _)
   | (with_reducible exact rialtoref12_Check.mono _ _ _)
   | (with_reducible exact LeO.refl _)
   | (with_reducible exact LeO.none _)
   | (with_reducible refine LeO.ite ?_ ?_)
   | (with_reducible refine LeO.bind ?_ (fun _ => ?_))
   | exact ih0 _ _
   | exact ih1 _ _ _
   | exact ih2 _ _ _ _ _
   | exact rialtoref12_Balance.mono _ _ _ _
   | exact rialtoref12_Check.mono _ _ _
   | exact LeO.none _
   | refine LeO.ite ?_ ?_
   | refine LeO.bind ?_ (fun _ => ?_)
  ·intro y0 y1 y2
   unfold rialtoref12_Total.l1
   repeat' first
   | (with_reducible exact ih0 _ _)
   | (with_reducible exact ih1 _ _ _)
   | (with_reducible exact ih2 _ _ _ _ _)
   | (with_reducible exact rialtoref12_Balance.mono _ _ _ _)
   | (with_reducible exact rialtoref12_Check.mono _ _ _)
   | (with_reducible exact LeO.refl _)
   | (with_reducible exact LeO.none _)
   | (with_reducible refine LeO.ite ?_ ?_)
   | (with_reducible refine LeO.bind ?_ (fun _ => ?_))
   | exact ih0 _ _
   | exact ih1 _ _ _
   | exact ih2 _ _ _ _ _
   | exact rialtoref12_Balance.mono _ _ _ _
   | exact rialtoref12_Check.mono _ _ _
   | exact LeO.none _
   | refine LeO.ite ?_ ?_
   | refine LeO.bind ?_ (fun _ => ?_)
  ·intro y0 y1 y2 y3 y4
   unfold rialtoref12_Total.l2
   repeat' first
   | (with_reducible exact ih0 _ _)
   | (with_reducible exact ih1 _ _ _)
   | (with_reducible exact ih2 _ _ _ _ _)
   | (with_reducible exact rialtoref12_Balance.mono _ _ _ _)
   | (with_reducible exact rialtoref12_Check.mono _ _ _)
   | (with_reducible exact LeO.refl _)
   | (with_reducible exact LeO.none _)
   | (with_reducible refine LeO.ite ?_ ?_)
   | (with_reducible refine LeO.bind ?_ (fun _ => ?_))
   | exact ih0 _ _
   | exact ih1 _ _ _
   | exact ih2 _ _ _ _ _
   | exact rialtoref12_Balance.mono _ _ _ _
   | exact rialtoref12_Check.mono _ _ _
   | exact LeO.none _
   | refine LeO.ite ?_ ?_
   | refine LeO.bind ?_ (fun _ => ?_)
theorem rialtoref12_Total.mono : ∀ a0 k, LeO (rialtoref12_Total.f k a0) (rialtoref12_Total.f (k + 1) a0) := by
 intro a0 k
 obtain ⟨ih0, ih1, ih2⟩ := rialtoref12_Total.mono_l k
 unfold rialtoref12_Total.f
 repeat' first
   | (with_reducible exact ih0 _ _)
   | (with_reducible exact ih1 _ _ _)
   | (with_reducible exact ih2 _ _ _ _ _)
   | (with_reducible exact rialtoref12_Balance.mono _ _ _ _)
   | (with_reducible exact rialtoref12_Check.mono _ _ _)
   | (with_reducible exact LeO.refl _)
   | (with_reducible exact LeO.none _)
   | (with_reducible refine LeO.ite ?_ ?_)
   | (with_reducible refine LeO.bind ?_ (fun _ => ?_))
   | exact ih0 _ _
   | exact ih1 _ _ _
   | exact ih2 _ _ _ _ _
   | exact rialtoref12_Balance.mono _ _ _ _
   | exact rialtoref12_Check.mono _ _ _
   | exact LeO.none _
   | refine LeO.ite ?_ ?_
   | refine LeO.bind ?_ (fun _ => ?_)
set_option maxHeartbeats 8000000 in
set_option maxRecDepth 100000 in
theorem rialtoref12_Total.calls (k : Nat) (A0 : Option Addr) (c0 : Nat) (l0 : List (S24)) (r1 : List (S31)) (r2 : Int) (w : World) (hr0 : Kd.C k24 w A0 l0.length l0) (hc0 : l0.length ≤ c0) (h : rialtoref12_Total.f k l0 = some (r1, r2)) :
  Calls Try.prog 23 #[.slice A0 l0.length c0] w fun e w' => ∃ v0_ : Value, e = .returned (.tuple #[v0_, .int .i64 r2]) ∧ Kd.R k31 31 w' w.heap.size (fun _ => True) v0_ r1 ∧ Below w.heap.size w w' := by
 have hu24 := Try.underlying24
 have hu31 := Try.underlying31
 have HR0 := Aside0.mk hr0
 have HC0 := Aside0.mk hc0
 clear hr0 hc0
 have HB := Aside0.mk (Below.refl w.heap.size w)
 have H : (if (l0.length : Int) > 1000 then (some (([] : List (S31)), 120)) else (rialtoref12_Total.l0 k l0 0)) = some (r1, r2) := h
 clear h
 by_cases c2 : (l0.length : Int) > 1000
 ·rw [if_pos c2] at H
  have c2b0 : decide (1000 < (l0.length : Int)) = true := decide_eq_true c2
  have c2b1 : decide (1000 < l0.length) = true := decide_eq_true (by omega)
  clear c2
  simp only [Option.some.injEq, Prod.mk.injEq] at H
  obtain ⟨rfl, rfl⟩ := H
  go_enter Try.func23, Try.ntmps23
  go_wp2
  go_ret2
  exact ⟨_, by first | rfl | (simp [errW_none, errW_some] <;> rfl) | (simp [*, errW_none, errW_some] <;> rfl), by first | exact Kd.R_nil _ _ _ _ _ | exact Kd.N_nil _ _ _ _ _ | exact Kd.V_nil _ _ _ _ _ | exact Kd.Q_nil _ _ _ _ _ | exact Kd.S_nil _ _ _ _ _, by exact bl_ HB.out⟩
 ·rw [if_neg c2] at H
  have c2b0 : decide (1000 < (l0.length : Int)) = false := decide_eq_false c2
  have c2b1 : decide (1000 < l0.length) = false := decide_eq_false (by omega)
  clear c2
  have H' := Aside0.mk H
  clear H
  go_enter Try.func23, Try.ntmps23
  go_wp2
  go_loopg [4] k (fun kq v4 w' => ∃ (x4_1 : Int), v4 = .int .i64 x4_1 ∧ Aside0 (rialtoref12_Total.l0 kq l0 x4_1 = some (r1, r2)) ∧ Aside0 (kq ≤ k) ∧ Aside0 (Below w.heap.size w w'))
  case atStart => exact ⟨(0), (by first | rfl | (simp; done) | (simp [*]; done)), H', ⟨Nat.le_refl _⟩, ⟨by exact bl_ HB.out⟩⟩
  case round =>
   clear H'
   try clear c2
   try clear c2b0
   try clear c2b1
   try clear p2
   obtain ⟨x4_1, rfl, HA, HK1, HB⟩ := hrel
   cases gk with
   | zero => exact absurd HA.out (by simp [rialtoref12_Total.l0])
   | succ k1 =>
    have H := HA.out
    clear HA
    simp only [rialtoref12_Total.l0] at H
    by_cases c3 : x4_1 < (l0.length : Int)
    ·rw [if_pos c3] at H
     have c3b0 : decide (x4_1 < (l0.length : Int)) = true := decide_eq_true c3
     clear c3
     by_cases c4 : 0 ≤ x4_1
     ·rw [if_pos c4] at H
      have c4b0 : decide (0 ≤ x4_1) = true := decide_eq_true c4
      clear c4
      replace H := Option.bind_eq_some_iff.mp H
      obtain ⟨t211, A50, H⟩ := H
      replace H : (if t211 = 0 then (rialtoref12_Total.l0 k1 l0 (wrap64 (x4_1 + 1))) else (some (([] : List (S31)), 120))) = some (r1, r2) := H
      have A5 := Aside0.mk A50
      clear A50
      by_cases c6 : t211 = 0
      ·rw [if_pos c6] at H
       have c6b0 : (t211 == 0) = true := beq_iff_eq.mpr c6
       have c6b1 : (t211 != 0) = false := bne_eq_false_iff_eq.mpr c6
       clear c6
       have H' := Aside0.mk H
       clear H
       have p210 : 0 ≤ (x4_1 : Int) := of_decide_eq_true (by first | (with_reducible assumption) | assumption)
       have q210 : x4_1 < (l0.length : Int) := of_decide_eq_true (by first | (with_reducible assumption) | assumption)
       obtain ⟨ad210, A210_0, c210_0, e210, hx210_0, hx210_1, hl210_0, hi210_0⟩ := at_T24 HR0.out x4_1 p210 q210
       cases e210
       replace hx210_0 := (HB.out.cell (World.block_lt_of_cell? w _ hx210_0)).trans hx210_0
       replace hx210_1 := (HB.out.cell (World.block_lt_of_cell? w _ hx210_1)).trans hx210_1
       have HR210_0 := Aside0.mk hi210_0
       have HC210_0 := Aside0.mk hl210_0
       clear hi210_0 hl210_0
       replace p210 := eq_true p210
       replace q210 := eq_true q210
       go_wp2_with (first | ((with_reducible refine gate_callee (f := 19) rfl ?_); refine goesL_ (some 22) rfl rfl Try.func19 (by kernel_rfl) rfl #[.agg #[.slice A210_0 ((rd_T24 l0 x4_1).f0).length c210_0, .int .i64 ((rd_T24 l0 x4_1).f1)]] rfl (by (try simp only [List.map_toArray, List.map_cons, List.map_nil]); first | done | rfl | (simp only [List.length_drop, List.length_take]; rfl)) ?_; (with_reducible refine (rialtoref12_Check.calls k1 _ _ ((rd_T24 l0 x4_1).f0) ((rd_T24 l0 x4_1).f1) t211 _ ?side1 ?side2 A5.out).mono ?_); (case side1 => repeat (first | exact (Kd.C_below HR210_0.out HB.out) | (with_reducible refine Kd.C_alloc ?_ _) | (with_reducible refine Kd.C_drewN ?_ _) | (with_reducible refine Kd.C_drew ?_))); (case side2 => exact HC210_0.out); rintro e w7 ⟨rfl, hb⟩; refine ⟨_, rfl, ?_⟩; have n0_ := Aside0.mk (below_step (by exact bl_ HB.out) hb); clear HB; have HB := n0_; clear n0_; (try clear hb); (try clear hb2); (try clear hk); (try clear hi)))
       go_roundg k1
       case measure => have := HK1.out; omega
       case rel => exact ⟨(wrap64 (x4_1 + 1)), (by first | rfl | (simp; done) | (simp [*]; done)), H', ⟨by have := HK1.out; omega⟩, ⟨by exact bl_ HB.out⟩⟩
      ·rw [if_neg c6] at H
       have c6b0 : (t211 == 0) = false := beq_eq_false_iff_ne.mpr c6
       have c6b1 : (t211 != 0) = true := bne_iff_ne.mpr c6
       simp only [Option.some.injEq, Prod.mk.injEq] at H
       obtain ⟨rfl, rfl⟩ := H
       have p210 : 0 ≤ (x4_1 : Int) := of_decide_eq_true (by first | (with_reducible assumption) | assumption)
       have q210 : x4_1 < (l0.length : Int) := of_decide_eq_true (by first | (with_reducible assumption) | assumption)
       obtain ⟨ad210, A210_0, c210_0, e210, hx210_0, hx210_1, hl210_0, hi210_0⟩ := at_T24 HR0.out x4_1 p210 q210
       cases e210
       replace hx210_0 := (HB.out.cell (World.block_lt_of_cell? w _ hx210_0)).trans hx210_0
       replace hx210_1 := (HB.out.cell (World.block_lt_of_cell? w _ hx210_1)).trans hx210_1
       have HR210_0 := Aside0.mk hi210_0
       have HC210_0 := Aside0.mk hl210_0
       clear hi210_0 hl210_0
       replace p210 := eq_true p210
       replace q210 := eq_true q210
       go_wp2_with (first | ((with_reducible refine gate_callee (f := 19) rfl ?_); refine goesL_ (some 22) rfl rfl Try.func19 (by kernel_rfl) rfl #[.agg #[.slice A210_0 ((rd_T24 l0 x4_1).f0).length c210_0, .int .i64 ((rd_T24 l0 x4_1).f1)]] rfl (by (try simp only [List.map_toArray, List.map_cons, List.map_nil]); first | done | rfl | (simp only [List.length_drop, List.length_take]; rfl)) ?_; (with_reducible refine (rialtoref12_Check.calls k1 _ _ ((rd_T24 l0 x4_1).f0) ((rd_T24 l0 x4_1).f1) t211 _ ?side1 ?side2 A5.out).mono ?_); (case side1 => repeat (first | exact (Kd.C_below HR210_0.out HB.out) | (with_reducible refine Kd.C_alloc ?_ _) | (with_reducible refine Kd.C_drewN ?_ _) | (with_reducible refine Kd.C_drew ?_))); (case side2 => exact HC210_0.out); rintro e w8 ⟨rfl, hb⟩; refine ⟨_, rfl, ?_⟩; have n0_ := Aside0.mk (below_step (by exact bl_ HB.out) hb); clear HB; have HB := n0_; clear n0_; (try clear hb); (try clear hb2); (try clear hk); (try clear hi)))
       go_ret2
       exact ⟨_, by first | rfl | (simp [errW_none, errW_some] <;> rfl) | (simp [*, errW_none, errW_some] <;> rfl), by first | exact Kd.R_nil _ _ _ _ _ | exact Kd.N_nil _ _ _ _ _ | exact Kd.V_nil _ _ _ _ _ | exact Kd.Q_nil _ _ _ _ _ | exact Kd.S_nil _ _ _ _ _, by exact bl_ HB.out⟩
     ·rw [if_neg c4] at H
      exact absurd H (by simp)
    ·rw [if_neg c3] at H
     have c3b0 : decide (x4_1 < (l0.length : Int)) = false := decide_eq_false c3
     clear c3
     have H' := Aside0.mk H
     clear H
     go_wp2
     go_loopg [5, 6] k1 (fun kq v5 v6 w' => ∃ (x5_2 : List (S31)) (x6_2 : Int), v6 = .int .i64 x6_2 ∧ Aside0 (rialtoref12_Total.l1 kq l0 x5_2 x6_2 = some (r1, r2)) ∧ Aside0 (kq ≤ k1) ∧ Aside0 (Kd.R k31 31 w' w.heap.size (fun _ => True) v5 x5_2) ∧ Aside0 (Below w.heap.size w w'))
     case atStart => exact ⟨(([] : List (S31))), (0), (by first | rfl | (simp; done) | (simp [*]; done)), H', ⟨Nat.le_refl _⟩, ⟨by first | exact Kd.R_nil _ _ _ _ _ | exact Kd.N_nil _ _ _ _ _ | exact Kd.V_nil _ _ _ _ _ | exact Kd.Q_nil _ _ _ _ _ | exact Kd.S_nil _ _ _ _ _⟩, ⟨by exact bl_ HB.out⟩⟩
     case round =>
      clear H'
      try clear c1
      try clear c2
      try clear c2b0
      try clear c2b1
      try clear p2
      try clear q2
      try clear hx2
      try clear c3
      try clear c3b0
      try clear c4
      try clear c4b0
      try clear c6
      try clear c6b0
      try clear c6b1
      try clear p6
      try clear hx210_0
      try clear hx210_1
      try clear p2
      try clear p210
      try clear q210
      obtain ⟨x5_2, x6_2, rfl, HA, HK2, HO_5, HB⟩ := hrel
      cases gk with
      | zero => exact absurd HA.out (by simp [rialtoref12_Total.l1])
      | succ k2 =>
       have H := HA.out
       clear HA
       simp only [rialtoref12_Total.l1] at H
       by_cases c9 : x6_2 ≤ 3
       ·rw [if_pos c9] at H
        have c9b0 : decide (x6_2 ≤ 3) = true := decide_eq_true c9
        clear c9
        have H' := Aside0.mk H
        clear H
        go_wp2
        go_loopg [7, 8] k2 (fun kq v7 v8 w' => ∃ (x7_3 : Int) (x8_3 : Int), v7 = .int .i64 x7_3 ∧ v8 = .int .i64 x8_3 ∧ Aside0 (rialtoref12_Total.l2 kq l0 x5_2 x6_2 x7_3 x8_3 = some (r1, r2)) ∧ Aside0 (kq ≤ k2) ∧ Aside0 (Kd.R k31 31 w' w.heap.size (fun _ => True) u5 x5_2) ∧ Aside0 (Below w.heap.size w w'))
        case atStart => exact ⟨(0), (0), (by first | rfl | (simp; done) | (simp [*]; done)), (by first | rfl | (simp; done) | (simp [*]; done)), H', ⟨Nat.le_refl _⟩, ⟨by exact rk_ HO_5.out⟩, ⟨by exact bl_ HB.out⟩⟩
        case round =>
         clear H'
         try clear c1
         try clear c2
         try clear c2b0
         try clear c2b1
         try clear p2
         try clear q2
         try clear hx2
         try clear c3
         try clear c3b0
         try clear c4
         try clear c4b0
         try clear c6
         try clear c6b0
         try clear c6b1
         try clear p6
         try clear c9
         try clear c9b0
         try clear hx210_0
         try clear hx210_1
         try clear p2
         try clear p210
         try clear p6
         try clear q2
         try clear q210
         obtain ⟨x7_3, x8_3, rfl, rfl, HA, HK3, HO_5, HB⟩ := hrel
         cases gk with
         | zero => exact absurd HA.out (by simp [rialtoref12_Total.l2])
         | succ k3 =>
          have H := HA.out
          clear HA
          simp only [rialtoref12_Total.l2] at H
          by_cases c10 : x8_3 < (l0.length : Int)
          ·rw [if_pos c10] at H
           have c10b0 : decide (x8_3 < (l0.length : Int)) = true := decide_eq_true c10
           clear c10
           by_cases c11 : 0 ≤ x8_3
           ·rw [if_pos c11] at H
            have c11b0 : decide (0 ≤ x8_3) = true := decide_eq_true c11
            clear c11
            replace H := Option.bind_eq_some_iff.mp H
            obtain ⟨t213, A120, H⟩ := H
            replace H : (rialtoref12_Total.l2 k3 l0 x5_2 x6_2 (wrap64 (x7_3 + t213)) (wrap64 (x8_3 + 1))) = some (r1, r2) := H
            have A12 := Aside0.mk A120
            clear A120
            have H' := Aside0.mk H
            clear H
            have p212 : 0 ≤ (x8_3 : Int) := of_decide_eq_true (by first | (with_reducible assumption) | assumption)
            have q212 : x8_3 < (l0.length : Int) := of_decide_eq_true (by first | (with_reducible assumption) | assumption)
            obtain ⟨ad212, A212_0, c212_0, e212, hx212_0, hx212_1, hl212_0, hi212_0⟩ := at_T24 HR0.out x8_3 p212 q212
            cases e212
            replace hx212_0 := (HB.out.cell (World.block_lt_of_cell? w _ hx212_0)).trans hx212_0
            replace hx212_1 := (HB.out.cell (World.block_lt_of_cell? w _ hx212_1)).trans hx212_1
            have HR212_0 := Aside0.mk hi212_0
            have HC212_0 := Aside0.mk hl212_0
            clear hi212_0 hl212_0
            replace p212 := eq_true p212
            replace q212 := eq_true q212
            go_wp2_with (first | ((with_reducible refine gate_callee (f := 21) rfl ?_); refine goesL_ (some 40) rfl rfl Try.func21 (by kernel_rfl) rfl #[.agg #[.slice A212_0 ((rd_T24 l0 x8_3).f0).length c212_0, .int .i64 ((rd_T24 l0 x8_3).f1)], .int .i64 x6_2] rfl (by (try simp only [List.map_toArray, List.map_cons, List.map_nil]); first | done | rfl | (simp only [List.length_drop, List.length_take]; rfl)) ?_; (with_reducible refine (rialtoref12_Balance.calls k3 _ _ ((rd_T24 l0 x8_3).f0) ((rd_T24 l0 x8_3).f1) x6_2 t213 _ ?side1 ?side2 A12.out).mono ?_); (case side1 => repeat (first | exact (Kd.C_below HR212_0.out HB.out) | (with_reducible refine Kd.C_alloc ?_ _) | (with_reducible refine Kd.C_drewN ?_ _) | (with_reducible refine Kd.C_drew ?_))); (case side2 => exact HC212_0.out); rintro e w13 ⟨rfl, hb⟩; refine ⟨_, rfl, ?_⟩; have n0_ := Aside0.mk (Kd.R_below (by exact rk_ HO_5.out) hb); have n1_ := Aside0.mk (below_step (by exact bl_ HB.out) hb); clear HO_5; clear HB; have HO_5 := n0_; have HB := n1_; clear n0_ n1_; (try clear hb); (try clear hb2); (try clear hk); (try clear hi)))
            go_roundg k3
            case measure => have := HK1.out; have := HK2.out; have := HK3.out; omega
            case rel => exact ⟨(wrap64 (x7_3 + t213)), (wrap64 (x8_3 + 1)), (by first | rfl | (simp; done) | (simp [*]; done)), (by first | rfl | (simp; done) | (simp [*]; done)), H', ⟨by have := HK1.out; have := HK2.out; have := HK3.out; omega⟩, ⟨by exact rk_ HO_5.out⟩, ⟨by exact bl_ HB.out⟩⟩
           ·rw [if_neg c11] at H
            exact absurd H (by simp)
          ·rw [if_neg c10] at H
           have c10b0 : decide (x8_3 < (l0.length : Int)) = false := decide_eq_false c10
           clear c10
           by_cases c14 : x7_3 > 0
           ·rw [if_pos c14] at H
            have c14b0 : decide (0 < x7_3) = true := decide_eq_true c14
            clear c14
            by_cases c15 : x5_2.length < 8796093022208
            ·rw [if_pos c15] at H
             have LMc15 := Aside0.mk c15
             clear c15
             obtain ⟨y214, hy214⟩ : ∃ y_ : List (S31), y_ = (x5_2 ++ [(⟨x6_2, x7_3⟩ : S31)]) := ⟨_, rfl⟩
             replace H : (rialtoref12_Total.l1 k3 l0 y214 (wrap64 (x6_2 + 1))) = some (r1, r2) := by first | (rw [hy214]; with_reducible exact H) | (have H2_ := (Option.bind_some _ _).symm.trans H; rw [hy214]; with_reducible exact H2_) | (have H2_ := (Option.bind_some _ _).symm.trans H; with_reducible exact H2_) | with_reducible exact H | (rw [hy214]; exact H) | exact H
             have Ny214 := Aside0.mk hy214
             clear hy214
             have H' := Aside0.mk H
             clear H
             go_wp2_with (first | ((with_reducible refine gate_builtin (b := .append) (xs := #[.tmp 44, .tmp 48]) rfl ?_); at_builtin; refine Kd.R_append k31 (w0 := w) w.heap.size rfl (.tmp 44) (.tmp 48) 22 31 (.agg #[(.int .i64 0), (.int .i64 0)]) 16 rfl Try.underlying22 info31 rfl (by decide) (by omega) u5 x5_2 (⟨x6_2, x7_3⟩ : S31) [.int .i64 x6_2, .int .i64 x7_3] (fun _ => True) (fun _ => False) rfl rfl ?aP (fun _ hk => hk.elim) ?aF ?aO ?aB ?aS ?aL ?_; (case aP => exact k31_mkM _ _ _ (⟨x6_2, x7_3⟩ : S31)); (case aB => exact (by exact bl_ HB.out)); (case aF => exact (fun _ _ => trivial)); (case aO => exact (by exact rk_ HO_5.out)); (case aS => exact (below_size (by exact bl_ HB.out))); (case aL => have := LMc15.out; omega); intro v215 w16 ho hb hg hat; rw [← Ny214.out] at ho; have n0_ := Aside0.mk (hb); have n1_ := Aside0.mk (ho); clear HB; clear HO_5; have HB := n0_; have HO216 := n1_; clear n0_ n1_; clear ho hb hg hat))
             go_roundg k3
             case measure => have := HK1.out; have := HK2.out; have := HK3.out; omega
             case rel => exact ⟨(y214), (wrap64 (x6_2 + 1)), (by first | rfl | (simp; done) | (simp [*]; done)), H', ⟨by have := HK1.out; have := HK2.out; have := HK3.out; omega⟩, ⟨by exact rk_ HO216.out⟩, ⟨by exact bl_ HB.out⟩⟩
            ·rw [if_neg c15] at H
             exact absurd H (by simp)
           ·rw [if_neg c14] at H
            have c14b0 : decide (0 < x7_3) = false := decide_eq_false c14
            clear c14
            have H' := Aside0.mk H
            clear H
            go_wp2
            go_roundg k3
            case measure => have := HK1.out; have := HK2.out; have := HK3.out; omega
            case rel => exact ⟨(x5_2), (wrap64 (x6_2 + 1)), (by first | rfl | (simp; done) | (simp [*]; done)), H', ⟨by have := HK1.out; have := HK2.out; have := HK3.out; omega⟩, ⟨by exact rk_ HO_5.out⟩, ⟨by exact bl_ HB.out⟩⟩
       ·rw [if_neg c9] at H
        have c9b0 : decide (x6_2 ≤ 3) = false := decide_eq_false c9
        clear c9
        simp only [Option.some.injEq, Prod.mk.injEq] at H
        obtain ⟨rfl, rfl⟩ := H
        go_wp2
        go_ret2
        exact ⟨_, by first | rfl | (simp [errW_none, errW_some] <;> rfl) | (simp [*, errW_none, errW_some] <;> rfl), by (with_reducible repeat (first | apply Kd.R_alloc | apply Kd.R_drewN | apply Kd.R_drew)); exact HO_5.out, by exact bl_ HB.out⟩

end Go.Proofs.Ythblegfihenflaa.P
