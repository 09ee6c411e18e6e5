/- Functions that the laws reach, told as plain functions, each with a proof that the call computes it; for every input. Written by a program of ours out of the translation. -/
import Derived.Test.YthblegfihenflaaPx0
import Derived.Test.YthblegfihenflaaPx10
import Derived.Test.YthblegfihenflaaPx11
namespace Go.Proofs.Ythblegfihenflaa.P
open Go.RowKit Go.Proofs.YthblegfihenflaaW.PrintWords Go.Proofs.YthblegfihenflaaW.PrintLast Go.Proofs.YthblegfihenflaaW.PrintMore
attribute [local go_sem] max2_int min2_int max_two min_two max_three min_three max_four min_four   -- for this text's walks alone
set_option linter.unusedVariables false
set_option linter.unusedSimpArgs false

/-! ### rialtoref12_moves: function 29 -/
mutual
def rialtoref12_moves.j0 : Nat → Int → Int → Int → Bool → List (S31) → Int → Option ((List (S31)) × Int × Int)
  | 0, _, _, _, _, _, _ => none
  | k + 1, x1, x2, x3, x28, x189000, x189001 => if x28 = true then (some (([] : List (S31)), 0, 1)) else ((rialtoref12_Balance.f k x189000 x189001 x1).bind fun t191 => (if x3 < 0 then (rialtoref12_moves.j1 k x1 x2 x3 t191 (decide (t191 < x2)) x189000 x189001) else (rialtoref12_moves.j1 k x1 x2 x3 t191 false x189000 x189001)))
def rialtoref12_moves.j1 : Nat → Int → Int → Int → Int → Bool → List (S31) → Int → Option ((List (S31)) × Int × Int)
  | 0, _, _, _, _, _, _, _ => none
  | k + 1, x1, x2, x3, x10, x39, x189000, x189001 => if x39 = true then (some (([] : List (S31)), 0, 121)) else (if (wrap64 (x10 + (wrap64 (x3 * x2)))) > 9007199254740992 then (some (([] : List (S31)), 0, 122)) else (if x189001 = 1000000000 then (some (([] : List (S31)), 0, 122)) else ((rialtoref12_Set.f k x189000 x1 (wrap64 (x10 + (wrap64 (x3 * x2))))).bind fun t192 => (some (t192, wrap64 (x189001 + 1), 0)))))
end
def rialtoref12_moves.f (k : Nat) (l0_0 : List (S31)) (a0_1 : Int) (a1 : Int) (a2 : Int) (a3 : Int) : Option ((List (S31)) × Int × Int) := (rialtoref12_Check.f k l0_0 a0_1).bind fun t190 => (if t190 = 0 then (if a1 < 0 then (rialtoref12_moves.j0 k a1 a2 a3 true l0_0 a0_1) else (if a1 > 3 then (rialtoref12_moves.j0 k a1 a2 a3 true l0_0 a0_1) else (if a2 < 1 then (rialtoref12_moves.j0 k a1 a2 a3 true l0_0 a0_1) else (rialtoref12_moves.j0 k a1 a2 a3 (decide (a2 > 9007199254740992)) l0_0 a0_1)))) else (some (([] : List (S31)), 0, 120)))
theorem rialtoref12_moves.mono_l : ∀ k, (∀ y0 y1 y2 y3 y4 y5, LeO (rialtoref12_moves.j0 k y0 y1 y2 y3 y4 y5) (rialtoref12_moves.j0 (k + 1) y0 y1 y2 y3 y4 y5)) ∧ (∀ y0 y1 y2 y3 y4 y5 y6, LeO (rialtoref12_moves.j1 k y0 y1 y2 y3 y4 y5 y6) (rialtoref12_moves.j1 (k + 1) y0 y1 y2 y3 y4 y5 y6))
  | 0 => ⟨fun _ _ _ _ _ _ r h => by simp [rialtoref12_moves.j0] at h, fun _ _ _ _ _ _ _ r h => by simp [rialtoref12_moves.j1] at h⟩
  | k + 1 => by
    obtain ⟨ih0, ih1⟩ := rialtoref12_moves.mono_l k
    refine ⟨?_, ?_⟩
    · intro y0 y1 y2 y3 y4 y5
      unfold rialtoref12_moves.j0
      repeat' first
      | (with_reducible exact ih0 _ _ _ _ _ _)
      | (with_reducible exact ih1 _ _ _ _ _ _ _)
      | (with_reducible exact rialtoref12_Balance.mono _ _ _ _)
      | (with_reducible exact rialtoref12_Check.mono _ _ _)
      | (with_reducible exact rialtoref12_Set.mono _ _ _ _)
      | (with_reducible exact LeO.refl _)
      | (with_reducible exact LeO.none _)
      | (with_reducible refine LeO.ite ?_ ?_)
      | (with_reducible refine LeO.bind ?_ (fun _ => ?_))
      | exact ih0 _ _ _ _ _ _
      | exact ih1 _ _ _ _ _ _ _
      | exact rialtoref12_Balance.mono _ _ _ _
      | exact rialtoref12_Check.mono _ _ _
      | exact rialtoref12_Set.mono _ _ _ _
      | exact LeO.none _
      | refine LeO.ite ?_ ?_
      | refine LeO.bind ?_ (fun _ => ?_)
    · intro y0 y1 y2 y3 y4 y5 y6
      unfold rialtoref12_moves.j1
      repeat' first
      | (with_reducible exact ih0 _ _ _ _ _ _)
      | (with_reducible exact ih1 _ _ _ _ _ _ _)
      | (with_reducible exact rialtoref12_Balance.mono _ _ _ _)
      | (with_reducible exact rialtoref12_Check.mono _ _ _)
      | (with_reducible exact rialtoref12_Set.mono _ _ _ _)
      | (with_reducible exact LeO.refl _)
      | (with_reducible exact LeO.none _)
      | (with_reducible refine LeO.ite ?_ ?_)
      | (with_reducible refine LeO.bind ?_ (fun _ => ?_))
      | exact ih0 _ _ _ _ _ _
      | exact ih1 _ _ _ _ _ _ _
      | exact rialtoref12_Balance.mono _ _ _ _
      | exact rialtoref12_Check.mono _ _ _
      | exact rialtoref12_Set.mono _ _ _ _
      | exact LeO.none _
      | refine LeO.ite ?_ ?_
      | refine LeO.bind ?_ (fun _ => ?_)
theorem rialtoref12_moves.mono : ∀ a0 a1 a2 a3 a4 k, LeO (rialtoref12_moves.f k a0 a1 a2 a3 a4) (rialtoref12_moves.f (k + 1) a0 a1 a2 a3 a4) := by
  intro a0 a1 a2 a3 a4 k
  obtain ⟨ih0, ih1⟩ := rialtoref12_moves.mono_l k
  unfold rialtoref12_moves.f
  repeat' first
      | (with_reducible exact ih0 _ _ _ _ _ _)
      | (with_reducible exact ih1 _ _ _ _ _ _ _)
      | (with_reducible exact rialtoref12_Balance.mono _ _ _ _)
      | (with_reducible exact rialtoref12_Check.mono _ _ _)
      | (with_reducible exact rialtoref12_Set.mono _ _ _ _)
      | (with_reducible exact LeO.refl _)
      | (with_reducible exact LeO.none _)
      | (with_reducible refine LeO.ite ?_ ?_)
      | (with_reducible refine LeO.bind ?_ (fun _ => ?_))
      | exact ih0 _ _ _ _ _ _
      | exact ih1 _ _ _ _ _ _ _
      | exact rialtoref12_Balance.mono _ _ _ _
      | exact rialtoref12_Check.mono _ _ _
      | exact rialtoref12_Set.mono _ _ _ _
      | exact LeO.none _
      | refine LeO.ite ?_ ?_
      | refine LeO.bind ?_ (fun _ => ?_)
def rialtoref12_moves.T10 : Bool × List (List Nat × List Nat) := (true, [([], []), ([0], [0]), ([], []), ([], []), ([], []), ([], []), ([4, 5], [4, 5]), ([3, 6], [3, 6]), ([1, 2, 7], [1, 2, 7]), ([], []), ([9], [9]), ([10], [10]), ([8, 11], [8, 11]), ([12, 8, 0, 1, 2, 3, 4, 5, 6, 7, 8, 9, 10, 11, 12], [12]), ([13, 0, 1, 2, 3, 4, 5, 6, 7, 8, 9, 10, 11, 12, 13], [])])
def rialtoref12_moves.B10 : List Nat := [0, 1, 0, 0, 0, 0, 48, 120, 255, 0, 512, 1536, 4095, 8191, 16383]
theorem rialtoref12_moves.tab10 : rtab .any (opsOf Try.f29 10) = rialtoref12_moves.T10 := by kernel_rfl
theorem rialtoref12_moves.bits10 : waitsOk rialtoref12_moves.T10.2 rialtoref12_moves.B10 = true := by kernel_rfl
set_option maxHeartbeats 8000000 in
set_option maxRecDepth 100000 in
theorem rialtoref12_moves.calls (k : Nat) (A0_0 : Option Addr) (c0_0 : Nat) (l0_0 : List (S31)) (a0_1 : Int) (a1 : Int) (a2 : Int) (a3 : Int) (r1 : List (S31)) (r2 : Int) (r3 : Int) (w : World) (hr0_0 : Kd.C k31 w A0_0 l0_0.length l0_0) (hc0_0 : l0_0.length ≤ c0_0) (h : rialtoref12_moves.f k l0_0 a0_1 a1 a2 a3 = some (r1, r2, r3)) :
    Calls Try.prog 29 #[.agg #[.slice A0_0 l0_0.length c0_0, .int .i64 a0_1], .int .i64 a1, .int .i64 a2, .int .i64 a3] w fun e w' => ∃ v0_ : Value, e = .returned (.tuple #[.agg #[v0_, .int .i64 r2], .int .i64 r3]) ∧ Kd.R k31 31 w' w.heap.size (fun _ => True) v0_ r1 ∧ Below w.heap.size w w' := by
  have hu24 := Try.underlying24
  have HR0_0 := Aside0.mk hr0_0
  have HC0_0 := Aside0.mk hc0_0
  clear hr0_0 hc0_0
  have HB := Aside0.mk (Below.refl w.heap.size w)
  have H : ((rialtoref12_Check.f k l0_0 a0_1).bind fun t190 => (if t190 = 0 then (if a1 < 0 then (rialtoref12_moves.j0 k a1 a2 a3 true l0_0 a0_1) else (if a1 > 3 then (rialtoref12_moves.j0 k a1 a2 a3 true l0_0 a0_1) else (if a2 < 1 then (rialtoref12_moves.j0 k a1 a2 a3 true l0_0 a0_1) else (rialtoref12_moves.j0 k a1 a2 a3 (decide (a2 > 9007199254740992)) l0_0 a0_1)))) else (some (([] : List (S31)), 0, 120)))) = some (r1, r2, r3) := h
  clear h
  replace H := Option.bind_eq_some_iff.mp H
  obtain ⟨t190, A50, H⟩ := H
  replace H : (if t190 = 0 then (if a1 < 0 then (rialtoref12_moves.j0 k a1 a2 a3 true l0_0 a0_1) else (if a1 > 3 then (rialtoref12_moves.j0 k a1 a2 a3 true l0_0 a0_1) else (if a2 < 1 then (rialtoref12_moves.j0 k a1 a2 a3 true l0_0 a0_1) else (rialtoref12_moves.j0 k a1 a2 a3 (decide (a2 > 9007199254740992)) l0_0 a0_1)))) else (some (([] : List (S31)), 0, 120))) = some (r1, r2, r3) := H
  have A5 := Aside0.mk A50
  clear A50
  by_cases c6 : t190 = 0
  · rw [if_pos c6] at H
    have c6b0 : (t190 == 0) = true := beq_iff_eq.mpr c6
    have c6b1 : (t190 != 0) = false := bne_eq_false_iff_eq.mpr c6
    clear c6
    have HC7 := Aside0.mk H
    clear H
    go_enter Try.func29, Try.ntmps29
    go_upto_region 3 with (first | ((with_reducible refine gate_dst (N := 4) rfl ?_); refine box_event ?hg (N := 4) ?hd (cs := #[.slice A0_0 l0_0.length c0_0, .int .i64 a0_1]) (t := 24) ?hr ?_; (case hd => rfl); (case hg => rfl); (case hr => first | (go_simp; done) | (go_simp; rfl)); intro gb188 hg w8 hbox hb; have n0_ := Aside0.mk (below_step (by repeat (first | (with_reducible first | exact HB.out | apply below_alloc | apply pw_below_drewN | apply below_drew1) | exact HB.out)) hb); have n1_ := Aside0.mk (hbox); have n2_ := Aside0.mk ((by rw [hg]; exact (below_size (by repeat (first | (with_reducible first | exact HB.out | apply below_alloc | apply pw_below_drewN | apply below_drew1) | exact HB.out))) : w.heap.size ≤ gb188)); have n3_ := Aside0.mk ((by rw [hg]; exact (below_size (by repeat (first | (with_reducible first | exact HB.out | apply below_alloc | apply pw_below_drewN | apply below_drew1) | exact HB.out))) : w.heap.size ≤ gb188)); clear HB; have HB := n0_; have BK188 := n1_; have GW188 := n2_; have GE188 := n3_; clear n0_ n1_ n2_ n3_; clear hb hbox hg) | ((with_reducible refine gate_dst (N := 8) rfl ?_); refine box_event ?hg (N := 8) ?hd (cs := #[.slice none 0 0, .int .i64 0]) (t := 24) ?hr ?_; (case hd => rfl); (case hg => rfl); (case hr => first | (go_simp; done) | (go_simp; rfl)); intro gb189 hg w9 hbox hb; have n0_ := Aside0.mk (blk_below (g := gb188) (o := .cells #[.slice A0_0 l0_0.length c0_0, .int .i64 a0_1] 24 (0, 0)) (by (with_reducible repeat (first | refine blk_drewN ?_ _ | refine blk_drew ?_ | refine blk_alloc ?_ _)); exact BK188.out) hb); have n1_ := Aside0.mk (below_step (by repeat (first | (with_reducible first | exact HB.out | apply below_alloc | apply pw_below_drewN | apply below_drew1 | refine below_set ?_ GE188.out) | exact HB.out)) hb); have n2_ := Aside0.mk (hbox); have n3_ := Aside0.mk ((by rw [hg]; exact (below_size (by repeat (first | (with_reducible first | exact HB.out | apply below_alloc | apply pw_below_drewN | apply below_drew1 | refine below_set ?_ GE188.out) | exact HB.out))) : w.heap.size ≤ gb189)); have n4_ := Aside0.mk ((by rw [hg]; exact (below_size (by repeat (first | (with_reducible first | exact HB.out | apply below_alloc | apply pw_below_drewN | apply below_drew1 | refine below_set ?_ GE188.out) | exact HB.out))) : w.heap.size ≤ gb189)); have n5_ := Aside0.mk ((by rw [hg]; exact Nat.ne_of_lt (blk_lt (g := gb188) (o := .cells #[.slice A0_0 l0_0.length c0_0, .int .i64 a0_1] 24 (0, 0)) (by (with_reducible repeat (first | refine blk_drewN ?_ _ | refine blk_drew ?_ | refine blk_alloc ?_ _)); exact BK188.out)) : gb188 ≠ gb189)); have n6_ := Aside0.mk ((by rw [hg]; exact Nat.ne_of_gt (blk_lt (g := gb188) (o := .cells #[.slice A0_0 l0_0.length c0_0, .int .i64 a0_1] 24 (0, 0)) (by (with_reducible repeat (first | refine blk_drewN ?_ _ | refine blk_drew ?_ | refine blk_alloc ?_ _)); exact BK188.out)) : gb189 ≠ gb188)); clear BK188; clear HB; have BK188 := n0_; have HB := n1_; have BK189 := n2_; have GW189 := n3_; have GE189 := n4_; have NB188_189 := n5_; have NB189_188 := n6_; clear n0_ n1_ n2_ n3_ n4_ n5_ n6_; clear hb hbox hg; have hnb10 := NB188_189.out; have hnc10 := NB189_188.out; have hcz11_0 : w9.cell? ⟨gb188, 0, none⟩ = some (.slice A0_0 l0_0.length c0_0) := (blk_cell BK188.out 0).trans rfl; have hcz11_1 : w9.cell? ⟨gb188, 1, none⟩ = some (.int .i64 a0_1) := (blk_cell BK188.out 1).trans rfl; have hfz11_0 := blk_frozen BK188.out 0; have hfz11_1 := blk_frozen BK188.out 1) | ((with_reducible refine gate_callee (f := 19) rfl ?_); refine goesL_ (some 12) rfl rfl Try.func19 (by kernel_rfl) rfl #[.agg #[.slice A0_0 l0_0.length c0_0, .int .i64 a0_1]] rfl (by (try simp only [List.map_toArray, List.map_cons, List.map_nil]); first | done | rfl | (simp only [List.length_drop, List.length_take]; rfl)) ?_; (with_reducible refine (rialtoref12_Check.calls k _ _ l0_0 a0_1 t190 _ ?side1 ?side2 A5.out).mono ?_); (case side1 => repeat (first | exact (Kd.C_below HR0_0.out HB.out) | (with_reducible refine Kd.C_alloc ?_ _) | (with_reducible refine Kd.C_drewN ?_ _) | (with_reducible refine Kd.C_drew ?_))); (case side2 => exact HC0_0.out); rintro e w12 ⟨rfl, hb⟩; refine ⟨_, rfl, ?_⟩; have n0_ := Aside0.mk (blk_below (g := gb188) (o := .cells #[.slice A0_0 l0_0.length c0_0, .int .i64 a0_1] 24 (0, 0)) (by (with_reducible repeat (first | refine blk_drewN ?_ _ | refine blk_drew ?_ | refine blk_alloc ?_ _)); exact BK188.out) hb); have n1_ := Aside0.mk (blk_below (g := gb189) (o := .cells #[.slice none 0 0, .int .i64 0] 24 (0, 0)) (by (with_reducible repeat (first | refine blk_drewN ?_ _ | refine blk_drew ?_ | refine blk_alloc ?_ _)); exact BK189.out) hb); have n2_ := Aside0.mk (below_step (by repeat (first | (with_reducible first | exact HB.out | apply below_alloc | apply pw_below_drewN | apply below_drew1 | refine below_set ?_ GE188.out | refine below_set ?_ GE189.out) | exact HB.out)) hb); clear BK188; clear BK189; clear HB; have BK188 := n0_; have BK189 := n1_; have HB := n2_; clear n0_ n1_ n2_; (try clear hb); (try clear hb2); (try clear hk); (try clear hi)))
    (try simp only [Act.put, List.setIfInBounds_toArray, List.set_cons_zero, List.set_cons_succ])
    go_cut [28] (fun v28 wc => ∃ (kq : Nat) (x28_6 : Bool), v28 = .bool x28_6 ∧ Aside0 (rialtoref12_moves.j0 kq a1 a2 a3 x28_6 l0_0 a0_1 = some (r1, r2, r3)) ∧ Aside0 (kq ≤ k) ∧ Aside0 (wc.heap[gb188]? = some (.cells #[(.slice A0_0 l0_0.length c0_0), .int .i64 a0_1] 24 (0, 0))) ∧ Aside0 (wc.heap[gb189]? = some (.cells #[(.slice none 0 0), .int .i64 0] 24 (0, 0))) ∧ Aside0 (Below w.heap.size w wc))
    case first =>
      have H := HC7.out
      clear HC7
      by_cases c13 : a1 < 0
      · rw [if_pos c13] at H
        have c13b0 : decide (a1 < 0) = true := decide_eq_true c13
        clear c13
        (first | rw [c13b0] | (simp only [i64_w, i32_w]; rw [c13b0]) | skip)
        have H' := Aside0.mk H
        clear H
        go_wp2
        go_meet
        case rel => exact ⟨_, (true), (by first | rfl | (simp; done) | (simp [*]; done)), H', ⟨by first | omega | exact Nat.le_refl _⟩, ⟨by (with_reducible repeat (first | refine blk_drewN ?_ _ | refine blk_drew ?_ | refine blk_alloc ?_ _)); exact BK188.out⟩, ⟨by (with_reducible repeat (first | refine blk_drewN ?_ _ | refine blk_drew ?_ | refine blk_alloc ?_ _)); exact BK189.out⟩, ⟨by repeat (first | (with_reducible first | exact HB.out | apply below_alloc | apply pw_below_drewN | apply below_drew1 | refine below_set ?_ GE188.out | refine below_set ?_ GE189.out) | exact HB.out)⟩⟩
      · rw [if_neg c13] at H
        have c13b0 : decide (a1 < 0) = false := decide_eq_false c13
        clear c13
        (first | rw [c13b0] | (simp only [i64_w, i32_w]; rw [c13b0]) | skip)
        by_cases c14 : a1 > 3
        · rw [if_pos c14] at H
          have c14b0 : decide (3 < a1) = true := decide_eq_true c14
          clear c14
          have H' := Aside0.mk H
          clear H
          go_wp2
          go_meet
          case rel => exact ⟨_, (true), (by first | rfl | (simp; done) | (simp [*]; done)), H', ⟨by first | omega | exact Nat.le_refl _⟩, ⟨by (with_reducible repeat (first | refine blk_drewN ?_ _ | refine blk_drew ?_ | refine blk_alloc ?_ _)); exact BK188.out⟩, ⟨by (with_reducible repeat (first | refine blk_drewN ?_ _ | refine blk_drew ?_ | refine blk_alloc ?_ _)); exact BK189.out⟩, ⟨by repeat (first | (with_reducible first | exact HB.out | apply below_alloc | apply pw_below_drewN | apply below_drew1 | refine below_set ?_ GE188.out | refine below_set ?_ GE189.out) | exact HB.out)⟩⟩
        · rw [if_neg c14] at H
          have c14b0 : decide (3 < a1) = false := decide_eq_false c14
          clear c14
          by_cases c15 : a2 < 1
          · rw [if_pos c15] at H
            have c15b0 : decide (a2 < 1) = true := decide_eq_true c15
            clear c15
            have H' := Aside0.mk H
            clear H
            go_wp2
            go_meet
            case rel => exact ⟨_, (true), (by first | rfl | (simp; done) | (simp [*]; done)), H', ⟨by first | omega | exact Nat.le_refl _⟩, ⟨by (with_reducible repeat (first | refine blk_drewN ?_ _ | refine blk_drew ?_ | refine blk_alloc ?_ _)); exact BK188.out⟩, ⟨by (with_reducible repeat (first | refine blk_drewN ?_ _ | refine blk_drew ?_ | refine blk_alloc ?_ _)); exact BK189.out⟩, ⟨by repeat (first | (with_reducible first | exact HB.out | apply below_alloc | apply pw_below_drewN | apply below_drew1 | refine below_set ?_ GE188.out | refine below_set ?_ GE189.out) | exact HB.out)⟩⟩
          · rw [if_neg c15] at H
            have c15b0 : decide (a2 < 1) = false := decide_eq_false c15
            clear c15
            have H' := Aside0.mk H
            clear H
            go_wp2
            go_meet
            case rel => exact ⟨_, (decide (a2 > 9007199254740992)), (by first | rfl | (simp; done) | (simp [*]; done)), H', ⟨by first | omega | exact Nat.le_refl _⟩, ⟨by (with_reducible repeat (first | refine blk_drewN ?_ _ | refine blk_drew ?_ | refine blk_alloc ?_ _)); exact BK188.out⟩, ⟨by (with_reducible repeat (first | refine blk_drewN ?_ _ | refine blk_drew ?_ | refine blk_alloc ?_ _)); exact BK189.out⟩, ⟨by repeat (first | (with_reducible first | exact HB.out | apply below_alloc | apply pw_below_drewN | apply below_drew1 | refine below_set ?_ GE188.out | refine below_set ?_ GE189.out) | exact HB.out)⟩⟩
    case rest =>
      clear HC7
      try clear c1
      try clear c2
      try clear p2
      try clear c6
      try clear c6b0
      try clear c6b1
      try clear c10
      try clear c13
      try clear c13b0
      try clear c14
      try clear c14b0
      try clear c15
      try clear c15b0
      try clear hcz11_0
      try clear hcz11_1
      try clear hfz11_0
      try clear hfz11_1
      obtain ⟨kq, x28_6, rfl, HA, HJ6, BK188, BK189, HB⟩ := hcut
      cases kq with
      | zero => exact absurd HA.out (by simp [rialtoref12_moves.j0])
      | succ kj6 =>
        have H := HA.out
        clear HA
        simp only [rialtoref12_moves.j0] at H
        by_cases c16 : x28_6 = true
        · subst c16
          have H1 : (some (([] : List (S31)), 0, 1)) = some (r1, r2, r3) := by rw [if_pos rfl] at H; exact H
          clear H
          have H := H1
          clear H1
          simp only [Option.some.injEq, Prod.mk.injEq] at H
          obtain ⟨rfl, rfl, rfl⟩ := H
          have hnb17 := NB189_188.out
          have hnc17 := NB188_189.out
          have hcz18_0 : wc.cell? ⟨gb189, 0, none⟩ = some (.slice none 0 0) := (blk_cell BK189.out 0).trans rfl
          have hcz18_1 : wc.cell? ⟨gb189, 1, none⟩ = some (.int .i64 0) := (blk_cell BK189.out 1).trans rfl
          have hfz18_0 := blk_frozen BK189.out 0
          have hfz18_1 := blk_frozen BK189.out 1
          go_wp2
          refine bodyPost_ret (results_ct rfl _ _ gb189 24 #[.slice none 0 0, .int .i64 0] (0, 0) _ rfl (by (with_reducible repeat (first | refine blk_drewN ?_ _ | refine blk_drew ?_ | refine blk_alloc ?_ _)); refine blk_put (cs := #[.slice none 0 0, .int .i64 0]) ?_ 1 _ rfl; (with_reducible repeat (first | refine blk_drewN ?_ _ | refine blk_drew ?_ | refine blk_alloc ?_ _)); refine blk_put (cs := #[.slice none 0 0, .int .i64 0]) ?_ 0 _ rfl; (with_reducible repeat (first | refine blk_drewN ?_ _ | refine blk_drew ?_ | refine blk_alloc ?_ _)); exact BK189.out) Try.underlying24 rfl (by kernel_rfl)) rfl ?_
          exact ⟨_, by first | rfl | (simp [errW_none, errW_some] <;> rfl) | (simp [*, errW_none, errW_some] <;> rfl), by first | exact Kd.R_nil _ _ _ _ _ | exact Kd.N_nil _ _ _ _ _ | exact Kd.V_nil _ _ _ _ _ | exact Kd.Q_nil _ _ _ _ _ | exact Kd.S_nil _ _ _ _ _, by repeat (first | (with_reducible first | exact HB.out | apply below_alloc | apply pw_below_drewN | apply below_drew1 | refine below_set ?_ GE188.out | refine below_set ?_ GE189.out) | exact HB.out)⟩
        · replace c16 := Bool.eq_false_iff.mpr c16
          subst c16
          have H1 : ((rialtoref12_Balance.f kj6 l0_0 a0_1 a1).bind fun t191 => (if a3 < 0 then (rialtoref12_moves.j1 kj6 a1 a2 a3 t191 (decide (t191 < a2)) l0_0 a0_1) else (rialtoref12_moves.j1 kj6 a1 a2 a3 t191 false l0_0 a0_1))) = some (r1, r2, r3) := by rw [if_neg (show ¬ (false = true) by decide)] at H; exact H
          clear H
          have H := H1
          clear H1
          replace H := Option.bind_eq_some_iff.mp H
          obtain ⟨t191, A190, H⟩ := H
          replace H : (if a3 < 0 then (rialtoref12_moves.j1 kj6 a1 a2 a3 t191 (decide (t191 < a2)) l0_0 a0_1) else (rialtoref12_moves.j1 kj6 a1 a2 a3 t191 false l0_0 a0_1)) = some (r1, r2, r3) := H
          have A19 := Aside0.mk A190
          clear A190
          have HC20 := Aside0.mk H
          clear H
          have hnb21 := NB188_189.out
          have hnc21 := NB189_188.out
          have hcz22_0 : wc.cell? ⟨gb188, 0, none⟩ = some (.slice A0_0 l0_0.length c0_0) := (blk_cell BK188.out 0).trans rfl
          have hcz22_1 : wc.cell? ⟨gb188, 1, none⟩ = some (.int .i64 a0_1) := (blk_cell BK188.out 1).trans rfl
          have hfz22_0 := blk_frozen BK188.out 0
          have hfz22_1 := blk_frozen BK188.out 1
          go_upto_region 6 with (first | ((with_reducible refine gate_callee (f := 21) rfl ?_); refine goesL_ (some 32) rfl rfl Try.func21 (by kernel_rfl) rfl #[.agg #[.slice A0_0 l0_0.length c0_0, .int .i64 a0_1], .int .i64 a1] rfl (by (try simp only [List.map_toArray, List.map_cons, List.map_nil]); first | done | rfl | (simp only [List.length_drop, List.length_take]; rfl)) ?_; (with_reducible refine (rialtoref12_Balance.calls kj6 _ _ l0_0 a0_1 a1 t191 _ ?side1 ?side2 A19.out).mono ?_); (case side1 => repeat (first | exact (Kd.C_below HR0_0.out HB.out) | (with_reducible refine Kd.C_alloc ?_ _) | (with_reducible refine Kd.C_drewN ?_ _) | (with_reducible refine Kd.C_drew ?_))); (case side2 => exact HC0_0.out); rintro e w23 ⟨rfl, hb⟩; refine ⟨_, rfl, ?_⟩; have n0_ := Aside0.mk (blk_below (g := gb188) (o := .cells #[.slice A0_0 l0_0.length c0_0, .int .i64 a0_1] 24 (0, 0)) (by (with_reducible repeat (first | refine blk_drewN ?_ _ | refine blk_drew ?_ | refine blk_alloc ?_ _)); exact BK188.out) hb); have n1_ := Aside0.mk (blk_below (g := gb189) (o := .cells #[.slice none 0 0, .int .i64 0] 24 (0, 0)) (by (with_reducible repeat (first | refine blk_drewN ?_ _ | refine blk_drew ?_ | refine blk_alloc ?_ _)); exact BK189.out) hb); have n2_ := Aside0.mk (below_step (by repeat (first | (with_reducible first | exact HB.out | apply below_alloc | apply pw_below_drewN | apply below_drew1 | refine below_set ?_ GE188.out | refine below_set ?_ GE189.out) | exact HB.out)) hb); clear BK188; clear BK189; clear HB; have BK188 := n0_; have BK189 := n1_; have HB := n2_; clear n0_ n1_ n2_; (try clear hb); (try clear hb2); (try clear hk); (try clear hi)))
          (try simp only [Act.put, List.setIfInBounds_toArray, List.set_cons_zero, List.set_cons_succ])
          go_cut [39] (fun v39 wc => ∃ (kq : Nat) (x39_19 : Bool), v39 = .bool x39_19 ∧ Aside0 (rialtoref12_moves.j1 kq a1 a2 a3 t191 x39_19 l0_0 a0_1 = some (r1, r2, r3)) ∧ Aside0 (kq ≤ kj6) ∧ Aside0 (wc.heap[gb188]? = some (.cells #[(.slice A0_0 l0_0.length c0_0), .int .i64 a0_1] 24 (0, 0))) ∧ Aside0 (wc.heap[gb189]? = some (.cells #[(.slice none 0 0), .int .i64 0] 24 (0, 0))) ∧ Aside0 (Below w.heap.size w wc))
          case first =>
            have H := HC20.out
            clear HC20
            by_cases c24 : a3 < 0
            · rw [if_pos c24] at H
              have c24b0 : decide (a3 < 0) = true := decide_eq_true c24
              clear c24
              (first | rw [c24b0] | (simp only [i64_w, i32_w]; rw [c24b0]) | skip)
              have H' := Aside0.mk H
              clear H
              go_wp2
              go_meet
              case rel => exact ⟨_, (decide (t191 < a2)), (by first | rfl | (simp; done) | (simp [*]; done)), H', ⟨by have := HJ6.out; first | omega | exact Nat.le_refl _⟩, ⟨by (with_reducible repeat (first | refine blk_drewN ?_ _ | refine blk_drew ?_ | refine blk_alloc ?_ _)); exact BK188.out⟩, ⟨by (with_reducible repeat (first | refine blk_drewN ?_ _ | refine blk_drew ?_ | refine blk_alloc ?_ _)); exact BK189.out⟩, ⟨by repeat (first | (with_reducible first | exact HB.out | apply below_alloc | apply pw_below_drewN | apply below_drew1 | refine below_set ?_ GE188.out | refine below_set ?_ GE189.out) | exact HB.out)⟩⟩
            · rw [if_neg c24] at H
              have c24b0 : decide (a3 < 0) = false := decide_eq_false c24
              clear c24
              (first | rw [c24b0] | (simp only [i64_w, i32_w]; rw [c24b0]) | skip)
              have H' := Aside0.mk H
              clear H
              go_wp2
              go_meet
              case rel => exact ⟨_, (false), (by first | rfl | (simp; done) | (simp [*]; done)), H', ⟨by have := HJ6.out; first | omega | exact Nat.le_refl _⟩, ⟨by (with_reducible repeat (first | refine blk_drewN ?_ _ | refine blk_drew ?_ | refine blk_alloc ?_ _)); exact BK188.out⟩, ⟨by (with_reducible repeat (first | refine blk_drewN ?_ _ | refine blk_drew ?_ | refine blk_alloc ?_ _)); exact BK189.out⟩, ⟨by repeat (first | (with_reducible first | exact HB.out | apply below_alloc | apply pw_below_drewN | apply below_drew1 | refine below_set ?_ GE188.out | refine below_set ?_ GE189.out) | exact HB.out)⟩⟩
          case rest =>
            clear HC20
            try clear c1
            try clear c2
            try clear p2
            try clear c6
            try clear c6b0
            try clear c6b1
            try clear c10
            try clear c13
            try clear c13b0
            try clear c14
            try clear c14b0
            try clear c15
            try clear c15b0
            try clear c16
            try clear c17
            try clear c19
            try clear c21
            try clear c24
            try clear c24b0
            try clear hcz11_0
            try clear hcz11_1
            try clear hcz18_0
            try clear hcz18_1
            try clear hcz22_0
            try clear hcz22_1
            try clear hfz11_0
            try clear hfz11_1
            try clear hfz18_0
            try clear hfz18_1
            try clear hfz22_0
            try clear hfz22_1
            try clear p2
            obtain ⟨kq, x39_19, rfl, HA, HJ19, BK188, BK189, HB⟩ := hcut
            cases kq with
            | zero => exact absurd HA.out (by simp [rialtoref12_moves.j1])
            | succ kj19 =>
              have H := HA.out
              clear HA
              simp only [rialtoref12_moves.j1] at H
              by_cases c25 : x39_19 = true
              · subst c25
                have H1 : (some (([] : List (S31)), 0, 121)) = some (r1, r2, r3) := by rw [if_pos rfl] at H; exact H
                clear H
                have H := H1
                clear H1
                simp only [Option.some.injEq, Prod.mk.injEq] at H
                obtain ⟨rfl, rfl, rfl⟩ := H
                have hnb26 := NB189_188.out
                have hnc26 := NB188_189.out
                have hcz27_0 : wc.cell? ⟨gb189, 0, none⟩ = some (.slice none 0 0) := (blk_cell BK189.out 0).trans rfl
                have hcz27_1 : wc.cell? ⟨gb189, 1, none⟩ = some (.int .i64 0) := (blk_cell BK189.out 1).trans rfl
                have hfz27_0 := blk_frozen BK189.out 0
                have hfz27_1 := blk_frozen BK189.out 1
                go_wp2
                refine bodyPost_ret (results_ct rfl _ _ gb189 24 #[.slice none 0 0, .int .i64 0] (0, 0) _ rfl (by (with_reducible repeat (first | refine blk_drewN ?_ _ | refine blk_drew ?_ | refine blk_alloc ?_ _)); refine blk_put (cs := #[.slice none 0 0, .int .i64 0]) ?_ 1 _ rfl; (with_reducible repeat (first | refine blk_drewN ?_ _ | refine blk_drew ?_ | refine blk_alloc ?_ _)); refine blk_put (cs := #[.slice none 0 0, .int .i64 0]) ?_ 0 _ rfl; (with_reducible repeat (first | refine blk_drewN ?_ _ | refine blk_drew ?_ | refine blk_alloc ?_ _)); exact BK189.out) Try.underlying24 rfl (by kernel_rfl)) rfl ?_
                exact ⟨_, by first | rfl | (simp [errW_none, errW_some] <;> rfl) | (simp [*, errW_none, errW_some] <;> rfl), by first | exact Kd.R_nil _ _ _ _ _ | exact Kd.N_nil _ _ _ _ _ | exact Kd.V_nil _ _ _ _ _ | exact Kd.Q_nil _ _ _ _ _ | exact Kd.S_nil _ _ _ _ _, by repeat (first | (with_reducible first | exact HB.out | apply below_alloc | apply pw_below_drewN | apply below_drew1 | refine below_set ?_ GE188.out | refine below_set ?_ GE189.out) | exact HB.out)⟩
              · replace c25 := Bool.eq_false_iff.mpr c25
                subst c25
                have H1 : (if (wrap64 (t191 + (wrap64 (a3 * a2)))) > 9007199254740992 then (some (([] : List (S31)), 0, 122)) else (if a0_1 = 1000000000 then (some (([] : List (S31)), 0, 122)) else ((rialtoref12_Set.f kj19 l0_0 a1 (wrap64 (t191 + (wrap64 (a3 * a2))))).bind fun t192 => (some (t192, wrap64 (a0_1 + 1), 0))))) = some (r1, r2, r3) := by rw [if_neg (show ¬ (false = true) by decide)] at H; exact H
                clear H
                have H := H1
                clear H1
                by_cases c28 : (wrap64 (t191 + (wrap64 (a3 * a2)))) > 9007199254740992
                · rw [if_pos c28] at H
                  have c28b0 : decide (9007199254740992 < (wrap64 (t191 + (wrap64 (a3 * a2))))) = true := decide_eq_true c28
                  clear c28
                  simp only [Option.some.injEq, Prod.mk.injEq] at H
                  obtain ⟨rfl, rfl, rfl⟩ := H
                  have hnb29 := NB189_188.out
                  have hnc29 := NB188_189.out
                  have hcz30_0 : wc.cell? ⟨gb189, 0, none⟩ = some (.slice none 0 0) := (blk_cell BK189.out 0).trans rfl
                  have hcz30_1 : wc.cell? ⟨gb189, 1, none⟩ = some (.int .i64 0) := (blk_cell BK189.out 1).trans rfl
                  have hfz30_0 := blk_frozen BK189.out 0
                  have hfz30_1 := blk_frozen BK189.out 1
                  go_wp2
                  refine bodyPost_ret (results_ct rfl _ _ gb189 24 #[.slice none 0 0, .int .i64 0] (0, 0) _ rfl (by (with_reducible repeat (first | refine blk_drewN ?_ _ | refine blk_drew ?_ | refine blk_alloc ?_ _)); refine blk_put (cs := #[.slice none 0 0, .int .i64 0]) ?_ 1 _ rfl; (with_reducible repeat (first | refine blk_drewN ?_ _ | refine blk_drew ?_ | refine blk_alloc ?_ _)); refine blk_put (cs := #[.slice none 0 0, .int .i64 0]) ?_ 0 _ rfl; (with_reducible repeat (first | refine blk_drewN ?_ _ | refine blk_drew ?_ | refine blk_alloc ?_ _)); exact BK189.out) Try.underlying24 rfl (by kernel_rfl)) rfl ?_
                  exact ⟨_, by first | rfl | (simp [errW_none, errW_some] <;> rfl) | (simp [*, errW_none, errW_some] <;> rfl), by first | exact Kd.R_nil _ _ _ _ _ | exact Kd.N_nil _ _ _ _ _ | exact Kd.V_nil _ _ _ _ _ | exact Kd.Q_nil _ _ _ _ _ | exact Kd.S_nil _ _ _ _ _, by repeat (first | (with_reducible first | exact HB.out | apply below_alloc | apply pw_below_drewN | apply below_drew1 | refine below_set ?_ GE188.out | refine below_set ?_ GE189.out) | exact HB.out)⟩
                · rw [if_neg c28] at H
                  have c28b0 : decide (9007199254740992 < (wrap64 (t191 + (wrap64 (a3 * a2))))) = false := decide_eq_false c28
                  clear c28
                  by_cases c31 : a0_1 = 1000000000
                  · rw [if_pos c31] at H
                    have c31b0 : (a0_1 == 1000000000) = true := beq_iff_eq.mpr c31
                    have c31b1 : (a0_1 != 1000000000) = false := bne_eq_false_iff_eq.mpr c31
                    clear c31
                    simp only [Option.some.injEq, Prod.mk.injEq] at H
                    obtain ⟨rfl, rfl, rfl⟩ := H
                    have hnb32 := NB188_189.out
                    have hnc32 := NB189_188.out
                    have hcz33_0 : wc.cell? ⟨gb188, 0, none⟩ = some (.slice A0_0 l0_0.length c0_0) := (blk_cell BK188.out 0).trans rfl
                    have hcz33_1 : wc.cell? ⟨gb188, 1, none⟩ = some (.int .i64 a0_1) := (blk_cell BK188.out 1).trans rfl
                    have hfz33_0 := blk_frozen BK188.out 0
                    have hfz33_1 := blk_frozen BK188.out 1
                    have hcz34_0 : wc.cell? ⟨gb189, 0, none⟩ = some (.slice none 0 0) := (blk_cell BK189.out 0).trans rfl
                    have hcz34_1 : wc.cell? ⟨gb189, 1, none⟩ = some (.int .i64 0) := (blk_cell BK189.out 1).trans rfl
                    have hfz34_0 := blk_frozen BK189.out 0
                    have hfz34_1 := blk_frozen BK189.out 1
                    go_wp2
                    refine bodyPost_ret (results_ct rfl _ _ gb189 24 #[.slice none 0 0, .int .i64 0] (0, 0) _ rfl (by (with_reducible repeat (first | refine blk_drewN ?_ _ | refine blk_drew ?_ | refine blk_alloc ?_ _)); refine blk_put (cs := #[.slice none 0 0, .int .i64 0]) ?_ 1 _ rfl; (with_reducible repeat (first | refine blk_drewN ?_ _ | refine blk_drew ?_ | refine blk_alloc ?_ _)); refine blk_put (cs := #[.slice none 0 0, .int .i64 0]) ?_ 0 _ rfl; (with_reducible repeat (first | refine blk_drewN ?_ _ | refine blk_drew ?_ | refine blk_alloc ?_ _)); exact BK189.out) Try.underlying24 rfl (by kernel_rfl)) rfl ?_
                    exact ⟨_, by first | rfl | (simp [errW_none, errW_some] <;> rfl) | (simp [*, errW_none, errW_some] <;> rfl), by first | exact Kd.R_nil _ _ _ _ _ | exact Kd.N_nil _ _ _ _ _ | exact Kd.V_nil _ _ _ _ _ | exact Kd.Q_nil _ _ _ _ _ | exact Kd.S_nil _ _ _ _ _, by repeat (first | (with_reducible first | exact HB.out | apply below_alloc | apply pw_below_drewN | apply below_drew1 | refine below_set ?_ GE188.out | refine below_set ?_ GE189.out) | exact HB.out)⟩
                  · rw [if_neg c31] at H
                    have c31b0 : (a0_1 == 1000000000) = false := beq_eq_false_iff_ne.mpr c31
                    have c31b1 : (a0_1 != 1000000000) = true := bne_iff_ne.mpr c31
                    replace H := Option.bind_eq_some_iff.mp H
                    obtain ⟨t192, A350, H⟩ := H
                    replace H : (some (t192, wrap64 (a0_1 + 1), 0)) = some (r1, r2, r3) := H
                    have A35 := Aside0.mk A350
                    clear A350
                    simp only [Option.some.injEq, Prod.mk.injEq] at H
                    obtain ⟨rfl, rfl, rfl⟩ := H
                    have hnb36 := NB188_189.out
                    have hnc36 := NB189_188.out
                    have hcz37_0 : wc.cell? ⟨gb188, 0, none⟩ = some (.slice A0_0 l0_0.length c0_0) := (blk_cell BK188.out 0).trans rfl
                    have hcz37_1 : wc.cell? ⟨gb188, 1, none⟩ = some (.int .i64 a0_1) := (blk_cell BK188.out 1).trans rfl
                    have hfz37_0 := blk_frozen BK188.out 0
                    have hfz37_1 := blk_frozen BK188.out 1
                    try go_wp2
                    have n0_ := Aside0.mk (blk_drew BK188.out)
                    have n1_ := Aside0.mk (blk_drew BK189.out)
                    have n2_ := Aside0.mk (below_drew1 HB.out)
                    clear BK188
                    clear BK189
                    clear HB
                    have BK188 := n0_
                    have BK189 := n1_
                    have HB := n2_
                    clear n0_ n1_ n2_
                    refine start_ (n := 15) (S := fun w' => w'.cell? ⟨gb188, 0, none⟩ = some (.slice A0_0 l0_0.length c0_0) ∧ w'.cell? ⟨gb188, 1, none⟩ = some (.int .i64 a0_1)) (ds := []) #[false, false, false, false, false, false, false, false, false, false, false, false, false, false, false] (by kernel_rfl) rfl rfl ⟨(blk_cell BK188.out 0).trans rfl, (blk_cell BK188.out 1).trans rfl⟩ (fun hHeld => ?_); refine with_tabW rialtoref12_moves.tab10 rialtoref12_moves.bits10 (fun HT_ HW_ => ?_)
                    generalize wc.drew = w38 at BK188 BK189 HB hHeld ⊢
                    refine pure_ (i := 0) (N := some 53) (v := ?_) (a' := ?_) #[true, false, false, false, false, false, false, false, false, false, false, false, false, false, false] rfl rfl (any_of HT_.out (by kernel_rfl)) (fun _ _ _ h => h) (Or.inl ⟨by rfl, ?_⟩) ?_ ?_
                    rotate_left
                    · intro w'
                      go_simp
                      with_reducible rfl
                    rotate_left
                    · simp only [Act.put, List.setIfInBounds_toArray, List.set_cons_zero, List.set_cons_succ, i64_w, i32_w]
                      rfl
                    refine pure_ (i := 2) (N := some 55) (v := ?_) (a' := ?_) #[true, false, true, false, false, false, false, false, false, false, false, false, false, false, false] rfl rfl (any_of HT_.out (by kernel_rfl)) (fun _ _ _ h => h) (Or.inl ⟨by rfl, ?_⟩) ?_ ?_
                    rotate_left
                    · intro w'
                      go_simp
                      with_reducible rfl
                    rotate_left
                    · simp only [Act.put, List.setIfInBounds_toArray, List.set_cons_zero, List.set_cons_succ, i64_w, i32_w]
                      rfl
                    refine pure_ (i := 3) (N := some 56) (v := ?_) (a' := ?_) #[true, false, true, true, false, false, false, false, false, false, false, false, false, false, false] rfl rfl (any_of HT_.out (by kernel_rfl)) (fun _ _ _ h => h) (Or.inl ⟨by rfl, ?_⟩) ?_ ?_
                    rotate_left
                    · intro w'
                      go_simp
                      with_reducible rfl
                    rotate_left
                    · simp only [Act.put, List.setIfInBounds_toArray, List.set_cons_zero, List.set_cons_succ, i64_w, i32_w]
                      rfl
                    refine pure_ (i := 4) (N := some 57) (v := ?_) (a' := ?_) #[true, false, true, true, true, false, false, false, false, false, false, false, false, false, false] rfl rfl (any_of HT_.out (by kernel_rfl)) (fun _ _ _ h => h) (Or.inl ⟨by rfl, ?_⟩) ?_ ?_
                    rotate_left
                    · intro w'
                      go_simp
                      with_reducible rfl
                    rotate_left
                    · simp only [Act.put, List.setIfInBounds_toArray, List.set_cons_zero, List.set_cons_succ, i64_w, i32_w]
                      rfl
                    refine pure_ (i := 5) (N := some 58) (v := ?_) (a' := ?_) #[true, false, true, true, true, true, false, false, false, false, false, false, false, false, false] rfl rfl (any_of HT_.out (by kernel_rfl)) (fun _ _ _ h => h) (Or.inl ⟨by rfl, ?_⟩) ?_ ?_
                    rotate_left
                    · intro w'
                      go_simp
                      with_reducible rfl
                    rotate_left
                    · simp only [Act.put, List.setIfInBounds_toArray, List.set_cons_zero, List.set_cons_succ, i64_w, i32_w]
                      rfl
                    refine pure_ (i := 6) (N := some 59) (v := ?_) (a' := ?_) #[true, false, true, true, true, true, true, false, false, false, false, false, false, false, false] rfl rfl (any_of HT_.out (by kernel_rfl)) (fun _ _ _ h => h) (Or.inl ⟨by rfl, ?_⟩) ?_ ?_
                    rotate_left
                    · intro w'
                      go_simp
                      with_reducible rfl
                    rotate_left
                    · simp only [Act.put, List.setIfInBounds_toArray, List.set_cons_zero, List.set_cons_succ, i64_w, i32_w]
                      rfl
                    refine pure_ (i := 7) (N := some 60) (v := ?_) (a' := ?_) #[true, false, true, true, true, true, true, true, false, false, false, false, false, false, false] rfl rfl (any_of HT_.out (by kernel_rfl)) (fun _ _ _ h => h) (Or.inl ⟨by rfl, ?_⟩) ?_ ?_
                    rotate_left
                    · intro w'
                      go_simp
                      with_reducible rfl
                    rotate_left
                    · simp only [Act.put, List.setIfInBounds_toArray, List.set_cons_zero, List.set_cons_succ, i64_w, i32_w]
                      rfl
                    refine pure_ (i := 9) (N := some 62) (v := ?_) (a' := ?_) #[true, false, true, true, true, true, true, true, false, true, false, false, false, false, false] rfl rfl (any_of HT_.out (by kernel_rfl)) (fun _ _ _ h => h) (Or.inl ⟨by rfl, ?_⟩) ?_ ?_
                    rotate_left
                    · intro w'
                      go_simp
                      with_reducible rfl
                    rotate_left
                    · simp only [Act.put, List.setIfInBounds_toArray, List.set_cons_zero, List.set_cons_succ, i64_w, i32_w]
                      rfl
                    refine take_ (i := 1) (N := some 54) (v := ?_) (a' := ?_) #[true, true, true, true, true, true, true, true, false, true, false, false, false, false, false] rfl rfl (take_ofW HT_.out HW_.out (by kernel_rfl)) (fun _ _ _ h => h) (Or.inl ⟨by rfl, ?_⟩) hHeld ?_ ?_
                    rotate_left
                    · rintro w' ⟨s0, s1⟩
                      go_simp
                      with_reducible rfl
                    rotate_left
                    · simp only [Act.put, List.setIfInBounds_toArray, List.set_cons_zero, List.set_cons_succ, i64_w, i32_w]
                      rfl
                    refine take_ (i := 10) (N := some 63) (v := ?_) (a' := ?_) #[true, true, true, true, true, true, true, true, false, true, true, false, false, false, false] rfl rfl (take_ofW HT_.out HW_.out (by kernel_rfl)) (fun _ _ _ h => h) (Or.inl ⟨by rfl, ?_⟩) hHeld ?_ ?_
                    rotate_left
                    · rintro w' ⟨s0, s1⟩
                      go_simp
                      with_reducible rfl
                    rotate_left
                    · simp only [Act.put, List.setIfInBounds_toArray, List.set_cons_zero, List.set_cons_succ, i64_w, i32_w]
                      rfl
                    refine pure_ (i := 11) (N := some 64) (v := ?_) (a' := ?_) #[true, true, true, true, true, true, true, true, false, true, true, true, false, false, false] rfl rfl (any_of HT_.out (by kernel_rfl)) (fun _ _ _ h => h) (Or.inl ⟨by rfl, ?_⟩) ?_ ?_
                    rotate_left
                    · intro w'
                      go_simp
                      with_reducible rfl
                    rotate_left
                    · simp only [Act.put, List.setIfInBounds_toArray, List.set_cons_zero, List.set_cons_succ, i64_w, i32_w]
                      rfl
                    refine one_ (i := 8) (N := some 61) #[true, true, true, true, true, true, true, true, true, true, true, true, false, false, false] rfl rfl (one_of HT_.out (by kernel_rfl)) (by decide) (fun K hK => ?_)
                    refine goes_ Try.func35 (by kernel_rfl) rfl #[.slice A0_0 l0_0.length c0_0, .int .i64 a1, .int .i64 (wrap64 (t191 + (wrap64 (a3 * a2))))] (by rfl) rfl rfl (by (try simp only [List.map_toArray, List.map_cons, List.map_nil]); first | done | rfl | (simp only [List.length_drop, List.length_take]; rfl)) ?_
                    with_reducible refine (rialtoref12_Set.calls kj19 _ _ l0_0 a1 (wrap64 (t191 + (wrap64 (a3 * a2)))) t192 _ ?side1 ?side2 A35.out).mono ?_
                    (case side1 => repeat (first | exact (Kd.C_below HR0_0.out HB.out) | (with_reducible refine Kd.C_alloc ?_ _) | (with_reducible refine Kd.C_drewN ?_ _) | (with_reducible refine Kd.C_drew ?_)))
                    (case side2 => exact HC0_0.out)
                    rintro e w39 ⟨v193, rfl, ho0, hb⟩
                    refine ⟨_, rfl, ?_⟩
                    have n0_ := Aside0.mk (Kd.R_lower ho0 (below_size (by repeat (first | (with_reducible first | exact HB.out | apply below_alloc | apply pw_below_drewN | apply below_drew1 | refine below_set ?_ GE188.out | refine below_set ?_ GE189.out) | exact HB.out))))
                    have n1_ := Aside0.mk (blk_below (g := gb188) (o := .cells #[.slice A0_0 l0_0.length c0_0, .int .i64 a0_1] 24 (0, 0)) (by (with_reducible repeat (first | refine blk_drewN ?_ _ | refine blk_drew ?_ | refine blk_alloc ?_ _)); exact BK188.out) hb)
                    have n2_ := Aside0.mk (blk_below (g := gb189) (o := .cells #[.slice none 0 0, .int .i64 0] 24 (0, 0)) (by (with_reducible repeat (first | refine blk_drewN ?_ _ | refine blk_drew ?_ | refine blk_alloc ?_ _)); exact BK189.out) hb)
                    have n3_ := Aside0.mk (below_step (by repeat (first | (with_reducible first | exact HB.out | apply below_alloc | apply pw_below_drewN | apply below_drew1 | refine below_set ?_ GE188.out | refine below_set ?_ GE189.out) | exact HB.out)) hb)
                    clear BK188
                    clear BK189
                    clear HB
                    have HO194 := n0_
                    have BK188 := n1_
                    have BK189 := n2_
                    have HB := n3_
                    clear n0_ n1_ n2_ n3_
                    (try clear hb)
                    (try clear hb2)
                    (try clear hk)
                    (try clear hi)
                    (try clear ho0)
                    obtain ⟨Ao40, co40, eo40⟩ := Kd.R_slice HO194.out
                    (first | subst eo40 | (injection eo40 with f1_ f2_ f3_; have f4_ := f1_.symm; have f5_ := f3_.symm; clear f1_ f2_ f3_; subst f4_; subst f5_))
                    refine hK.out _ _ ⟨(blk_cell BK188.out 0).trans rfl, (blk_cell BK188.out 1).trans rfl⟩ (fun hHeld => ?_)
                    clear hK K
                    refine norm_ (a' := ?_) ?_ ?_
                    rotate_left
                    · show Act.put _ (some 61) _ = _
                      simp only [Act.put, List.setIfInBounds_toArray, List.set_cons_zero, List.set_cons_succ, i64_w, i32_w]
                      rfl
                    refine pure_ (i := 12) (N := some 65) (v := ?_) (a' := ?_) #[true, true, true, true, true, true, true, true, true, true, true, true, true, false, false] rfl rfl (any_of HT_.out (by kernel_rfl)) (fun _ _ _ h => h) (Or.inl ⟨by rfl, ?_⟩) ?_ ?_
                    rotate_left
                    · intro w'
                      go_simp
                      with_reducible rfl
                    rotate_left
                    · simp only [Act.put, List.setIfInBounds_toArray, List.set_cons_zero, List.set_cons_succ, i64_w, i32_w]
                      rfl
                    refine one_ (i := 13) (N := none) #[true, true, true, true, true, true, true, true, true, true, true, true, true, true, false] rfl rfl (one_of HT_.out (by kernel_rfl)) (by decide) (fun K hK => ?_)
                    have hs41 : w39.cell? ⟨gb189, 0, none⟩ = some (.slice none 0 0) := (blk_cell BK189.out 0).trans rfl
                    have hfs41 := blk_frozen BK189.out 0
                    have hns41_0 := NB188_189.out
                    have hms41_0 := NB189_188.out
                    have hs42 : w39.cell? ⟨gb189, 1, none⟩ = some (.int .i64 0) := (blk_cell BK189.out 1).trans rfl
                    have hfs42 := blk_frozen BK189.out 1
                    have hns42_0 := NB188_189.out
                    have hms42_0 := NB189_188.out
                    refine skip_ (w1 := ?_) (by rfl) rfl ?_ ?_
                    rotate_left
                    · go_simp
                      rfl
                    refine hK.out _ _ ⟨((cell_far (p := ⟨gb189, _, none⟩) NB188_189.out _).trans (((cell_far (p := ⟨gb189, _, none⟩) NB188_189.out _).trans (hHeld.1)))), ((cell_far (p := ⟨gb189, _, none⟩) NB188_189.out _).trans (((cell_far (p := ⟨gb189, _, none⟩) NB188_189.out _).trans (hHeld.2))))⟩ (fun hHeld => ?_)
                    clear hK K
                    refine pure_ (i := 14) (N := some 9) (v := ?_) (a' := ?_) #[true, true, true, true, true, true, true, true, true, true, true, true, true, true, true] rfl rfl (any_of HT_.out (by kernel_rfl)) (fun _ _ _ h => h) (Or.inl ⟨by rfl, ?_⟩) ?_ ?_
                    rotate_left
                    · intro w'
                      go_simp
                      with_reducible rfl
                    rotate_left
                    · simp only [Act.put, List.setIfInBounds_toArray, List.set_cons_zero, List.set_cons_succ, i64_w, i32_w]
                      rfl
                    refine done_ (done_of HT_.out (by kernel_rfl)) ?_
                    try go_wp2
                    refine bodyPost_ret (results_ct rfl _ _ gb189 24 #[.slice Ao40 t192.length co40, .int .i64 (wrap64 (a0_1 + 1))] (0, 0) _ rfl (by (with_reducible repeat (first | refine blk_drewN ?_ _ | refine blk_drew ?_ | refine blk_alloc ?_ _)); refine blk_put (cs := #[.slice Ao40 t192.length co40, .int .i64 0]) ?_ 1 _ rfl; (with_reducible repeat (first | refine blk_drewN ?_ _ | refine blk_drew ?_ | refine blk_alloc ?_ _)); refine blk_put (cs := #[.slice none 0 0, .int .i64 0]) ?_ 0 _ rfl; (with_reducible repeat (first | refine blk_drewN ?_ _ | refine blk_drew ?_ | refine blk_alloc ?_ _)); exact BK189.out) Try.underlying24 rfl (by kernel_rfl)) rfl ?_
                    exact ⟨_, by first | rfl | (simp [errW_none, errW_some] <;> rfl) | (simp [*, errW_none, errW_some] <;> rfl), by (with_reducible repeat (first | apply Kd.R_alloc | apply Kd.R_drewN | apply Kd.R_drew)); exact Kd.R_mono (Kd.R_far (p := ⟨gb189, 1, none⟩) (Kd.R_far (p := ⟨gb189, 0, none⟩) (Kd.R_types HO194.out BK189.out (by decide)) (fun _ hk => hk.2) (.slice Ao40 t192.length co40)) (fun _ hk => hk.2) (.int .i64 (wrap64 (a0_1 + 1)))) (fun _ hk => trivial), by repeat (first | (with_reducible first | exact HB.out | apply below_alloc | apply pw_below_drewN | apply below_drew1 | refine below_set ?_ GE188.out | refine below_set ?_ GE189.out) | exact HB.out)⟩
  · rw [if_neg c6] at H
    have c6b0 : (t190 == 0) = false := beq_eq_false_iff_ne.mpr c6
    have c6b1 : (t190 != 0) = true := bne_iff_ne.mpr c6
    simp only [Option.some.injEq, Prod.mk.injEq] at H
    obtain ⟨rfl, rfl, rfl⟩ := H
    go_enter Try.func29, Try.ntmps29
    go_wp2_with (first | ((with_reducible refine gate_dst (N := 4) rfl ?_); refine box_event ?hg (N := 4) ?hd (cs := #[.slice A0_0 l0_0.length c0_0, .int .i64 a0_1]) (t := 24) ?hr ?_; (case hd => rfl); (case hg => rfl); (case hr => first | (go_simp; done) | (go_simp; rfl)); intro gb188 hg w43 hbox hb; have n0_ := Aside0.mk (below_step (by repeat (first | (with_reducible first | exact HB.out | apply below_alloc | apply pw_below_drewN | apply below_drew1) | exact HB.out)) hb); have n1_ := Aside0.mk (hbox); have n2_ := Aside0.mk ((by rw [hg]; exact (below_size (by repeat (first | (with_reducible first | exact HB.out | apply below_alloc | apply pw_below_drewN | apply below_drew1) | exact HB.out))) : w.heap.size ≤ gb188)); have n3_ := Aside0.mk ((by rw [hg]; exact (below_size (by repeat (first | (with_reducible first | exact HB.out | apply below_alloc | apply pw_below_drewN | apply below_drew1) | exact HB.out))) : w.heap.size ≤ gb188)); clear HB; have HB := n0_; have BK188 := n1_; have GW188 := n2_; have GE188 := n3_; clear n0_ n1_ n2_ n3_; clear hb hbox hg) | ((with_reducible refine gate_dst (N := 8) rfl ?_); refine box_event ?hg (N := 8) ?hd (cs := #[.slice none 0 0, .int .i64 0]) (t := 24) ?hr ?_; (case hd => rfl); (case hg => rfl); (case hr => first | (go_simp; done) | (go_simp; rfl)); intro gb189 hg w44 hbox hb; have n0_ := Aside0.mk (blk_below (g := gb188) (o := .cells #[.slice A0_0 l0_0.length c0_0, .int .i64 a0_1] 24 (0, 0)) (by (with_reducible repeat (first | refine blk_drewN ?_ _ | refine blk_drew ?_ | refine blk_alloc ?_ _)); exact BK188.out) hb); have n1_ := Aside0.mk (below_step (by repeat (first | (with_reducible first | exact HB.out | apply below_alloc | apply pw_below_drewN | apply below_drew1 | refine below_set ?_ GE188.out) | exact HB.out)) hb); have n2_ := Aside0.mk (hbox); have n3_ := Aside0.mk ((by rw [hg]; exact (below_size (by repeat (first | (with_reducible first | exact HB.out | apply below_alloc | apply pw_below_drewN | apply below_drew1 | refine below_set ?_ GE188.out) | exact HB.out))) : w.heap.size ≤ gb189)); have n4_ := Aside0.mk ((by rw [hg]; exact (below_size (by repeat (first | (with_reducible first | exact HB.out | apply below_alloc | apply pw_below_drewN | apply below_drew1 | refine below_set ?_ GE188.out) | exact HB.out))) : w.heap.size ≤ gb189)); have n5_ := Aside0.mk ((by rw [hg]; exact Nat.ne_of_lt (blk_lt (g := gb188) (o := .cells #[.slice A0_0 l0_0.length c0_0, .int .i64 a0_1] 24 (0, 0)) (by (with_reducible repeat (first | refine blk_drewN ?_ _ | refine blk_drew ?_ | refine blk_alloc ?_ _)); exact BK188.out)) : gb188 ≠ gb189)); have n6_ := Aside0.mk ((by rw [hg]; exact Nat.ne_of_gt (blk_lt (g := gb188) (o := .cells #[.slice A0_0 l0_0.length c0_0, .int .i64 a0_1] 24 (0, 0)) (by (with_reducible repeat (first | refine blk_drewN ?_ _ | refine blk_drew ?_ | refine blk_alloc ?_ _)); exact BK188.out)) : gb189 ≠ gb188)); clear BK188; clear HB; have BK188 := n0_; have HB := n1_; have BK189 := n2_; have GW189 := n3_; have GE189 := n4_; have NB188_189 := n5_; have NB189_188 := n6_; clear n0_ n1_ n2_ n3_ n4_ n5_ n6_; clear hb hbox hg; have hnb45 := NB188_189.out; have hnc45 := NB189_188.out; have hcz46_0 : w44.cell? ⟨gb188, 0, none⟩ = some (.slice A0_0 l0_0.length c0_0) := (blk_cell BK188.out 0).trans rfl; have hcz46_1 : w44.cell? ⟨gb188, 1, none⟩ = some (.int .i64 a0_1) := (blk_cell BK188.out 1).trans rfl; have hfz46_0 := blk_frozen BK188.out 0; have hfz46_1 := blk_frozen BK188.out 1) | ((with_reducible refine gate_callee (f := 19) rfl ?_); refine goesL_ (some 12) rfl rfl Try.func19 (by kernel_rfl) rfl #[.agg #[.slice A0_0 l0_0.length c0_0, .int .i64 a0_1]] rfl (by (try simp only [List.map_toArray, List.map_cons, List.map_nil]); first | done | rfl | (simp only [List.length_drop, List.length_take]; rfl)) ?_; (with_reducible refine (rialtoref12_Check.calls k _ _ l0_0 a0_1 t190 _ ?side1 ?side2 A5.out).mono ?_); (case side1 => repeat (first | exact (Kd.C_below HR0_0.out HB.out) | (with_reducible refine Kd.C_alloc ?_ _) | (with_reducible refine Kd.C_drewN ?_ _) | (with_reducible refine Kd.C_drew ?_))); (case side2 => exact HC0_0.out); rintro e w47 ⟨rfl, hb⟩; refine ⟨_, rfl, ?_⟩; have n0_ := Aside0.mk (blk_below (g := gb188) (o := .cells #[.slice A0_0 l0_0.length c0_0, .int .i64 a0_1] 24 (0, 0)) (by (with_reducible repeat (first | refine blk_drewN ?_ _ | refine blk_drew ?_ | refine blk_alloc ?_ _)); exact BK188.out) hb); have n1_ := Aside0.mk (blk_below (g := gb189) (o := .cells #[.slice none 0 0, .int .i64 0] 24 (0, 0)) (by (with_reducible repeat (first | refine blk_drewN ?_ _ | refine blk_drew ?_ | refine blk_alloc ?_ _)); exact BK189.out) hb); have n2_ := Aside0.mk (below_step (by repeat (first | (with_reducible first | exact HB.out | apply below_alloc | apply pw_below_drewN | apply below_drew1 | refine below_set ?_ GE188.out | refine below_set ?_ GE189.out) | exact HB.out)) hb); clear BK188; clear BK189; clear HB; have BK188 := n0_; have BK189 := n1_; have HB := n2_; clear n0_ n1_ n2_; (try clear hb); (try clear hb2); (try clear hk); (try clear hi); have hcz48_0 : w47.cell? ⟨gb189, 0, none⟩ = some (.slice none 0 0) := (blk_cell BK189.out 0).trans rfl; have hcz48_1 : w47.cell? ⟨gb189, 1, none⟩ = some (.int .i64 0) := (blk_cell BK189.out 1).trans rfl; have hfz48_0 := blk_frozen BK189.out 0; have hfz48_1 := blk_frozen BK189.out 1))
    refine bodyPost_ret (results_ct rfl _ _ gb189 24 #[.slice none 0 0, .int .i64 0] (0, 0) _ rfl (by (with_reducible repeat (first | refine blk_drewN ?_ _ | refine blk_drew ?_ | refine blk_alloc ?_ _)); refine blk_put (cs := #[.slice none 0 0, .int .i64 0]) ?_ 1 _ rfl; (with_reducible repeat (first | refine blk_drewN ?_ _ | refine blk_drew ?_ | refine blk_alloc ?_ _)); refine blk_put (cs := #[.slice none 0 0, .int .i64 0]) ?_ 0 _ rfl; (with_reducible repeat (first | refine blk_drewN ?_ _ | refine blk_drew ?_ | refine blk_alloc ?_ _)); exact BK189.out) Try.underlying24 rfl (by kernel_rfl)) rfl ?_
    exact ⟨_, by first | rfl | (simp [errW_none, errW_some] <;> rfl) | (simp [*, errW_none, errW_some] <;> rfl), by first | exact Kd.R_nil _ _ _ _ _ | exact Kd.N_nil _ _ _ _ _ | exact Kd.V_nil _ _ _ _ _ | exact Kd.Q_nil _ _ _ _ _ | exact Kd.S_nil _ _ _ _ _, by repeat (first | (with_reducible first | exact HB.out | apply below_alloc | apply pw_below_drewN | apply below_drew1 | refine below_set ?_ GE188.out | refine below_set ?_ GE189.out) | exact HB.out)⟩

end Go.Proofs.Ythblegfihenflaa.P
