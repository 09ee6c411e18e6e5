/- Functions that the laws reach, told as plain functions, each with a proof that the call computes it; for every input. Written by a program of ours out of the translation. -/
import Derived.Test.YthhdfefobblmkaaPx0
import Derived.Test.YthhdfefobblmkaaPx4
import Derived.Test.YthhdfefobblmkaaPx8
import Derived.Test.YthhdfefobblmkaaPx11
import Derived.Test.YthhdfefobblmkaaPx25
import Derived.Test.YthhdfefobblmkaaPx26
import Derived.Test.YthhdfefobblmkaaPx27
namespace Go.Proofs.Ythhdfefobblmkaa.P
open Go.RowKit Go.Proofs.YthhdfefobblmkaaW.PrintWords Go.Proofs.YthhdfefobblmkaaW.PrintLast Go.Proofs.YthhdfefobblmkaaW.PrintMore
open Go.Proofs.YthhdfefobblmkaaG (bk_ bl_ rk_)
attribute [local go_sem] max2_int min2_int max_two min_two max_three min_three max_four min_four   -- for this text's walks alone
set_option linter.unusedVariables false
set_option linter.unusedSimpArgs false

/-! ### term_Count: function 17 -/
/-! by hand -/
open Go.Proofs.YthhdfefobblmkaaG
mutual
def term_Count.j0 : Nat → Int → Int → Bool → Int → Bool → Int → Int → Int → List Int → Option (Int × Int × Int × List Int × Int)
 | 0, _, _, _, _, _, _, _, _, _ => none
 | k + 1, x1, x2, x3, x4, x20, x222000, x222001, x222002, x222003 => if x20 = true then (some (0, 0, 0, ([] : List Int), 1)) else ((term_ballot_heard.f x222000 x222001 x222002 x222003 x2).bind fun bt227 => (if x3 = true then (if bt227.2.2.1 = 2 then (term_Count.j1 k x1 x4 (bt227.1 != x2) bt227.1 bt227.2.1 bt227.2.2.1 bt227.2.2.2) else (term_Count.j1 k x1 x4 true bt227.1 bt227.2.1 bt227.2.2.1 bt227.2.2.2)) else (term_Count.j1 k x1 x4 true bt227.1 bt227.2.1 bt227.2.2.1 bt227.2.2.2)))
def term_Count.j1 : Nat → Int → Int → Bool → Int → Int → Int → List Int → Option (Int × Int × Int × List Int × Int)
 | 0, _, _, _, _, _, _, _ => none
 | k + 1, x1, x4, x52, x234000, x234001, x234002, x234003 => if x52 = true then (some (x234000, x234001, x234002, x234003, 0)) else ((slices_BinarySearch_int_int.f k x234003 x1).bind fun bt234 => (if bt234.2 = true then ((term_lead.f x234000 x234001 x234002 x234003 x4).bind fun bt236 => (some (bt236.1, bt236.2.1, bt236.2.2.1, bt236.2.2.2, 0))) else ((slices_Insert_int_int.f x234003 bt234.1 (([x1] : List Int))).bind fun t245 => ((term_lead.f x234000 x234001 x234002 t245 x4).bind fun bt248 => (some (bt248.1, bt248.2.1, bt248.2.2.1, bt248.2.2.2, 0))))))
end
def term_Count.f (k : Nat) (a0_0 : Int) (a0_1 : Int) (a0_2 : Int) (l0_3 : List Int) (a1 : Int) (a2 : Int) (a3 : Bool) (a4 : Int) : Option (Int × Int × Int × List Int × Int) := (term_ballot_fine.f k a0_0 a0_1 a0_2 l0_3).bind fun t223 => (if t223 = true then ((term_within.f a4 1 7).bind fun t224 => (if t224 = true then ((term_within.f a1 1 a4).bind fun t225 => (if t225 = true then ((term_within.f a2 1 1000000).bind fun t226 => (term_Count.j0 k a1 a2 a3 a4 (!t226) a0_0 a0_1 a0_2 l0_3)) else (term_Count.j0 k a1 a2 a3 a4 true a0_0 a0_1 a0_2 l0_3))) else (term_Count.j0 k a1 a2 a3 a4 true a0_0 a0_1 a0_2 l0_3))) else (some (0, 0, 0, ([] : List Int), 70)))
theorem term_Count.mono_l : ∀ k, (∀ y0 y1 y2 y3 y4 y5 y6 y7 y8, LeO (term_Count.j0 k y0 y1 y2 y3 y4 y5 y6 y7 y8) (term_Count.j0 (k + 1) y0 y1 y2 y3 y4 y5 y6 y7 y8)) ∧ (∀ y0 y1 y2 y3 y4 y5 y6, LeO (term_Count.j1 k y0 y1 y2 y3 y4 y5 y6) (term_Count.j1 (k + 1) y0 y1 y2 y3 y4 y5 y6))
 | 0 => ⟨fun _ _ _ _ _ _ _ _ _ r h => by simp [term_Count.j0] at h, fun _ _ _ _ _ _ _ r h => by simp [term_Count.j1] at h⟩
 | k + 1 => by
  obtain ⟨ih0, ih1⟩ := term_Count.mono_l k
  refine ⟨?_, ?_⟩
  ·intro y0 y1 y2 y3 y4 y5 y6 y7 y8
   unfold term_Count.j0
   repeat' first
   | (with_reducible exact ih0 _ _ _ _ _ _ _ _ _)
   | (with_reducible exact ih1 _ _ _ _ _ _ _)
   | (with_reducible exact slices_BinarySearch_int_int.mono _ _ _)
   | (with_reducible exact term_ballot_fine.mono _ _ _ _ _)
   | (with_reducible exact LeO.refl _)
   | (with_reducible exact LeO.none _)
   | (with_reducible refine LeO.ite ?_ ?_)
   | (with_reducible refine LeO.bind ?_ (fun _ => ?_))
   | exact ih0 _ _ _ _ _ _ _ _ _
   | exact ih1 _ _ _ _ _ _ _
   | exact slices_BinarySearch_int_int.mono _ _ _
   | exact term_ballot_fine.mono _ _ _ _ _
   | exact LeO.none _
   | refine LeO.ite ?_ ?_
   | refine LeO.bind ?_ (fun _ => ?_)
  ·intro y0 y1 y2 y3 y4 y5 y6
   unfold term_Count.j1
   repeat' first
   | (with_reducible exact ih0 _ _ _ _ _ _ _ _ _)
   | (with_reducible exact ih1 _ _ _ _ _ _ _)
   | (with_reducible exact slices_BinarySearch_int_int.mono _ _ _)
   | (with_reducible exact term_ballot_fine.mono _ _ _ _ _)
   | (with_reducible exact LeO.refl _)
   | (with_reducible exact LeO.none _)
   | (with_reducible refine LeO.ite ?_ ?_)
   | (with_reducible refine LeO.bind ?_ (fun _ => ?_))
   | exact ih0 _ _ _ _ _ _ _ _ _
   | exact ih1 _ _ _ _ _ _ _
   | exact slices_BinarySearch_int_int.mono _ _ _
   | exact term_ballot_fine.mono _ _ _ _ _
   | exact LeO.none _
   | refine LeO.ite ?_ ?_
   | refine LeO.bind ?_ (fun _ => ?_)
theorem term_Count.mono : ∀ a0 a1 a2 a3 a4 a5 a6 a7 k, LeO (term_Count.f k a0 a1 a2 a3 a4 a5 a6 a7) (term_Count.f (k + 1) a0 a1 a2 a3 a4 a5 a6 a7) := by
 intro a0 a1 a2 a3 a4 a5 a6 a7 k
 obtain ⟨ih0, ih1⟩ := term_Count.mono_l k
 unfold term_Count.f
 repeat' first
   | (with_reducible exact ih0 _ _ _ _ _ _ _ _ _)
   | (with_reducible exact ih1 _ _ _ _ _ _ _)
   | (with_reducible exact slices_BinarySearch_int_int.mono _ _ _)
   | (with_reducible exact term_ballot_fine.mono _ _ _ _ _)
   | (with_reducible exact LeO.refl _)
   | (with_reducible exact LeO.none _)
   | (with_reducible refine LeO.ite ?_ ?_)
   | (with_reducible refine LeO.bind ?_ (fun _ => ?_))
   | exact ih0 _ _ _ _ _ _ _ _ _
   | exact ih1 _ _ _ _ _ _ _
   | exact slices_BinarySearch_int_int.mono _ _ _
   | exact term_ballot_fine.mono _ _ _ _ _
   | exact LeO.none _
   | refine LeO.ite ?_ ?_
   | refine LeO.bind ?_ (fun _ => ?_)
theorem within_fC (a b c : Int) : term_within.f a b c = some (decide (b ≤ a ∧ a ≤ c)) := by
  unfold term_within.f
  by_cases h : b ≤ a
  · rw [if_pos h]; simp [h]
  · rw [if_neg h]; simp [h]
theorem drawn_below {w w1 : World} (h : Drawn0 w w1) : Below w.heap.size w w1 := by
  obtain ⟨n, rfl⟩ := h
  exact pw_below_drewN (Below.refl _ _) n
theorem put4 {W w : World} {g : Nat} {x0 x1 x2 x3 a b c v : Value} {l : List Int} (hb : W.heap[g]? = some (.cells #[x0, x1, x2, x3] 26 (0, 0))) (hg : w.heap.size ≤ g) (hB : Below w.heap.size w W) (ok : Nat → Prop) (ho : Kd.R (Kd.int .i64) 3 W w.heap.size ok v l) :
    ((((W.setCell ⟨g, 0, none⟩ a).setCell ⟨g, 1, none⟩ b).setCell ⟨g, 2, none⟩ c).setCell ⟨g, 3, none⟩ v).heap[g]? = some (.cells #[a, b, c, v] 26 (0, 0)) ∧ Kd.R (Kd.int .i64) 3 ((((W.setCell ⟨g, 0, none⟩ a).setCell ⟨g, 1, none⟩ b).setCell ⟨g, 2, none⟩ c).setCell ⟨g, 3, none⟩ v) w.heap.size (fun _ => True) v l ∧ Below w.heap.size w ((((W.setCell ⟨g, 0, none⟩ a).setCell ⟨g, 1, none⟩ b).setCell ⟨g, 2, none⟩ c).setCell ⟨g, 3, none⟩ v) := by
  have h0 := blk_put hb 0 a rfl
  have h1 := blk_put h0 1 b rfl
  have h2 := blk_put h1 2 c rfl
  have h3 := blk_put h2 3 v rfl
  have o := Kd.R_set (Kd.R_set (Kd.R_set (Kd.R_set ho hb (by decide) 0 a) h0 (by decide) 1 b) h1 (by decide) 2 c) h2 (by decide) 3 v
  exact ⟨h3, Kd.R_mono o (fun _ _ => trivial), below_set (below_set (below_set (below_set hB hg) hg) hg) hg⟩
theorem blk_cells4 {w : World} {g : Nat} {t : TypeId} {a b c d : Value} (h : w.heap[g]? = some (.cells #[a, b, c, d] t (0, 0))) : w.cell? ⟨g, 0, none⟩ = some a ∧ w.cell? ⟨g, 1, none⟩ = some b ∧ w.cell? ⟨g, 2, none⟩ = some c ∧ w.cell? ⟨g, 3, none⟩ = some d := ⟨(blk_cell h 0).trans rfl, (blk_cell h 1).trans rfl, (blk_cell h 2).trans rfl, (blk_cell h 3).trans rfl⟩
set_option maxHeartbeats 4000000 in
set_option maxRecDepth 100000 in
theorem term_Count.calls (k : Nat) (a0_0 : Int) (a0_1 : Int) (a0_2 : Int) (A0_3 : Option Addr) (c0_3 : Nat) (l0_3 : List Int) (a1 : Int) (a2 : Int) (a3 : Bool) (a4 : Int) (r1 : Int) (r2 : Int) (r3 : Int) (r4 : List Int) (r5 : Int) (w : World) (hr0_3 : Kd.C (Kd.int .i64) w A0_3 l0_3.length l0_3) (hc0_3 : l0_3.length ≤ c0_3) (h : term_Count.f k a0_0 a0_1 a0_2 l0_3 a1 a2 a3 a4 = some (r1, r2, r3, r4, r5)) :
  Calls Try.prog 17 #[.agg #[.int .i64 a0_0, .int .i64 a0_1, .int .i64 a0_2, .slice A0_3 l0_3.length c0_3], .int .i64 a1, .int .i64 a2, .bool a3, .int .i64 a4] w fun e w' => ∃ v3_ : Value, e = .returned (.tuple #[.agg #[.int .i64 r1, .int .i64 r2, .int .i64 r3, v3_], .int .i64 r5]) ∧ Kd.R (Kd.int .i64) 3 w' w.heap.size (fun _ => True) v3_ r4 ∧ Below w.heap.size w w' := by
  have hu26 := Try.underlying26
  have HR0 := Aside0.mk hr0_3
  have HC0 := Aside0.mk hc0_3
  clear hr0_3 hc0_3
  unfold term_Count.f at h
  obtain ⟨t0, ht0, H1⟩ := Option.bind_eq_some_iff.1 h
  have HT := Aside0.mk ht0
  have H' := Aside0.mk H1
  clear h ht0 H1
  go_enter Try.func17, Try.ntmps17
  go_wp2_with fail
  obtain ⟨g5, hg5⟩ : ∃ g5, g5 = w.heap.size := ⟨_, rfl⟩
  obtain ⟨g10, hg10⟩ : ∃ g10, g10 = w.heap.size + 1 := ⟨_, rfl⟩
  have n5 : ((w.alloc (.cells #[.int .i64 a0_0, .int .i64 a0_1, .int .i64 a0_2, .slice A0_3 l0_3.length c0_3] 26)).alloc (.cells #[.int .i64 0, .int .i64 0, .int .i64 0, .slice none 0 0] 26)).heap[g5]? = some (.cells #[.int .i64 a0_0, .int .i64 a0_1, .int .i64 a0_2, .slice A0_3 l0_3.length c0_3] 26 (0, 0)) := blk_alloc (hg5 ▸ blk_new w _) _
  have n10 : ((w.alloc (.cells #[.int .i64 a0_0, .int .i64 a0_1, .int .i64 a0_2, .slice A0_3 l0_3.length c0_3] 26)).alloc (.cells #[.int .i64 0, .int .i64 0, .int .i64 0, .slice none 0 0] 26)).heap[g10]? = some (.cells #[.int .i64 0, .int .i64 0, .int .i64 0, .slice none 0 0] 26 (0, 0)) := by have := blk_new (w.alloc (.cells #[.int .i64 a0_0, .int .i64 a0_1, .int .i64 a0_2, .slice A0_3 l0_3.length c0_3] 26)) (.cells #[.int .i64 0, .int .i64 0, .int .i64 0, .slice none 0 0] 26); rw [hg10]; simpa using this
  have nB := below_alloc (below_alloc (Below.refl w.heap.size w) (.cells #[.int .i64 a0_0, .int .i64 a0_1, .int .i64 a0_2, .slice A0_3 l0_3.length c0_3] 26)) (.cells #[.int .i64 0, .int .i64 0, .int .i64 0, .slice none 0 0] 26)
  rw [← hg10, ← hg5]
  have G10 := Aside0.mk (show w.heap.size ≤ g10 by omega)
  have G5 := Aside0.mk (show g5 ≠ g10 by omega)
  clear hg10 hg5
  generalize (w.alloc (.cells #[.int .i64 a0_0, .int .i64 a0_1, .int .i64 a0_2, .slice A0_3 l0_3.length c0_3] 26)).alloc (.cells #[.int .i64 0, .int .i64 0, .int .i64 0, .slice none 0 0] 26) = wa at n5 n10 nB ⊢
  refine (term_ballot_fine.calls k a0_0 a0_1 a0_2 A0_3 c0_3 l0_3 t0 _ (Kd.C_below HR0.out nB) HC0.out HT.out).mono ?_
  rintro e wb ⟨rfl, hb⟩
  have B5 := Aside0.mk (blk_below n5 hb)
  have B10 := Aside0.mk (blk_below n10 hb)
  have HB := Aside0.mk (below_step nB hb)
  clear n5 n10 nB hb HT
  by_cases ht : t0 = true
  rotate_left
  · obtain rfl : t0 = false := by cases t0 <;> simp_all
    have H := H'.out
    rw [if_neg (by decide)] at H
    simp only [Option.some.injEq, Prod.mk.injEq] at H
    obtain ⟨rfl, rfl, rfl, rfl, rfl⟩ := H
    have hz := fun j => blk_frozen B10.out j
    obtain ⟨z0, z1, z2, z3⟩ := blk_cells4 B10.out
    clear H' ht
    go_wp2
    have P := put4 (a := .int .i64 0) (b := .int .i64 0) (c := .int .i64 0) B10.out G10.out HB.out _ (Kd.R_nil (Kd.int .i64) 3 wb w.heap.size (fun _ => True))
    exact bodyPost_ret (results_ct rfl _ _ g10 26 #[.int .i64 0, .int .i64 0, .int .i64 0, .slice none 0 0] (0, 0) _ rfl P.1 Try.underlying26 rfl (by kernel_rfl)) rfl ⟨_, rfl, P.2.1, P.2.2⟩
  · subst ht
    have H := H'.out
    rw [if_pos rfl] at H
    simp only [within_fC, Option.bind_some] at H
    by_cases hok : (1 ≤ a4 ∧ a4 ≤ 7) ∧ (1 ≤ a1 ∧ a1 ≤ a4) ∧ (1 ≤ a2 ∧ a2 ≤ 1000000)
    rotate_left
    · have hr : (r1, r2, r3, r4, r5) = (0, 0, 0, [], 1) := by
        cases k with
        | zero =>
          repeat' split at H
          all_goals (simp [term_Count.j0] at H)
        | succ k =>
          have e : ∀ b : Bool, b = true → term_Count.j0 (k + 1) a1 a2 a3 a4 b a0_0 a0_1 a0_2 l0_3 = some (0, 0, 0, [], 1) := fun b hb => by subst hb; simp [term_Count.j0]
          repeat' split at H
          · rw [e _ (by simp at *; omega)] at H; exact (Option.some.inj H).symm
          · rw [e _ rfl] at H; exact (Option.some.inj H).symm
          · rw [e _ rfl] at H; exact (Option.some.inj H).symm
      simp only [Prod.mk.injEq] at hr
      obtain ⟨rfl, rfl, rfl, rfl, rfl⟩ := hr
      have hz := fun j => blk_frozen B10.out j
      obtain ⟨z0, z1, z2, z3⟩ := blk_cells4 B10.out
      have hbad : a4 < 1 ∨ 7 < a4 ∨ (1 ≤ a4 ∧ a4 ≤ 7 ∧ a1 < 1) ∨ (1 ≤ a4 ∧ a4 ≤ 7 ∧ a4 < a1) ∨ (1 ≤ a4 ∧ a4 ≤ 7 ∧ 1 ≤ a1 ∧ a1 ≤ a4 ∧ a2 < 1) ∨ (1 ≤ a4 ∧ a4 ≤ 7 ∧ 1 ≤ a1 ∧ a1 ≤ a4 ∧ 1000000 < a2) := by omega
      have P := Aside0.mk (put4 (a := .int .i64 0) (b := .int .i64 0) (c := .int .i64 0) B10.out G10.out HB.out _ (Kd.R_nil (Kd.int .i64) 3 wb w.heap.size (fun _ => True)))
      clear H' H hok
      rcases hbad with h | h | ⟨h1, h2, h⟩ | ⟨h1, h2, h⟩ | ⟨h1, h2, h3, h4, h⟩ | ⟨h1, h2, h3, h4, h⟩
      rotate_left 5
      have hd3 : decide (a2 ≤ 1000000) = false := decide_eq_false (by omega)
      rotate_right 5
      all_goals
        go_wp2
        exact bodyPost_ret (results_ct rfl _ _ g10 26 #[.int .i64 0, .int .i64 0, .int .i64 0, .slice none 0 0] (0, 0) _ rfl P.out.1 Try.underlying26 rfl (by kernel_rfl)) rfl ⟨_, rfl, P.out.2.1, P.out.2.2⟩
    · obtain ⟨⟨h1, h2⟩, ⟨h3, h4⟩, h5, h6⟩ := hok
      rw [decide_eq_true ⟨h1, h2⟩, decide_eq_true ⟨h3, h4⟩, decide_eq_true ⟨h5, h6⟩] at H
      simp only [if_true] at H
      cases k with
      | zero => simp [term_Count.j0] at H
      | succ k =>
        simp only [term_Count.j0, Bool.not_true] at H
        rw [if_neg (by decide)] at H
        obtain ⟨⟨t, v, ro, l⟩, hh, H1⟩ := Option.bind_eq_some_iff.1 H
        have HH := Aside0.mk hh
        clear H' H hh
        have H' := Aside0.mk H1
        clear H1
        obtain ⟨q0, q1, q2, q3⟩ := blk_cells4 B5.out
        have H16 := Aside0.mk (And.intro h1 (And.intro h2 (And.intro h3 (And.intro h4 (And.intro h5 h6)))))
        have W1 := Aside0.mk (show term_within.f a4 1 7 = some true by rw [within_fC, decide_eq_true ⟨h1, h2⟩])
        have W2 := Aside0.mk (show term_within.f a1 1 a4 = some true by rw [within_fC, decide_eq_true ⟨h3, h4⟩])
        have W3 := Aside0.mk (show term_within.f a2 1 1000000 = some true by rw [within_fC, decide_eq_true ⟨h5, h6⟩])
        clear h1 h2 h3 h4 h5 h6
        go_wp2_with fail
        refine (term_within.calls a4 1 7 true _ W1.out).mono ?_
        rintro e w1 ⟨rfl, hd1⟩
        go_wp2_with fail
        refine (term_within.calls a1 1 a4 true _ W2.out).mono ?_
        rintro e w2 ⟨rfl, hd2⟩
        go_wp2_with fail
        refine (term_within.calls a2 1 1000000 true _ W3.out).mono ?_
        rintro e w3 ⟨rfl, hd3⟩
        have hb := below_step (below_step (drawn_below hd1) (drawn_below hd2)) (drawn_below hd3)
        have n5 := Aside0.mk (below_step HB.out hb)
        have n6 := Aside0.mk (blk_below B5.out hb)
        have n10 := Aside0.mk (blk_below B10.out hb)
        clear B5 B10 HB q0 q1 q2 q3 W1 W2 W3 H16 hd1 hd2 hd3 hb
        have B5 := n6
        have B10 := n10
        have HB := n5
        clear n5 n6 n10
        obtain ⟨q0, q1, q2, q3⟩ := blk_cells4 B5.out
        go_wp2_with fail
        refine (term_ballot_heard.calls a0_0 a0_1 a0_2 A0_3 c0_3 l0_3 a2 t v ro l _ (Kd.C_below HR0.out HB.out) HC0.out HH.out).mono ?_
        rintro e wc ⟨v3, rfl, ho, hb⟩
        have n5 := below_step HB.out hb
        have n10 := blk_below B10.out hb
        have no := Kd.R_lower ho HB.out.size
        clear B5 B10 HB q0 q1 q2 q3 hb HH
        obtain ⟨A3, c3, rfl, hl3, hC3⟩ := Kd.R_reads ho
        clear ho
        obtain ⟨g12, hg12⟩ : ∃ g12, g12 = wc.heap.size := ⟨_, rfl⟩
        have G12 := Aside0.mk (show w.heap.size ≤ g12 by have := n5.size; omega)
        have N12 := Aside0.mk (show g12 ≠ g10 by have := blk_lt n10; omega)
        obtain ⟨wd, hwd⟩ : ∃ wd, wd = wc.alloc (.cells #[.int .i64 t, .int .i64 v, .int .i64 ro, .slice A3 l.length c3] 26) := ⟨_, rfl⟩
        have HB := Aside0.mk (below_alloc n5 (.cells #[.int .i64 t, .int .i64 v, .int .i64 ro, .slice A3 l.length c3] 26))
        have B10 := Aside0.mk (blk_alloc n10 (.cells #[.int .i64 t, .int .i64 v, .int .i64 ro, .slice A3 l.length c3] 26))
        have B12 := Aside0.mk (blk_new wc (.cells #[.int .i64 t, .int .i64 v, .int .i64 ro, .slice A3 l.length c3] 26))
        have HO := Aside0.mk (Kd.R_alloc no (.cells #[.int .i64 t, .int .i64 v, .int .i64 ro, .slice A3 l.length c3] 26))
        have L3 := Aside0.mk hl3
        clear n5 n10 no hl3 hC3
        rw [← hwd] at HB B10 B12 HO
        rw [← hg12] at B12
        obtain ⟨z0, z1, z2, z3⟩ := blk_cells4 B12.out
        obtain ⟨y0, y1, y2, y3⟩ := blk_cells4 B10.out
        have hz := fun j => blk_frozen B10.out j
        rw [hwd, hg12] at z0 z1 z2 z3
        rw [hwd] at y0 y1 y2 y3 hz
        by_cases hx : a3 = true ∧ ro = 2 ∧ t = a2
        rotate_left
        · have hr : (r1, r2, r3, r4, r5) = (t, v, ro, l, 0) := by
            have H := H'.out
            cases k with
            | zero => repeat' split at H
                      all_goals (simp [term_Count.j1] at H)
            | succ k =>
              have e : ∀ b : Bool, b = true → term_Count.j1 (k + 1) a1 a4 b t v ro l = some (t, v, ro, l, 0) := fun b hb => by subst hb; simp [term_Count.j1]
              repeat' split at H
              · rw [e _ (bne_iff_ne.mpr (fun e => hx ⟨by assumption, by assumption, e⟩))] at H; exact (Option.some.inj H).symm
              · rw [e _ rfl] at H; exact (Option.some.inj H).symm
              · rw [e _ rfl] at H; exact (Option.some.inj H).symm
          simp only [Prod.mk.injEq] at hr
          obtain ⟨rfl, rfl, rfl, rfl, rfl⟩ := hr
          have P := Aside0.mk (put4 (a := .int .i64 r1) (b := .int .i64 r2) (c := .int .i64 r3) B10.out G10.out HB.out _ HO.out)
          rw [hwd] at P
          have HX := Aside0.mk hx
          clear H' hwd hg12 B10 B12 HB HO hx
          cases a3 with
          | false =>
            go_wp2
            exact bodyPost_ret (results_ct rfl _ _ g10 26 #[.int .i64 r1, .int .i64 r2, .int .i64 r3, .slice A3 r4.length c3] (0, 0) _ rfl P.out.1 Try.underlying26 rfl (by kernel_rfl)) rfl ⟨_, rfl, P.out.2.1, P.out.2.2⟩
          | true =>
            by_cases hro : r3 = 2
            · have e1 : (r3 != 2) = false := bne_eq_false_iff_eq.mpr hro
              have e2 : (r1 != a2) = true := bne_iff_ne.mpr (fun e => HX.out ⟨rfl, hro, e⟩)
              clear hro
              go_wp2
              exact bodyPost_ret (results_ct rfl _ _ g10 26 #[.int .i64 r1, .int .i64 r2, .int .i64 r3, .slice A3 r4.length c3] (0, 0) _ rfl P.out.1 Try.underlying26 rfl (by kernel_rfl)) rfl ⟨_, rfl, P.out.2.1, P.out.2.2⟩
            · have e1 : (r3 != 2) = true := bne_iff_ne.mpr hro
              clear hro
              go_wp2
              exact bodyPost_ret (results_ct rfl _ _ g10 26 #[.int .i64 r1, .int .i64 r2, .int .i64 r3, .slice A3 r4.length c3] (0, 0) _ rfl P.out.1 Try.underlying26 rfl (by kernel_rfl)) rfl ⟨_, rfl, P.out.2.1, P.out.2.2⟩
        · obtain ⟨rfl, rfl, rfl⟩ := hx
          have H := H'.out
          clear H'
          simp only [if_true, bne_self_eq_false] at H
          cases k with
          | zero => simp [term_Count.j1] at H
          | succ k =>
            simp only [term_Count.j1] at H
            rw [if_neg (by decide)] at H
            obtain ⟨⟨p, there⟩, hp, H1⟩ := Option.bind_eq_some_iff.1 H
            have HP := Aside0.mk hp
            have H' := Aside0.mk H1
            clear H hp H1
            go_wp2_with fail
            rw [← hwd, ← hg12]
            clear hwd z0 z1 z2 z3 y0 y1 y2 y3 hz
            refine (slices_BinarySearch_int_int.calls k _ _ l a1 p there _ (by obtain ⟨A, c, e, _, hC⟩ := Kd.R_reads HO.out; injection e with e1 _ e2; rw [e1]; exact hC) L3.out HP.out).mono ?_
            rintro e we ⟨rfl, hd⟩
            have hb := drawn_below hd
            have n5 := Aside0.mk (below_step HB.out hb)
            have n10 := Aside0.mk (blk_below B10.out hb)
            have n12 := Aside0.mk (blk_below B12.out hb)
            have no := Aside0.mk (Kd.R_below HO.out hb)
            clear HB B10 B12 HO hb hd HP
            have HB := n5
            have B10 := n10
            have B12 := n12
            have HO := no
            clear n5 n10 n12 no hg12
            obtain ⟨z0, z1, z2, z3⟩ := blk_cells4 B12.out
            have H := H'.out
            clear H'
            cases there with
            | true =>
              rw [if_pos rfl] at H
              obtain ⟨⟨s1, s2, s3, s4⟩, hs, H1⟩ := Option.bind_eq_some_iff.1 H
              simp only [Option.some.injEq, Prod.mk.injEq] at H1
              obtain ⟨rfl, rfl, rfl, rfl, rfl⟩ := H1
              have HS := Aside0.mk hs
              clear hs H
              go_wp2_with fail
              clear z0 z1 z2 z3
              refine (term_lead.calls _ _ _ _ _ _ _ _ _ _ _ w we HB.out (Kd.R_tight rfl HO.out) HS.out).mono ?_
              rintro e wf ⟨v9, rfl, ho9, hb9, hk9⟩
              have n10 := blk_kept B10.out hk9 (fun e => Kd.R_ne HO.out B10.out (by decide) e)
              clear HO B12 B10 hk9 HB HS
              obtain ⟨A9, c9, rfl⟩ := Kd.R_slice ho9
              have P := Aside0.mk (put4 (a := .int .i64 s1) (b := .int .i64 s2) (c := .int .i64 s3) n10 G10.out hb9 _ ho9)
              have hz := fun j => blk_frozen n10 j
              obtain ⟨y0, y1, y2, y3⟩ := blk_cells4 n10
              clear n10 ho9 hb9
              go_wp2
              exact bodyPost_ret (results_ct rfl _ _ g10 26 #[.int .i64 s1, .int .i64 s2, .int .i64 s3, .slice A9 s4.length c9] (0, 0) _ rfl P.out.1 Try.underlying26 rfl (by kernel_rfl)) rfl ⟨_, rfl, P.out.2.1, P.out.2.2⟩
            | false =>
              rw [if_neg (by decide)] at H
              obtain ⟨l2, hi, H1⟩ := Option.bind_eq_some_iff.1 H
              obtain ⟨⟨s1, s2, s3, s4⟩, hs, H2⟩ := Option.bind_eq_some_iff.1 H1
              simp only [Option.some.injEq, Prod.mk.injEq] at H2
              obtain ⟨rfl, rfl, rfl, rfl, rfl⟩ := H2
              have HS := Aside0.mk hs
              have HI := Aside0.mk hi
              clear hs hi H H1
              go_wp2_with fail
              have m1 := Kd.R_of_own (h1 := fun _ => rfl) (enc := Value.int .i64) (ok := fun k => k = we.heap.size) (own_lit we w.heap.size 3 .i64 [a1] HB.out.size (by simp)) (fun k hk => by injection hk with hk; exact hk.symm)
              clear z0 z1 z2 z3
              refine (slices_Insert_int_int.calls _ _ l p _ _ [a1] l2 w _ (below_alloc HB.out (.cells #[.int .i64 a1] 3)) (Kd.R_tight rfl (Kd.R_alloc HO.out (.cells #[.int .i64 a1] 3))) ?_ m1 ?_ HI.out).mono ?_
              · intro k_ e_ h_
                have := Kd.R_lt HO.out k_ e_.symm
                omega
              · intro k_ e_ h_
                have := Kd.R_lt HO.out k_ h_.symm
                omega
              rintro e wi ⟨v5, rfl, ho5, hb5, hk5⟩
              have n10 := blk_kept (blk_alloc B10.out (.cells #[.int .i64 a1] 3)) hk5 (fun hs_ => Or.elim hs_ (fun e_ => Kd.R_ne HO.out B10.out (by decide) e_) (fun e_ => by have := blk_lt B10.out; omega))
              have n12 := blk_kept (blk_alloc B12.out (.cells #[.int .i64 a1] 3)) hk5 (fun hs_ => Or.elim hs_ (fun e_ => Kd.R_ne HO.out B12.out (by decide) e_) (fun e_ => by have := blk_lt B12.out; omega))
              clear hk5 B10 B12 HO HB HI m1
              obtain ⟨A5, c5, rfl⟩ := Kd.R_slice ho5
              have o5 := Kd.R_set ho5 n12 (by decide) 3 (.slice A5 l2.length c5)
              have b5 := below_set (j := 3) (v := .slice A5 l2.length c5) hb5 G12.out
              have m12 := blk_put n12 3 (.slice A5 l2.length c5) rfl
              have m10 := blk_far n10 (p := ⟨g12, 3, none⟩) (fun e => N12.out e.symm) (.slice A5 l2.length c5)
              have q3 := blk_frozen n12 3
              obtain ⟨z0, z1, z2, z3⟩ := blk_cells4 n12
              have HB := Aside0.mk b5
              have HO := Aside0.mk o5
              have B10 := Aside0.mk m10
              have B12 := Aside0.mk m12
              clear ho5 hb5 n10 n12 o5 b5 m12 m10
              go_wp2_with fail
              refine (term_lead.calls _ _ _ _ _ _ _ _ _ _ _ w _ HB.out (Kd.R_tight rfl HO.out) HS.out).mono ?_
              clear z0 z1 z2 z3 q3
              rintro e wf ⟨v9, rfl, ho9, hb9, hk9⟩
              have n10 := blk_kept B10.out hk9 (fun e => Kd.R_ne HO.out B10.out (by decide) e)
              clear HO B12 B10 hk9 HB HS
              obtain ⟨A9, c9, rfl⟩ := Kd.R_slice ho9
              have P := Aside0.mk (put4 (a := .int .i64 s1) (b := .int .i64 s2) (c := .int .i64 s3) n10 G10.out hb9 _ ho9)
              have hz := fun j => blk_frozen n10 j
              obtain ⟨y0, y1, y2, y3⟩ := blk_cells4 n10
              clear n10 ho9 hb9
              go_wp2
              exact bodyPost_ret (results_ct rfl _ _ g10 26 #[.int .i64 s1, .int .i64 s2, .int .i64 s3, .slice A9 s4.length c9] (0, 0) _ rfl P.out.1 Try.underlying26 rfl (by kernel_rfl)) rfl ⟨_, rfl, P.out.2.1, P.out.2.2⟩
/-! end by hand -/

end Go.Proofs.Ythhdfefobblmkaa.P
