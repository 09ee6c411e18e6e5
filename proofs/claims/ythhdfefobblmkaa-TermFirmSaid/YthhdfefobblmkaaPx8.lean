/- Functions that the laws reach, told as plain functions, each with a proof that the call computes it; for every input. Written by a program of ours out of the translation. -/
import Derived.Test.YthhdfefobblmkaaPx0
import Derived.Test.YthhdfefobblmkaaPx4
import Derived.Test.YthhdfefobblmkaaPx7
namespace Go.Proofs.Ythhdfefobblmkaa.P
open Go.RowKit Go.Proofs.YthhdfefobblmkaaW.PrintWords Go.Proofs.YthhdfefobblmkaaW.PrintLast Go.Proofs.YthhdfefobblmkaaW.PrintMore
open Go.Proofs.YthhdfefobblmkaaG (bk_ bl_ rk_)
attribute [local go_sem] max2_int min2_int max_two min_two max_three min_three max_four min_four   -- for this text's walks alone
set_option linter.unusedVariables false
set_option linter.unusedSimpArgs false

/-! ### term_ballot_fine: function 24 -/
/-! by hand -/
open Go.Proofs.YthhdfefobblmkaaG
@[reducible] def KfineF_0 : Array Bool := #[false, false, false, false, false, false, false, false, false, false, false]
@[reducible] def KfineF_1 : Array Bool := #[true, false, false, false, false, false, false, false, false, false, false]
@[reducible] def KfineF_2 : Array Bool := #[true, true, false, false, false, false, false, false, false, false, false]
@[reducible] def KfineF_3 : Array Bool := #[true, true, true, false, false, false, false, false, false, false, false]
@[reducible] def KfineF_4 : Array Bool := #[true, true, true, true, false, false, false, false, false, false, false]
@[reducible] def KfineF_5 : Array Bool := #[true, true, true, true, true, false, false, false, false, false, false]
@[reducible] def KfineF_6 : Array Bool := #[true, true, true, true, true, false, true, false, false, false, false]
@[reducible] def KfineF_7 : Array Bool := #[true, true, true, true, true, true, true, true, true, true, false]
@[reducible] def KfineF_8 : Array Bool := #[true, true, true, true, true, true, true, false, false, false, false]
@[reducible] def KfineF_9 : Array Bool := #[true, true, true, true, true, false, true, false, false, true, false]
@[reducible] def KfineF_10 : Array Bool := #[true, true, true, true, true, true, true, true, false, false, false]
@[reducible] def KfineF_11 : Array Bool := #[true, true, true, true, true, true, true, false, false, true, false]
@[reducible] def KfineF_12 : Array Bool := #[true, true, true, true, true, true, true, true, true, false, false]
@[reducible] def KfineF_13 : Array Bool := #[true, true, true, true, true, true, true, true, false, true, false]
@[reducible] def KfineF_14 : Array Bool := #[true, true, true, true, true, true, true, true, true, true, true]
theorem within_fF (a b c : Int) : term_within.f a b c = some (decide (b ≤ a ∧ a ≤ c)) := by
  unfold term_within.f
  by_cases h : b ≤ a
  · rw [if_pos h]; simp [h]
  · rw [if_neg h]; simp [h]
theorem blk_cells4' {w : World} {g : Nat} {t : TypeId} {a b c d : Value} (h : w.heap[g]? = some (.cells #[a, b, c, d] t (0, 0))) : w.cell? ⟨g, 0, none⟩ = some a ∧ w.cell? ⟨g, 1, none⟩ = some b ∧ w.cell? ⟨g, 2, none⟩ = some c ∧ w.cell? ⟨g, 3, none⟩ = some d := ⟨(blk_cell h 0).trans rfl, (blk_cell h 1).trans rfl, (blk_cell h 2).trans rfl, (blk_cell h 3).trans rfl⟩
def term_ballot_fine.f (k : Nat) (a0_0 : Int) (a0_1 : Int) (a0_2 : Int) (l0_3 : List Int) : Option (Bool) := (term_ballot_stands.f k a0_0 a0_1 a0_2 l0_3).bind fun t117 => ((term_ballot_stands.f k a0_0 a0_1 a0_2 l0_3).bind fun t118 => ((term_within.f a0_0 0 1000000).bind fun t121 => (if t121 = true then ((term_within.f a0_1 0 7).bind fun t122 => (if t122 = true then (if a0_0 > 0 then ((term_within.f a0_2 1 3).bind fun t123 => (if t123 = true then (if a0_2 = 0 then (some false) else (if a0_2 = 1 then (some ((l0_3.length : Int) == 0)) else (if a0_2 = 2 then (some t117) else (if a0_2 = 3 then (some t118) else (none))))) else (some false))) else (if a0_1 = 0 then ((term_within.f a0_2 1 3).bind fun t128 => (if t128 = true then (if a0_2 = 0 then (some false) else (if a0_2 = 1 then (some ((l0_3.length : Int) == 0)) else (if a0_2 = 2 then (some t117) else (if a0_2 = 3 then (some t118) else (none))))) else (some false))) else (some false))) else (some false))) else (some false))))
theorem term_ballot_fine.mono : ∀ a0 a1 a2 a3 k, LeO (term_ballot_fine.f k a0 a1 a2 a3) (term_ballot_fine.f (k + 1) a0 a1 a2 a3) := by
 intro a0 a1 a2 a3 k
 unfold term_ballot_fine.f
 repeat' first
   | (with_reducible exact term_ballot_stands.mono _ _ _ _ _)
   | (with_reducible exact LeO.refl _)
   | (with_reducible exact LeO.none _)
   | (with_reducible refine LeO.ite ?_ ?_)
   | (with_reducible refine LeO.bind ?_ (fun _ => ?_))
   | exact term_ballot_stands.mono _ _ _ _ _
   | exact LeO.none _
   | refine LeO.ite ?_ ?_
   | refine LeO.bind ?_ (fun _ => ?_)
def term_ballot_fine.T1 : Bool × List (List Nat × List Nat) := (true, [([], []), ([0], [0]), ([1], [1]), ([2], [2]), ([], []), ([4], [4]), ([], []), ([6, 5], [6]), ([3, 5, 7], [3, 5, 7]), ([], []), ([9, 8, 7, 0, 1, 2, 3, 4, 5, 6, 7, 8, 9], [8, 9])])
def term_ballot_fine.B1 : List Nat := [0, 1, 3, 7, 0, 16, 0, 112, 255, 0, 1023]
theorem term_ballot_fine.tab1 : rtab .any (opsOf Try.f24 1) = term_ballot_fine.T1 := by kernel_rfl
theorem term_ballot_fine.bits1 : waitsOk term_ballot_fine.T1.2 term_ballot_fine.B1 = true := by kernel_rfl
set_option maxHeartbeats 8000000 in
set_option maxRecDepth 100000 in
theorem term_ballot_fine.calls (k : Nat) (a0_0 : Int) (a0_1 : Int) (a0_2 : Int) (A0_3 : Option Addr) (c0_3 : Nat) (l0_3 : List Int) (r : Bool) (w : World) (hr0_3 : Kd.C (Kd.int .i64) w A0_3 l0_3.length l0_3) (hc0_3 : l0_3.length ≤ c0_3) (h : term_ballot_fine.f k a0_0 a0_1 a0_2 l0_3 = some r) :
  Calls Try.prog 24 #[.agg #[.int .i64 a0_0, .int .i64 a0_1, .int .i64 a0_2, .slice A0_3 l0_3.length c0_3]] w fun e w' => e = .returned (.bool r) ∧ Below w.heap.size w w' := by
 have hu60 := Try.underlying60
 have hu70 := Try.underlying70
 have hu23 := Try.underlying23
 have HR0_3 := Aside0.mk hr0_3
 have HC0_3 := Aside0.mk hc0_3
 clear hr0_3 hc0_3
 have HB := Aside0.mk (Below.refl w.heap.size w)
 have H : ((term_ballot_stands.f k a0_0 a0_1 a0_2 l0_3).bind fun t117 => ((term_ballot_stands.f k a0_0 a0_1 a0_2 l0_3).bind fun t118 => ((term_within.f a0_0 0 1000000).bind fun t121 => (if t121 = true then ((term_within.f a0_1 0 7).bind fun t122 => (if t122 = true then (if a0_0 > 0 then ((term_within.f a0_2 1 3).bind fun t123 => (if t123 = true then (if a0_2 = 0 then (some false) else (if a0_2 = 1 then (some ((l0_3.length : Int) == 0)) else (if a0_2 = 2 then (some t117) else (if a0_2 = 3 then (some t118) else (none))))) else (some false))) else (if a0_1 = 0 then ((term_within.f a0_2 1 3).bind fun t128 => (if t128 = true then (if a0_2 = 0 then (some false) else (if a0_2 = 1 then (some ((l0_3.length : Int) == 0)) else (if a0_2 = 2 then (some t117) else (if a0_2 = 3 then (some t118) else (none))))) else (some false))) else (some false))) else (some false))) else (some false))))) = some r := h
 clear h
 replace H := Option.bind_eq_some_iff.mp H
 obtain ⟨t117, A20, H⟩ := H
 replace H : ((term_ballot_stands.f k a0_0 a0_1 a0_2 l0_3).bind fun t118 => ((term_within.f a0_0 0 1000000).bind fun t121 => (if t121 = true then ((term_within.f a0_1 0 7).bind fun t122 => (if t122 = true then (if a0_0 > 0 then ((term_within.f a0_2 1 3).bind fun t123 => (if t123 = true then (if a0_2 = 0 then (some false) else (if a0_2 = 1 then (some ((l0_3.length : Int) == 0)) else (if a0_2 = 2 then (some t117) else (if a0_2 = 3 then (some t118) else (none))))) else (some false))) else (if a0_1 = 0 then ((term_within.f a0_2 1 3).bind fun t128 => (if t128 = true then (if a0_2 = 0 then (some false) else (if a0_2 = 1 then (some ((l0_3.length : Int) == 0)) else (if a0_2 = 2 then (some t117) else (if a0_2 = 3 then (some t118) else (none))))) else (some false))) else (some false))) else (some false))) else (some false)))) = some r := H
 have A2 := Aside0.mk A20
 clear A20
 replace H := Option.bind_eq_some_iff.mp H
 obtain ⟨t118, A30, H⟩ := H
 replace H : ((term_within.f a0_0 0 1000000).bind fun t121 => (if t121 = true then ((term_within.f a0_1 0 7).bind fun t122 => (if t122 = true then (if a0_0 > 0 then ((term_within.f a0_2 1 3).bind fun t123 => (if t123 = true then (if a0_2 = 0 then (some false) else (if a0_2 = 1 then (some ((l0_3.length : Int) == 0)) else (if a0_2 = 2 then (some t117) else (if a0_2 = 3 then (some t118) else (none))))) else (some false))) else (if a0_1 = 0 then ((term_within.f a0_2 1 3).bind fun t128 => (if t128 = true then (if a0_2 = 0 then (some false) else (if a0_2 = 1 then (some ((l0_3.length : Int) == 0)) else (if a0_2 = 2 then (some t117) else (if a0_2 = 3 then (some t118) else (none))))) else (some false))) else (some false))) else (some false))) else (some false))) = some r := H
 have A3 := Aside0.mk A30
 clear A30
 replace H := Option.bind_eq_some_iff.mp H
 obtain ⟨t121, A40, H⟩ := H
 replace H : (if t121 = true then ((term_within.f a0_1 0 7).bind fun t122 => (if t122 = true then (if a0_0 > 0 then ((term_within.f a0_2 1 3).bind fun t123 => (if t123 = true then (if a0_2 = 0 then (some false) else (if a0_2 = 1 then (some ((l0_3.length : Int) == 0)) else (if a0_2 = 2 then (some t117) else (if a0_2 = 3 then (some t118) else (none))))) else (some false))) else (if a0_1 = 0 then ((term_within.f a0_2 1 3).bind fun t128 => (if t128 = true then (if a0_2 = 0 then (some false) else (if a0_2 = 1 then (some ((l0_3.length : Int) == 0)) else (if a0_2 = 2 then (some t117) else (if a0_2 = 3 then (some t118) else (none))))) else (some false))) else (some false))) else (some false))) else (some false)) = some r := H
 have A4 := Aside0.mk A40
 clear A40
 go_enter Try.func24, Try.ntmps24
 try go_wp2_with (first | ((with_reducible refine gate_dst (N := 1) rfl ?_); refine box_event ?hg (N := 1) ?hd (cs := #[.int .i64 a0_0, .int .i64 a0_1, .int .i64 a0_2, .slice A0_3 l0_3.length c0_3]) (t := 60) ?hr ?_; (case hd => rfl); (case hg => rfl); (case hr => first | (go_simp; done) | (go_simp; rfl)); intro gb116 hg w12 hbox hb; have n0_ := Aside0.mk (below_step (by exact bl_ HB.out) hb); have n1_ := Aside0.mk (hbox); have n2_ := Aside0.mk ((by rw [hg]; exact (below_size (by exact bl_ HB.out)) : w.heap.size ≤ gb116)); have n3_ := Aside0.mk ((by rw [hg]; exact (below_size (by exact bl_ HB.out)) : w.heap.size ≤ gb116)); clear HB; have HB := n0_; have BK116 := n1_; have GW116 := n2_; have GE116 := n3_; clear n0_ n1_ n2_ n3_; clear hb hbox hg))
 have n0_ := Aside0.mk (blk_drew BK116.out)
 have n1_ := Aside0.mk (below_drew1 HB.out)
 clear BK116
 clear HB
 have BK116 := n0_
 have HB := n1_
 clear n0_ n1_
 refine start_ (n := 11) (S := fun w' => w'.cell? ⟨gb116, 0, none⟩ = some (.int .i64 a0_0) ∧ w'.cell? ⟨gb116, 1, none⟩ = some (.int .i64 a0_1) ∧ w'.cell? ⟨gb116, 2, none⟩ = some (.int .i64 a0_2) ∧ w'.cell? ⟨gb116, 3, none⟩ = some (.slice A0_3 l0_3.length c0_3)) (ds := []) KfineF_0 (by kernel_rfl) rfl rfl ⟨(blk_cell BK116.out 0).trans rfl, (blk_cell BK116.out 1).trans rfl, (blk_cell BK116.out 2).trans rfl, (blk_cell BK116.out 3).trans rfl⟩ (fun hHeld => ?_); refine with_tabW term_ballot_fine.tab1 term_ballot_fine.bits1 (fun HT_ HW_ => ?_)
 generalize w12.drew = w13 at BK116 HB hHeld ⊢
 refine pure_ (i := 0) (N := some 5) (v := ?_) (a' := ?_) KfineF_1 rfl rfl (any_of HT_.out (by kernel_rfl)) (fun _ _ _ h => h) (Or.inl ⟨by rfl, ?_⟩) ?_ ?_; rotate_left; focus (intro w'; go_simp; with_reducible rfl)
 rotate_left; focus (simp only [Act.put, List.setIfInBounds_toArray, List.set_cons_zero, List.set_cons_succ, i64_w, i32_w]; rfl)
 refine take_ (i := 1) (N := some 6) (v := ?_) (a' := ?_) KfineF_2 rfl rfl (take_ofW HT_.out HW_.out (by kernel_rfl)) (fun _ _ _ h => h) (Or.inl ⟨by rfl, ?_⟩) hHeld ?_ ?_; rotate_left; focus (rintro w' ⟨s0, s1, s2, s3⟩; go_simp; with_reducible rfl)
 rotate_left; focus (simp only [Act.put, List.setIfInBounds_toArray, List.set_cons_zero, List.set_cons_succ, i64_w, i32_w]; rfl)
 refine pure_ (i := 2) (N := some 7) (v := ?_) (a' := ?_) KfineF_3 rfl rfl (any_of HT_.out (by kernel_rfl)) (fun _ _ _ h => h) (Or.inl ⟨by rfl, ?_⟩) ?_ ?_; rotate_left; focus (intro w'; go_simp; with_reducible rfl)
 rotate_left; focus (simp only [Act.put, List.setIfInBounds_toArray, List.set_cons_zero, List.set_cons_succ, i64_w, i32_w]; rfl)
 refine pure_ (i := 3) (N := some 8) (v := ?_) (a' := ?_) KfineF_4 rfl rfl (any_of HT_.out (by kernel_rfl)) (fun _ _ _ h => h) (Or.inl ⟨by rfl, ?_⟩) ?_ ?_; rotate_left; focus (intro w'; go_simp; with_reducible rfl)
 rotate_left; focus (simp only [Act.put, List.setIfInBounds_toArray, List.set_cons_zero, List.set_cons_succ, i64_w, i32_w]; rfl)
 refine take_ (i := 4) (N := some 9) (v := ?_) (a' := ?_) KfineF_5 rfl rfl (take_ofW HT_.out HW_.out (by kernel_rfl)) (fun _ _ _ h => h) (Or.inl ⟨by rfl, ?_⟩) hHeld ?_ ?_; rotate_left; focus (rintro w' ⟨s0, s1, s2, s3⟩; go_simp; with_reducible rfl)
 rotate_left; focus (simp only [Act.put, List.setIfInBounds_toArray, List.set_cons_zero, List.set_cons_succ, i64_w, i32_w]; rfl)
 refine take_ (i := 6) (N := some 11) (v := ?_) (a' := ?_) KfineF_6 rfl rfl (take_ofW HT_.out HW_.out (by kernel_rfl)) (fun _ _ _ h => h) (Or.inl ⟨by rfl, ?_⟩) hHeld ?_ ?_; rotate_left; focus (rintro w' ⟨s0, s1, s2, s3⟩; go_simp; with_reducible rfl)
 rotate_left; focus (simp only [Act.put, List.setIfInBounds_toArray, List.set_cons_zero, List.set_cons_succ, i64_w, i32_w]; rfl)
 refine join_ (σ := Nat) 1 KfineF_7 (fun s_ => [(10, .bool t117), (12, .bool t118), (3, .pointer (some ⟨s_, 0, none⟩)), (13, .agg #[.bool false, .bool ((l0_3.length : Int) == 0), .bool t117, .bool t118])]) (fun s_ w' => (w'.cell? ⟨gb116, 0, none⟩ = some (.int .i64 a0_0) ∧ w'.cell? ⟨gb116, 1, none⟩ = some (.int .i64 a0_1) ∧ w'.cell? ⟨gb116, 2, none⟩ = some (.int .i64 a0_2) ∧ w'.cell? ⟨gb116, 3, none⟩ = some (.slice A0_3 l0_3.length c0_3)) ∧ (w'.heap[gb116]? = some (.cells #[.int .i64 a0_0, .int .i64 a0_1, .int .i64 a0_2, .slice A0_3 l0_3.length c0_3] 60 (0, 0))) ∧ (w'.heap[s_]? = some (.cells #[.bool false, .bool false, .bool false, .bool false] 70 (0, 0))) ∧ (w.heap.size ≤ s_) ∧ (w.heap.size ≤ s_) ∧ (gb116 ≠ s_) ∧ (s_ ≠ gb116) ∧ (Below w.heap.size w w')) ?_ ?_
 rotate_left
 ·intro hCont
  refine two_ (i := 5) (j := 9) (Ni := some 10) (Nj := some 3) KfineF_8 KfineF_9 rfl rfl rfl rfl (two_of HT_.out (by kernel_rfl)) (by decide) (by decide) (fun K hK => ?_) (fun K hK => ?_)
  ·skip
   refine goes_ Try.func36 (by kernel_rfl) rfl #[.agg #[.int .i64 a0_0, .int .i64 a0_1, .int .i64 a0_2, .slice A0_3 l0_3.length c0_3]] (by rfl) rfl rfl (by (try simp only [List.map_toArray, List.map_cons, List.map_nil]); first | done | rfl | (simp only [List.length_drop, List.length_take]; rfl)) ?_
   with_reducible refine (term_ballot_stands.calls k a0_0 a0_1 a0_2 _ _ l0_3 t117 _ ?side1 ?side2 A2.out).mono ?_
   (case side1 => repeat (first | exact (Kd.C_below HR0_3.out HB.out) | (with_reducible refine Kd.C_alloc ?_ _) | (with_reducible refine Kd.C_drewN ?_ _) | (with_reducible refine Kd.C_drew ?_)))
   (case side2 => exact HC0_3.out)
   rintro e w14 ⟨rfl, hb⟩
   refine ⟨_, rfl, ?_⟩
   have n0_ := Aside0.mk (blk_below (g := gb116) (o := .cells #[.int .i64 a0_0, .int .i64 a0_1, .int .i64 a0_2, .slice A0_3 l0_3.length c0_3] 60 (0, 0)) (by exact bk_ BK116.out) hb)
   have n1_ := Aside0.mk (below_step (by repeat (first | (with_reducible first | exact HB.out | apply below_alloc | apply pw_below_drewN | apply below_drew1 | refine below_set ?_ GE116.out) | exact HB.out)) hb)
   clear BK116
   clear HB
   have BK116 := n0_
   have HB := n1_
   clear n0_ n1_
   (try clear hb)
   (try clear hb2)
   (try clear hk)
   (try clear hi)
   refine hK.out _ _ ⟨(blk_cell BK116.out 0).trans rfl, (blk_cell BK116.out 1).trans rfl, (blk_cell BK116.out 2).trans rfl, (blk_cell BK116.out 3).trans rfl⟩ (fun hHeld => ?_)
   clear hK K
   refine norm_ (a' := ?_) ?_ ?_
   rotate_left
   ·show Act.put _ (some 10) _ = _
    simp only [Act.put, List.setIfInBounds_toArray, List.set_cons_zero, List.set_cons_succ, i64_w, i32_w]
    rfl
   refine two_ (i := 7) (j := 9) (Ni := some 12) (Nj := some 3) KfineF_10 KfineF_11 rfl rfl rfl rfl (two_of HT_.out (by kernel_rfl)) (by decide) (by decide) (fun K hK => ?_) (fun K hK => ?_)
   ·skip
    refine goes_ Try.func36 (by kernel_rfl) rfl #[.agg #[.int .i64 a0_0, .int .i64 a0_1, .int .i64 a0_2, .slice A0_3 l0_3.length c0_3]] (by rfl) rfl rfl (by (try simp only [List.map_toArray, List.map_cons, List.map_nil]); first | done | rfl | (simp only [List.length_drop, List.length_take]; rfl)) ?_
    with_reducible refine (term_ballot_stands.calls k a0_0 a0_1 a0_2 _ _ l0_3 t118 _ ?side1 ?side2 A3.out).mono ?_
    (case side1 => repeat (first | exact (Kd.C_below HR0_3.out HB.out) | (with_reducible refine Kd.C_alloc ?_ _) | (with_reducible refine Kd.C_drewN ?_ _) | (with_reducible refine Kd.C_drew ?_)))
    (case side2 => exact HC0_3.out)
    rintro e w15 ⟨rfl, hb⟩
    refine ⟨_, rfl, ?_⟩
    have n0_ := Aside0.mk (blk_below (g := gb116) (o := .cells #[.int .i64 a0_0, .int .i64 a0_1, .int .i64 a0_2, .slice A0_3 l0_3.length c0_3] 60 (0, 0)) (by exact bk_ BK116.out) hb)
    have n1_ := Aside0.mk (below_step (by repeat (first | (with_reducible first | exact HB.out | apply below_alloc | apply pw_below_drewN | apply below_drew1 | refine below_set ?_ GE116.out) | exact HB.out)) hb)
    clear BK116
    clear HB
    have BK116 := n0_
    have HB := n1_
    clear n0_ n1_
    (try clear hb)
    (try clear hb2)
    (try clear hk)
    (try clear hi)
    refine hK.out _ _ ⟨(blk_cell BK116.out 0).trans rfl, (blk_cell BK116.out 1).trans rfl, (blk_cell BK116.out 2).trans rfl, (blk_cell BK116.out 3).trans rfl⟩ (fun hHeld => ?_)
    clear hK K
    refine norm_ (a' := ?_) ?_ ?_
    rotate_left
    ·show Act.put _ (some 12) _ = _
     simp only [Act.put, List.setIfInBounds_toArray, List.set_cons_zero, List.set_cons_succ, i64_w, i32_w]
     rfl
    refine pure_ (i := 8) (N := some 13) (v := ?_) (a' := ?_) KfineF_12 rfl rfl (any_of HT_.out (by kernel_rfl)) (fun _ _ _ h => h) (Or.inl ⟨by rfl, ?_⟩) ?_ ?_; rotate_left; focus (intro w'; go_simp; with_reducible rfl)
    rotate_left; focus (simp only [Act.put, List.setIfInBounds_toArray, List.set_cons_zero, List.set_cons_succ, i64_w, i32_w]; rfl)
    refine one_ (i := 9) (N := some 3) KfineF_7 rfl rfl (one_of HT_.out (by kernel_rfl)) (by decide) (fun K hK => ?_)
    refine box_step ?hg (N := 3) ?hd (cs := #[.bool false, .bool false, .bool false, .bool false]) (t := 70) ?hr ?_; (case hd => rfl); (case hg => rfl); (case hr => first | (go_simp; done) | (go_simp; rfl))
    intro gb119 hg w16 hbox hb
    have n0_ := Aside0.mk (blk_below (g := gb116) (o := .cells #[.int .i64 a0_0, .int .i64 a0_1, .int .i64 a0_2, .slice A0_3 l0_3.length c0_3] 60 (0, 0)) (by exact bk_ BK116.out) hb)
    have n1_ := Aside0.mk (below_step (by repeat (first | (with_reducible first | exact HB.out | apply below_alloc | apply pw_below_drewN | apply below_drew1 | refine below_set ?_ GE116.out) | exact HB.out)) hb)
    have n2_ := Aside0.mk (hbox)
    have n3_ := Aside0.mk ((by rw [hg]; exact (below_size (by repeat (first | (with_reducible first | exact HB.out | apply below_alloc | apply pw_below_drewN | apply below_drew1 | refine below_set ?_ GE116.out) | exact HB.out))) : w.heap.size ≤ gb119))
    have n4_ := Aside0.mk ((by rw [hg]; exact (below_size (by repeat (first | (with_reducible first | exact HB.out | apply below_alloc | apply pw_below_drewN | apply below_drew1 | refine below_set ?_ GE116.out) | exact HB.out))) : w.heap.size ≤ gb119))
    have n5_ := Aside0.mk ((by rw [hg]; exact Nat.ne_of_lt (blk_lt (g := gb116) (o := .cells #[.int .i64 a0_0, .int .i64 a0_1, .int .i64 a0_2, .slice A0_3 l0_3.length c0_3] 60 (0, 0)) (by exact bk_ BK116.out)) : gb116 ≠ gb119))
    have n6_ := Aside0.mk ((by rw [hg]; exact Nat.ne_of_gt (blk_lt (g := gb116) (o := .cells #[.int .i64 a0_0, .int .i64 a0_1, .int .i64 a0_2, .slice A0_3 l0_3.length c0_3] 60 (0, 0)) (by exact bk_ BK116.out)) : gb119 ≠ gb116))
    clear BK116
    clear HB
    have BK116 := n0_
    have HB := n1_
    have BK119 := n2_
    have GW119 := n3_
    have GE119 := n4_
    have NB116_119 := n5_
    have NB119_116 := n6_
    clear n0_ n1_ n2_ n3_ n4_ n5_ n6_
    clear hb hbox hg
    refine hK.out _ _ ⟨(blk_cell BK116.out 0).trans rfl, (blk_cell BK116.out 1).trans rfl, (blk_cell BK116.out 2).trans rfl, (blk_cell BK116.out 3).trans rfl⟩ (fun hHeld => ?_)
    clear hK K
    refine norm_ (a' := ?_) ?_ ?_
    rotate_left
    ·show Act.put _ (some 3) _ = _
     simp only [Act.put, List.setIfInBounds_toArray, List.set_cons_zero, List.set_cons_succ, i64_w, i32_w]
     rfl
    exact norm_ (by simp only [putAll, Act.put, List.setIfInBounds_toArray, List.set_cons_zero, List.set_cons_succ]) (hCont (gb119) _ ⟨hHeld, (by exact bk_ BK116.out), (by exact bk_ BK119.out), GW119.out, GE119.out, NB116_119.out, NB119_116.out, (by repeat (first | (with_reducible first | exact HB.out | apply below_alloc | apply pw_below_drewN | apply below_drew1 | refine below_set ?_ GE116.out | refine below_set ?_ GE119.out) | exact HB.out))⟩)
   ·skip
    refine box_step ?hg (N := 3) ?hd (cs := #[.bool false, .bool false, .bool false, .bool false]) (t := 70) ?hr ?_; (case hd => rfl); (case hg => rfl); (case hr => first | (go_simp; done) | (go_simp; rfl))
    intro gb119 hg w15 hbox hb
    have n0_ := Aside0.mk (blk_below (g := gb116) (o := .cells #[.int .i64 a0_0, .int .i64 a0_1, .int .i64 a0_2, .slice A0_3 l0_3.length c0_3] 60 (0, 0)) (by exact bk_ BK116.out) hb)
    have n1_ := Aside0.mk (below_step (by repeat (first | (with_reducible first | exact HB.out | apply below_alloc | apply pw_below_drewN | apply below_drew1 | refine below_set ?_ GE116.out) | exact HB.out)) hb)
    have n2_ := Aside0.mk (hbox)
    have n3_ := Aside0.mk ((by rw [hg]; exact (below_size (by repeat (first | (with_reducible first | exact HB.out | apply below_alloc | apply pw_below_drewN | apply below_drew1 | refine below_set ?_ GE116.out) | exact HB.out))) : w.heap.size ≤ gb119))
    have n4_ := Aside0.mk ((by rw [hg]; exact (below_size (by repeat (first | (with_reducible first | exact HB.out | apply below_alloc | apply pw_below_drewN | apply below_drew1 | refine below_set ?_ GE116.out) | exact HB.out))) : w.heap.size ≤ gb119))
    have n5_ := Aside0.mk ((by rw [hg]; exact Nat.ne_of_lt (blk_lt (g := gb116) (o := .cells #[.int .i64 a0_0, .int .i64 a0_1, .int .i64 a0_2, .slice A0_3 l0_3.length c0_3] 60 (0, 0)) (by exact bk_ BK116.out)) : gb116 ≠ gb119))
    have n6_ := Aside0.mk ((by rw [hg]; exact Nat.ne_of_gt (blk_lt (g := gb116) (o := .cells #[.int .i64 a0_0, .int .i64 a0_1, .int .i64 a0_2, .slice A0_3 l0_3.length c0_3] 60 (0, 0)) (by exact bk_ BK116.out)) : gb119 ≠ gb116))
    clear BK116
    clear HB
    have BK116 := n0_
    have HB := n1_
    have BK119 := n2_
    have GW119 := n3_
    have GE119 := n4_
    have NB116_119 := n5_
    have NB119_116 := n6_
    clear n0_ n1_ n2_ n3_ n4_ n5_ n6_
    clear hb hbox hg
    refine hK.out _ _ ⟨(blk_cell BK116.out 0).trans rfl, (blk_cell BK116.out 1).trans rfl, (blk_cell BK116.out 2).trans rfl, (blk_cell BK116.out 3).trans rfl⟩ (fun hHeld => ?_)
    clear hK K
    refine norm_ (a' := ?_) ?_ ?_
    rotate_left
    ·show Act.put _ (some 3) _ = _
     simp only [Act.put, List.setIfInBounds_toArray, List.set_cons_zero, List.set_cons_succ, i64_w, i32_w]
     rfl
    refine one_ (i := 7) (N := some 12) KfineF_13 rfl rfl (one_of HT_.out (by kernel_rfl)) (by decide) (fun K hK => ?_)
    refine goes_ Try.func36 (by kernel_rfl) rfl #[.agg #[.int .i64 a0_0, .int .i64 a0_1, .int .i64 a0_2, .slice A0_3 l0_3.length c0_3]] (by rfl) rfl rfl (by (try simp only [List.map_toArray, List.map_cons, List.map_nil]); first | done | rfl | (simp only [List.length_drop, List.length_take]; rfl)) ?_
    with_reducible refine (term_ballot_stands.calls k a0_0 a0_1 a0_2 _ _ l0_3 t118 _ ?side1 ?side2 A3.out).mono ?_
    (case side1 => repeat (first | exact (Kd.C_below HR0_3.out HB.out) | (with_reducible refine Kd.C_alloc ?_ _) | (with_reducible refine Kd.C_drewN ?_ _) | (with_reducible refine Kd.C_drew ?_)))
    (case side2 => exact HC0_3.out)
    rintro e w16 ⟨rfl, hb⟩
    refine ⟨_, rfl, ?_⟩
    have n0_ := Aside0.mk (blk_below (g := gb116) (o := .cells #[.int .i64 a0_0, .int .i64 a0_1, .int .i64 a0_2, .slice A0_3 l0_3.length c0_3] 60 (0, 0)) (by exact bk_ BK116.out) hb)
    have n1_ := Aside0.mk (blk_below (g := gb119) (o := .cells #[.bool false, .bool false, .bool false, .bool false] 70 (0, 0)) (by exact bk_ BK119.out) hb)
    have n2_ := Aside0.mk (below_step (by repeat (first | (with_reducible first | exact HB.out | apply below_alloc | apply pw_below_drewN | apply below_drew1 | refine below_set ?_ GE116.out | refine below_set ?_ GE119.out) | exact HB.out)) hb)
    clear BK116
    clear BK119
    clear HB
    have BK116 := n0_
    have BK119 := n1_
    have HB := n2_
    clear n0_ n1_ n2_
    (try clear hb)
    (try clear hb2)
    (try clear hk)
    (try clear hi)
    refine hK.out _ _ ⟨(blk_cell BK116.out 0).trans rfl, (blk_cell BK116.out 1).trans rfl, (blk_cell BK116.out 2).trans rfl, (blk_cell BK116.out 3).trans rfl⟩ (fun hHeld => ?_)
    clear hK K
    refine norm_ (a' := ?_) ?_ ?_
    rotate_left
    ·show Act.put _ (some 12) _ = _
     simp only [Act.put, List.setIfInBounds_toArray, List.set_cons_zero, List.set_cons_succ, i64_w, i32_w]
     rfl
    refine pure_ (i := 8) (N := some 13) (v := ?_) (a' := ?_) KfineF_7 rfl rfl (any_of HT_.out (by kernel_rfl)) (fun _ _ _ h => h) (Or.inl ⟨by rfl, ?_⟩) ?_ ?_; rotate_left; focus (intro w'; go_simp; with_reducible rfl)
    rotate_left; focus (simp only [Act.put, List.setIfInBounds_toArray, List.set_cons_zero, List.set_cons_succ, i64_w, i32_w]; rfl)
    exact norm_ (by simp only [putAll, Act.put, List.setIfInBounds_toArray, List.set_cons_zero, List.set_cons_succ]) (hCont (gb119) _ ⟨hHeld, (by exact bk_ BK116.out), (by exact bk_ BK119.out), GW119.out, GE119.out, NB116_119.out, NB119_116.out, (by repeat (first | (with_reducible first | exact HB.out | apply below_alloc | apply pw_below_drewN | apply below_drew1 | refine below_set ?_ GE116.out | refine below_set ?_ GE119.out) | exact HB.out))⟩)
  ·skip
   refine box_step ?hg (N := 3) ?hd (cs := #[.bool false, .bool false, .bool false, .bool false]) (t := 70) ?hr ?_; (case hd => rfl); (case hg => rfl); (case hr => first | (go_simp; done) | (go_simp; rfl))
   intro gb119 hg w14 hbox hb
   have n0_ := Aside0.mk (blk_below (g := gb116) (o := .cells #[.int .i64 a0_0, .int .i64 a0_1, .int .i64 a0_2, .slice A0_3 l0_3.length c0_3] 60 (0, 0)) (by exact bk_ BK116.out) hb)
   have n1_ := Aside0.mk (below_step (by repeat (first | (with_reducible first | exact HB.out | apply below_alloc | apply pw_below_drewN | apply below_drew1 | refine below_set ?_ GE116.out) | exact HB.out)) hb)
   have n2_ := Aside0.mk (hbox)
   have n3_ := Aside0.mk ((by rw [hg]; exact (below_size (by repeat (first | (with_reducible first | exact HB.out | apply below_alloc | apply pw_below_drewN | apply below_drew1 | refine below_set ?_ GE116.out) | exact HB.out))) : w.heap.size ≤ gb119))
   have n4_ := Aside0.mk ((by rw [hg]; exact (below_size (by repeat (first | (with_reducible first | exact HB.out | apply below_alloc | apply pw_below_drewN | apply below_drew1 | refine below_set ?_ GE116.out) | exact HB.out))) : w.heap.size ≤ gb119))
   have n5_ := Aside0.mk ((by rw [hg]; exact Nat.ne_of_lt (blk_lt (g := gb116) (o := .cells #[.int .i64 a0_0, .int .i64 a0_1, .int .i64 a0_2, .slice A0_3 l0_3.length c0_3] 60 (0, 0)) (by exact bk_ BK116.out)) : gb116 ≠ gb119))
   have n6_ := Aside0.mk ((by rw [hg]; exact Nat.ne_of_gt (blk_lt (g := gb116) (o := .cells #[.int .i64 a0_0, .int .i64 a0_1, .int .i64 a0_2, .slice A0_3 l0_3.length c0_3] 60 (0, 0)) (by exact bk_ BK116.out)) : gb119 ≠ gb116))
   clear BK116
   clear HB
   have BK116 := n0_
   have HB := n1_
   have BK119 := n2_
   have GW119 := n3_
   have GE119 := n4_
   have NB116_119 := n5_
   have NB119_116 := n6_
   clear n0_ n1_ n2_ n3_ n4_ n5_ n6_
   clear hb hbox hg
   refine hK.out _ _ ⟨(blk_cell BK116.out 0).trans rfl, (blk_cell BK116.out 1).trans rfl, (blk_cell BK116.out 2).trans rfl, (blk_cell BK116.out 3).trans rfl⟩ (fun hHeld => ?_)
   clear hK K
   refine norm_ (a' := ?_) ?_ ?_
   rotate_left
   ·show Act.put _ (some 3) _ = _
    simp only [Act.put, List.setIfInBounds_toArray, List.set_cons_zero, List.set_cons_succ, i64_w, i32_w]
    rfl
   refine one_ (i := 5) (N := some 10) KfineF_11 rfl rfl (one_of HT_.out (by kernel_rfl)) (by decide) (fun K hK => ?_)
   refine goes_ Try.func36 (by kernel_rfl) rfl #[.agg #[.int .i64 a0_0, .int .i64 a0_1, .int .i64 a0_2, .slice A0_3 l0_3.length c0_3]] (by rfl) rfl rfl (by (try simp only [List.map_toArray, List.map_cons, List.map_nil]); first | done | rfl | (simp only [List.length_drop, List.length_take]; rfl)) ?_
   with_reducible refine (term_ballot_stands.calls k a0_0 a0_1 a0_2 _ _ l0_3 t117 _ ?side1 ?side2 A2.out).mono ?_
   (case side1 => repeat (first | exact (Kd.C_below HR0_3.out HB.out) | (with_reducible refine Kd.C_alloc ?_ _) | (with_reducible refine Kd.C_drewN ?_ _) | (with_reducible refine Kd.C_drew ?_)))
   (case side2 => exact HC0_3.out)
   rintro e w15 ⟨rfl, hb⟩
   refine ⟨_, rfl, ?_⟩
   have n0_ := Aside0.mk (blk_below (g := gb116) (o := .cells #[.int .i64 a0_0, .int .i64 a0_1, .int .i64 a0_2, .slice A0_3 l0_3.length c0_3] 60 (0, 0)) (by exact bk_ BK116.out) hb)
   have n1_ := Aside0.mk (blk_below (g := gb119) (o := .cells #[.bool false, .bool false, .bool false, .bool false] 70 (0, 0)) (by exact bk_ BK119.out) hb)
   have n2_ := Aside0.mk (below_step (by repeat (first | (with_reducible first | exact HB.out | apply below_alloc | apply pw_below_drewN | apply below_drew1 | refine below_set ?_ GE116.out | refine below_set ?_ GE119.out) | exact HB.out)) hb)
   clear BK116
   clear BK119
   clear HB
   have BK116 := n0_
   have BK119 := n1_
   have HB := n2_
   clear n0_ n1_ n2_
   (try clear hb)
   (try clear hb2)
   (try clear hk)
   (try clear hi)
   refine hK.out _ _ ⟨(blk_cell BK116.out 0).trans rfl, (blk_cell BK116.out 1).trans rfl, (blk_cell BK116.out 2).trans rfl, (blk_cell BK116.out 3).trans rfl⟩ (fun hHeld => ?_)
   clear hK K
   refine norm_ (a' := ?_) ?_ ?_
   rotate_left
   ·show Act.put _ (some 10) _ = _
    simp only [Act.put, List.setIfInBounds_toArray, List.set_cons_zero, List.set_cons_succ, i64_w, i32_w]
    rfl
   refine one_ (i := 7) (N := some 12) KfineF_13 rfl rfl (one_of HT_.out (by kernel_rfl)) (by decide) (fun K hK => ?_)
   refine goes_ Try.func36 (by kernel_rfl) rfl #[.agg #[.int .i64 a0_0, .int .i64 a0_1, .int .i64 a0_2, .slice A0_3 l0_3.length c0_3]] (by rfl) rfl rfl (by (try simp only [List.map_toArray, List.map_cons, List.map_nil]); first | done | rfl | (simp only [List.length_drop, List.length_take]; rfl)) ?_
   with_reducible refine (term_ballot_stands.calls k a0_0 a0_1 a0_2 _ _ l0_3 t118 _ ?side1 ?side2 A3.out).mono ?_
   (case side1 => repeat (first | exact (Kd.C_below HR0_3.out HB.out) | (with_reducible refine Kd.C_alloc ?_ _) | (with_reducible refine Kd.C_drewN ?_ _) | (with_reducible refine Kd.C_drew ?_)))
   (case side2 => exact HC0_3.out)
   rintro e w16 ⟨rfl, hb⟩
   refine ⟨_, rfl, ?_⟩
   have n0_ := Aside0.mk (blk_below (g := gb116) (o := .cells #[.int .i64 a0_0, .int .i64 a0_1, .int .i64 a0_2, .slice A0_3 l0_3.length c0_3] 60 (0, 0)) (by exact bk_ BK116.out) hb)
   have n1_ := Aside0.mk (blk_below (g := gb119) (o := .cells #[.bool false, .bool false, .bool false, .bool false] 70 (0, 0)) (by exact bk_ BK119.out) hb)
   have n2_ := Aside0.mk (below_step (by repeat (first | (with_reducible first | exact HB.out | apply below_alloc | apply pw_below_drewN | apply below_drew1 | refine below_set ?_ GE116.out | refine below_set ?_ GE119.out) | exact HB.out)) hb)
   clear BK116
   clear BK119
   clear HB
   have BK116 := n0_
   have BK119 := n1_
   have HB := n2_
   clear n0_ n1_ n2_
   (try clear hb)
   (try clear hb2)
   (try clear hk)
   (try clear hi)
   refine hK.out _ _ ⟨(blk_cell BK116.out 0).trans rfl, (blk_cell BK116.out 1).trans rfl, (blk_cell BK116.out 2).trans rfl, (blk_cell BK116.out 3).trans rfl⟩ (fun hHeld => ?_)
   clear hK K
   refine norm_ (a' := ?_) ?_ ?_
   rotate_left
   ·show Act.put _ (some 12) _ = _
    simp only [Act.put, List.setIfInBounds_toArray, List.set_cons_zero, List.set_cons_succ, i64_w, i32_w]
    rfl
   refine pure_ (i := 8) (N := some 13) (v := ?_) (a' := ?_) KfineF_7 rfl rfl (any_of HT_.out (by kernel_rfl)) (fun _ _ _ h => h) (Or.inl ⟨by rfl, ?_⟩) ?_ ?_; rotate_left; focus (intro w'; go_simp; with_reducible rfl)
   rotate_left; focus (simp only [Act.put, List.setIfInBounds_toArray, List.set_cons_zero, List.set_cons_succ, i64_w, i32_w]; rfl)
   exact norm_ (by simp only [putAll, Act.put, List.setIfInBounds_toArray, List.set_cons_zero, List.set_cons_succ]) (hCont (gb119) _ ⟨hHeld, (by exact bk_ BK116.out), (by exact bk_ BK119.out), GW119.out, GE119.out, NB116_119.out, NB119_116.out, (by repeat (first | (with_reducible first | exact HB.out | apply below_alloc | apply pw_below_drewN | apply below_drew1 | refine below_set ?_ GE116.out | refine below_set ?_ GE119.out) | exact HB.out))⟩)
 rintro gb119 w17 ⟨hS_, h0_, h1_, h2_, h3_, h4_, h5_, h6_⟩
 have n0_ : Aside0 (w17.heap[gb116]? = some (.cells #[.int .i64 a0_0, .int .i64 a0_1, .int .i64 a0_2, .slice A0_3 l0_3.length c0_3] 60 (0, 0))) := ⟨h0_⟩
 have n1_ : Aside0 (w17.heap[gb119]? = some (.cells #[.bool false, .bool false, .bool false, .bool false] 70 (0, 0))) := ⟨h1_⟩
 have n2_ : Aside0 (w.heap.size ≤ gb119) := ⟨h2_⟩
 have n3_ : Aside0 (w.heap.size ≤ gb119) := ⟨h3_⟩
 have n4_ : Aside0 (gb116 ≠ gb119) := ⟨h4_⟩
 have n5_ : Aside0 (gb119 ≠ gb116) := ⟨h5_⟩
 have n6_ : Aside0 (Below w.heap.size w w17) := ⟨h6_⟩
 clear BK116
 clear HB
 clear h0_ h1_ h2_ h3_ h4_ h5_ h6_
 have BK116 := n0_
 have BK119 := n1_
 have GW119 := n2_
 have GE119 := n3_
 have NB116_119 := n4_
 have NB119_116 := n5_
 have HB := n6_
 clear n0_ n1_ n2_ n3_ n4_ n5_ n6_
 have hHeld : w17.cell? ⟨gb116, 0, none⟩ = some (.int .i64 a0_0) ∧ w17.cell? ⟨gb116, 1, none⟩ = some (.int .i64 a0_1) ∧ w17.cell? ⟨gb116, 2, none⟩ = some (.int .i64 a0_2) ∧ w17.cell? ⟨gb116, 3, none⟩ = some (.slice A0_3 l0_3.length c0_3) := hS_
 refine norm_ (a' := ?_) ?_ ?_
 rotate_left
 ·simp only [putAll, Act.put, List.setIfInBounds_toArray, List.set_cons_zero, List.set_cons_succ]
  rfl
 refine one_ (i := 10) (N := none) KfineF_14 rfl rfl (one_of HT_.out (by kernel_rfl)) (by decide) (fun K hK => ?_)
 have hs18 : w17.cell? ⟨gb119, 0, none⟩ = some (.bool false) := (blk_cell BK119.out 0).trans rfl
 have hfs18 := blk_frozen BK119.out 0
 have hns18_0 := NB116_119.out
 have hms18_0 := NB119_116.out
 have hs19 : w17.cell? ⟨gb119, 1, none⟩ = some (.bool false) := (blk_cell BK119.out 1).trans rfl
 have hfs19 := blk_frozen BK119.out 1
 have hns19_0 := NB116_119.out
 have hms19_0 := NB119_116.out
 have hs20 : w17.cell? ⟨gb119, 2, none⟩ = some (.bool false) := (blk_cell BK119.out 2).trans rfl
 have hfs20 := blk_frozen BK119.out 2
 have hns20_0 := NB116_119.out
 have hms20_0 := NB119_116.out
 have hs21 : w17.cell? ⟨gb119, 3, none⟩ = some (.bool false) := (blk_cell BK119.out 3).trans rfl
 have hfs21 := blk_frozen BK119.out 3
 have hns21_0 := NB116_119.out
 have hms21_0 := NB119_116.out
 refine skip_ (w1 := ?_) (by rfl) rfl ?_ ?_
 rotate_left
 ·go_simp
  rfl
 refine hK.out _ _ ⟨((cell_far (p := ⟨gb119, _, none⟩) NB116_119.out _).trans (((cell_far (p := ⟨gb119, _, none⟩) NB116_119.out _).trans (((cell_far (p := ⟨gb119, _, none⟩) NB116_119.out _).trans (((cell_far (p := ⟨gb119, _, none⟩) NB116_119.out _).trans (hHeld.1)))))))), ((cell_far (p := ⟨gb119, _, none⟩) NB116_119.out _).trans (((cell_far (p := ⟨gb119, _, none⟩) NB116_119.out _).trans (((cell_far (p := ⟨gb119, _, none⟩) NB116_119.out _).trans (((cell_far (p := ⟨gb119, _, none⟩) NB116_119.out _).trans (hHeld.2.1)))))))), ((cell_far (p := ⟨gb119, _, none⟩) NB116_119.out _).trans (((cell_far (p := ⟨gb119, _, none⟩) NB116_119.out _).trans (((cell_far (p := ⟨gb119, _, none⟩) NB116_119.out _).trans (((cell_far (p := ⟨gb119, _, none⟩) NB116_119.out _).trans (hHeld.2.2.1)))))))), ((cell_far (p := ⟨gb119, _, none⟩) NB116_119.out _).trans (((cell_far (p := ⟨gb119, _, none⟩) NB116_119.out _).trans (((cell_far (p := ⟨gb119, _, none⟩) NB116_119.out _).trans (((cell_far (p := ⟨gb119, _, none⟩) NB116_119.out _).trans (hHeld.2.2.2))))))))⟩ (fun hHeld => ?_)
 clear hK K
 refine done_ (done_of HT_.out (by kernel_rfl)) ?_
 have P0 := blk_put BK119.out 0 (.bool false) rfl
 have P1 := blk_put P0 1 (.bool ((l0_3.length : Int) == 0)) rfl
 have P2 := blk_put P1 2 (.bool t117) rfl
 have P3 := blk_put P2 3 (.bool t118) rfl
 have Q0 := blk_far BK116.out (p := ⟨gb119, 0, none⟩) NB116_119.out (.bool false)
 have Q1 := blk_far Q0 (p := ⟨gb119, 1, none⟩) NB116_119.out (.bool ((l0_3.length : Int) == 0))
 have Q2 := blk_far Q1 (p := ⟨gb119, 2, none⟩) NB116_119.out (.bool t117)
 have Q3 := blk_far Q2 (p := ⟨gb119, 3, none⟩) NB116_119.out (.bool t118)
 have QB := below_set (j := 3) (v := .bool t118) (below_set (j := 2) (v := .bool t117) (below_set (j := 1) (v := .bool ((l0_3.length : Int) == 0)) (below_set (j := 0) (v := .bool false) HB.out GE119.out) GE119.out) GE119.out) GE119.out
 have HA4 := A4.out
 generalize (((w17.setCell ⟨gb119, 0, none⟩ (.bool false)).setCell ⟨gb119, 1, none⟩ (.bool ((l0_3.length : Int) == 0))).setCell ⟨gb119, 2, none⟩ (.bool t117)).setCell ⟨gb119, 3, none⟩ (.bool t118) = wz at P3 Q3 QB ⊢
 obtain ⟨z0, z1, z2, z3⟩ := blk_cells4' P3
 obtain ⟨q0, q1, q2, q3⟩ := blk_cells4' Q3
 have HZ := Aside0.mk (below_alloc QB (.cells #[.int .i64 a0_0, .int .i64 a0_1] 23))
 have n3 := blk_cells4' (blk_alloc P3 (.cells #[.int .i64 a0_0, .int .i64 a0_1] 23))
 have m3 := blk_cells4' (blk_alloc Q3 (.cells #[.int .i64 a0_0, .int .i64 a0_1] 23))
 obtain ⟨n30, n31, n32, n33⟩ := n3
 obtain ⟨m30, m31, m32, m33⟩ := m3
 simp only [within_fF] at HA4 H
 clear P0 P1 P2 P3 Q0 Q1 Q2 Q3 QB A2 A3 A4 HB hHeld
 obtain rfl := Option.some.inj HA4
 clear HA4
 simp only [Option.bind_some, decide_eq_true_eq] at H
 by_cases c1 : 0 ≤ a0_0 ∧ a0_0 ≤ 1000000
 rotate_left
 · rw [if_neg c1] at H
   obtain rfl := Option.some.inj H
   have c2 : a0_0 < 0 ∨ 1000000 < a0_0 := by omega
   clear H c1
   rcases c2 with c2 | c2
   · go_wp2
     go_ret
     exact ⟨rfl, HZ.out⟩
   · have c3 : decide (a0_0 ≤ 1000000) = false := decide_eq_false (by omega)
     go_wp2
     go_ret
     exact ⟨rfl, HZ.out⟩
 · rw [if_pos c1] at H
   obtain ⟨c1, c2⟩ := c1
   have c2b : decide (a0_0 ≤ 1000000) = true := decide_eq_true c2
   by_cases c3 : 0 ≤ a0_1 ∧ a0_1 ≤ 7
   rotate_left
   · rw [if_neg c3] at H
     obtain rfl := Option.some.inj H
     have c4 : a0_1 < 0 ∨ 7 < a0_1 := by omega
     clear H c3
     rcases c4 with c4 | c4
     all_goals
       go_wp2
       go_ret
       exact ⟨rfl, HZ.out⟩
   · rw [if_pos c3] at H
     obtain ⟨c3, c4⟩ := c3
     have H1 : (if a0_0 > 0 ∨ a0_1 = 0 then if 1 ≤ a0_2 ∧ a0_2 ≤ 3 then if a0_2 = 0 then some false else if a0_2 = 1 then some ((l0_3.length : Int) == 0) else if a0_2 = 2 then some t117 else if a0_2 = 3 then some t118 else none else some false else some false) = some r := by
       rw [← H]
       by_cases x : a0_0 > 0
       · rw [if_pos x, if_pos (.inl x)]
       · rw [if_neg x]
         by_cases y : a0_1 = 0
         · rw [if_pos y, if_pos (.inr y)]
         · rw [if_neg y, if_neg (by omega)]
     clear H
     by_cases c5 : a0_0 > 0 ∨ a0_1 = 0
     rotate_left
     · rw [if_neg c5] at H1
       obtain rfl := Option.some.inj H1
       have c6 : (a0_1 == 0) = false := beq_eq_false_iff_ne.mpr (fun e => c5 (.inr e))
       have c7 : decide (0 < a0_0) = false := decide_eq_false (fun e => c5 (.inl e))
       clear H1 c5
       go_wp2
       go_ret
       exact ⟨rfl, HZ.out⟩
     · rw [if_pos c5] at H1
       by_cases c6 : 1 ≤ a0_2 ∧ a0_2 ≤ 3
       rotate_left
       · rw [if_neg c6] at H1
         obtain rfl := Option.some.inj H1
         have c7 : a0_2 < 1 ∨ 3 < a0_2 := by omega
         clear H1 c6
         rcases c5 with c5 | c5
         · rcases c7 with c7 | c7
           all_goals
             go_wp2
             go_ret
             exact ⟨rfl, HZ.out⟩
         · subst c5
           have c8 : a0_0 = 0 ∨ 0 < a0_0 := by omega
           rcases c8 with rfl | c8
           · rcases c7 with c7 | c7
             all_goals
               go_wp2
               go_ret
               exact ⟨rfl, HZ.out⟩
           · rcases c7 with c7 | c7
             all_goals
               go_wp2
               go_ret
               exact ⟨rfl, HZ.out⟩
       · rw [if_pos c6] at H1
         have c7 : a0_2 = 1 ∨ a0_2 = 2 ∨ a0_2 = 3 := by omega
         clear c6
         rcases c7 with rfl | rfl | rfl
         all_goals
           rw [if_neg (by decide)] at H1
           simp (decide := true) only [if_true, if_false, if_neg] at H1
           obtain rfl := Option.some.inj H1
           clear H1
           rcases c5 with c5 | c5
           · go_wp2
             go_ret
             exact ⟨rfl, HZ.out⟩
           · subst c5
             have c8 : a0_0 = 0 ∨ 0 < a0_0 := by omega
             rcases c8 with rfl | c8
             · go_wp2
               go_ret
               exact ⟨rfl, HZ.out⟩
             · go_wp2
               go_ret
               exact ⟨rfl, HZ.out⟩
/-! end by hand -/

end Go.Proofs.Ythhdfefobblmkaa.P
