/- Functions that the laws reach, told as plain functions, each with a proof that the call computes it; for every input. Written by a program of ours out of the translation. -/
import Derived.Test.YthblegfihenflaaPx0
import Derived.Test.YthblegfihenflaaPx3
import Derived.Test.YthblegfihenflaaPx4
import Derived.Test.YthblegfihenflaaPx7
import Derived.Test.YthblegfihenflaaPx10
namespace Go.Proofs.Ythblegfihenflaa.P
open Go.RowKit Go.Proofs.YthblegfihenflaaW.PrintWords Go.Proofs.YthblegfihenflaaW.PrintLast Go.Proofs.YthblegfihenflaaW.PrintMore
open Go.Proofs.YthblegfihenflaaG (bk_ bl_ rk_)
attribute [local go_sem] max2_int min2_int max_two min_two max_three min_three max_four min_four   -- for this text's walks alone
set_option linter.unusedVariables false
set_option linter.unusedSimpArgs false

/-! ### ledger_Debit: function 12 -/
def ledger_Debit.j0 : Nat → Int → List (S31) → Int → Bool → List (S31) → Int → Option ((List (S31)) × Int × Int)
 | 0, _, _, _, _, _, _ => none
 | k + 1, x2, x9, x10, x29, x140000, x140001 => if x29 = true then (some (([] : List (S31)), 0, 121)) else (if x140001 = 1000000000 then (some (([] : List (S31)), 0, 122)) else (if 0 ≤ x10 then (if x10 < (x9.length : Int) then ((some (x9.set (x10 : Int).toNat (⟨(rd_T31 x9 x10).f0, wrap64 (((rd_T31 x9 x10).f1) - x2)⟩ : S31) : List (S31))).bind fun y149 => (if ((rd_T31 y149 x10).f1) = 0 then ((api_Amount_28.f y149 x10 (wrap64 (x10 + 1))).bind fun t151 => (some (t151, wrap64 (x140001 + 1), 0))) else (some (y149, wrap64 (x140001 + 1), 0)))) else (none)) else (none)))
def ledger_Debit.f (k : Nat) (l0_0 : List (S31)) (a0_1 : Int) (a1 : Int) (a2 : Int) : Option ((List (S31)) × Int × Int) := (ledger_asked.f k l0_0 a0_1 a1 a2).bind fun t141 => (if t141 = 0 then ((api_Amount_25.f l0_0).bind fun t142 => ((ledger_place.f k t142 a1).bind fun bt145 => (if bt145.2 = true then (if 0 ≤ bt145.1 then (if bt145.1 < (t142.length : Int) then (ledger_Debit.j0 k a2 t142 bt145.1 (decide (((rd_T31 t142 bt145.1).f1) < a2)) l0_0 a0_1) else (none)) else (none)) else (ledger_Debit.j0 k a2 t142 bt145.1 true l0_0 a0_1)))) else (some (([] : List (S31)), 0, t141)))
theorem ledger_Debit.mono_l : ∀ k, (∀ y0 y1 y2 y3 y4 y5, LeO (ledger_Debit.j0 k y0 y1 y2 y3 y4 y5) (ledger_Debit.j0 (k + 1) y0 y1 y2 y3 y4 y5))
 | 0 => fun _ _ _ _ _ _ r h => by simp [ledger_Debit.j0] at h
 | k + 1 => by
  have ih0 := ledger_Debit.mono_l k
  ·intro y0 y1 y2 y3 y4 y5
   unfold ledger_Debit.j0
   repeat' first
   | (with_reducible exact ih0 _ _ _ _ _ _)
   | (with_reducible exact ledger_asked.mono _ _ _ _ _)
   | (with_reducible exact ledger_place.mono _ _ _)
   | (with_reducible exact LeO.refl _)
   | (with_reducible exact LeO.none _)
   | (with_reducible refine LeO.ite ?_ ?_)
   | (with_reducible refine LeO.bind ?_ (fun _ => ?_))
   | exact ih0 _ _ _ _ _ _
   | exact ledger_asked.mono _ _ _ _ _
   | exact ledger_place.mono _ _ _
   | exact LeO.none _
   | refine LeO.ite ?_ ?_
   | refine LeO.bind ?_ (fun _ => ?_)
theorem ledger_Debit.mono : ∀ a0 a1 a2 a3 k, LeO (ledger_Debit.f k a0 a1 a2 a3) (ledger_Debit.f (k + 1) a0 a1 a2 a3) := by
 intro a0 a1 a2 a3 k
 have ih0 := ledger_Debit.mono_l k
 unfold ledger_Debit.f
 repeat' first
   | (with_reducible exact ih0 _ _ _ _ _ _)
   | (with_reducible exact ledger_asked.mono _ _ _ _ _)
   | (with_reducible exact ledger_place.mono _ _ _)
   | (with_reducible exact LeO.refl _)
   | (with_reducible exact LeO.none _)
   | (with_reducible refine LeO.ite ?_ ?_)
   | (with_reducible refine LeO.bind ?_ (fun _ => ?_))
   | exact ih0 _ _ _ _ _ _
   | exact ledger_asked.mono _ _ _ _ _
   | exact ledger_place.mono _ _ _
   | exact LeO.none _
   | refine LeO.ite ?_ ?_
   | refine LeO.bind ?_ (fun _ => ?_)
set_option maxHeartbeats 8000000 in
set_option maxRecDepth 100000 in
theorem ledger_Debit.calls (k : Nat) (A0_0 : Option Addr) (c0_0 : Nat) (l0_0 : List (S31)) (a0_1 : Int) (a1 : Int) (a2 : Int) (r1 : List (S31)) (r2 : Int) (r3 : Int) (w : World) (hr0_0 : Kd.C k31 w A0_0 l0_0.length l0_0) (hc0_0 : l0_0.length ≤ c0_0) (h : ledger_Debit.f k l0_0 a0_1 a1 a2 = some (r1, r2, r3)) :
  Calls Try.prog 12 #[.agg #[.slice A0_0 l0_0.length c0_0, .int .i64 a0_1], .int .i64 a1, .int .i64 a2] w fun e w' => ∃ v0_ : Value, e = .returned (.tuple #[.agg #[v0_, .int .i64 r2], .int .i64 r3]) ∧ Kd.R k31 31 w' w.heap.size (fun _ => True) v0_ r1 ∧ Below w.heap.size w w' := by
 have hu24 := Try.underlying24
 have HR0_0 := Aside0.mk hr0_0
 have HC0_0 := Aside0.mk hc0_0
 clear hr0_0 hc0_0
 have HB := Aside0.mk (Below.refl w.heap.size w)
 have H : ((ledger_asked.f k l0_0 a0_1 a1 a2).bind fun t141 => (if t141 = 0 then ((api_Amount_25.f l0_0).bind fun t142 => ((ledger_place.f k t142 a1).bind fun bt145 => (if bt145.2 = true then (if 0 ≤ bt145.1 then (if bt145.1 < (t142.length : Int) then (ledger_Debit.j0 k a2 t142 bt145.1 (decide (((rd_T31 t142 bt145.1).f1) < a2)) l0_0 a0_1) else (none)) else (none)) else (ledger_Debit.j0 k a2 t142 bt145.1 true l0_0 a0_1)))) else (some (([] : List (S31)), 0, t141)))) = some (r1, r2, r3) := h
 clear h
 replace H := Option.bind_eq_some_iff.mp H
 obtain ⟨t141, A40, H⟩ := H
 replace H : (if t141 = 0 then ((api_Amount_25.f l0_0).bind fun t142 => ((ledger_place.f k t142 a1).bind fun bt145 => (if bt145.2 = true then (if 0 ≤ bt145.1 then (if bt145.1 < (t142.length : Int) then (ledger_Debit.j0 k a2 t142 bt145.1 (decide (((rd_T31 t142 bt145.1).f1) < a2)) l0_0 a0_1) else (none)) else (none)) else (ledger_Debit.j0 k a2 t142 bt145.1 true l0_0 a0_1)))) else (some (([] : List (S31)), 0, t141))) = some (r1, r2, r3) := H
 have A4 := Aside0.mk A40
 clear A40
 by_cases c5 : t141 = 0
 ·rw [if_pos c5] at H
  have c5b0 : (t141 == 0) = true := beq_iff_eq.mpr c5
  have c5b1 : (t141 != 0) = false := bne_eq_false_iff_eq.mpr c5
  clear c5
  replace H := Option.bind_eq_some_iff.mp H
  obtain ⟨t142, A60, H⟩ := H
  replace H : ((ledger_place.f k t142 a1).bind fun bt145 => (if bt145.2 = true then (if 0 ≤ bt145.1 then (if bt145.1 < (t142.length : Int) then (ledger_Debit.j0 k a2 t142 bt145.1 (decide (((rd_T31 t142 bt145.1).f1) < a2)) l0_0 a0_1) else (none)) else (none)) else (ledger_Debit.j0 k a2 t142 bt145.1 true l0_0 a0_1))) = some (r1, r2, r3) := H
  have A6 := Aside0.mk A60
  clear A60
  replace H := Option.bind_eq_some_iff.mp H
  obtain ⟨⟨t145, t146⟩, A70, H⟩ := H
  replace H : (if t146 = true then (if 0 ≤ t145 then (if t145 < (t142.length : Int) then (ledger_Debit.j0 k a2 t142 t145 (decide (((rd_T31 t142 t145).f1) < a2)) l0_0 a0_1) else (none)) else (none)) else (ledger_Debit.j0 k a2 t142 t145 true l0_0 a0_1)) = some (r1, r2, r3) := H
  have A7 := Aside0.mk A70
  clear A70
  have HC8 := Aside0.mk H
  clear H
  go_enter Try.func12, Try.ntmps12
  go_upto_region 6 with (first | ((with_reducible refine gate_dst (N := 3) rfl ?_); refine box_event ?hg (N := 3) ?hd (cs := #[.slice A0_0 l0_0.length c0_0, .int .i64 a0_1]) (t := 24) ?hr ?_; (case hd => rfl); (case hg => rfl); (case hr => first | (go_simp; done) | (go_simp; rfl)); intro gb139 hg w9 hbox hb; have n0_ := Aside0.mk (below_step (by exact bl_ HB.out) hb); have n1_ := Aside0.mk (hbox); have n2_ := Aside0.mk ((by rw [hg]; exact (below_size (by exact bl_ HB.out)) : w.heap.size ≤ gb139)); have n3_ := Aside0.mk ((by rw [hg]; exact (below_size (by exact bl_ HB.out)) : w.heap.size ≤ gb139)); clear HB; have HB := n0_; have BK139 := n1_; have GW139 := n2_; have GE139 := n3_; clear n0_ n1_ n2_ n3_; clear hb hbox hg) | ((with_reducible refine gate_dst (N := 6) rfl ?_); refine box_event ?hg (N := 6) ?hd (cs := #[.slice none 0 0, .int .i64 0]) (t := 24) ?hr ?_; (case hd => rfl); (case hg => rfl); (case hr => first | (go_simp; done) | (go_simp; rfl)); intro gb140 hg w10 hbox hb; have n0_ := Aside0.mk (blk_below (g := gb139) (o := .cells #[.slice A0_0 l0_0.length c0_0, .int .i64 a0_1] 24 (0, 0)) (by exact bk_ BK139.out) hb); have n1_ := Aside0.mk (below_step (by repeat (first | (with_reducible first | exact HB.out | apply below_alloc | apply pw_below_drewN | apply below_drew1 | refine below_set ?_ GE139.out) | exact HB.out)) hb); have n2_ := Aside0.mk (hbox); have n3_ := Aside0.mk ((by rw [hg]; exact (below_size (by repeat (first | (with_reducible first | exact HB.out | apply below_alloc | apply pw_below_drewN | apply below_drew1 | refine below_set ?_ GE139.out) | exact HB.out))) : w.heap.size ≤ gb140)); have n4_ := Aside0.mk ((by rw [hg]; exact (below_size (by repeat (first | (with_reducible first | exact HB.out | apply below_alloc | apply pw_below_drewN | apply below_drew1 | refine below_set ?_ GE139.out) | exact HB.out))) : w.heap.size ≤ gb140)); have n5_ := Aside0.mk ((by rw [hg]; exact Nat.ne_of_lt (blk_lt (g := gb139) (o := .cells #[.slice A0_0 l0_0.length c0_0, .int .i64 a0_1] 24 (0, 0)) (by exact bk_ BK139.out)) : gb139 ≠ gb140)); have n6_ := Aside0.mk ((by rw [hg]; exact Nat.ne_of_gt (blk_lt (g := gb139) (o := .cells #[.slice A0_0 l0_0.length c0_0, .int .i64 a0_1] 24 (0, 0)) (by exact bk_ BK139.out)) : gb140 ≠ gb139)); clear BK139; clear HB; have BK139 := n0_; have HB := n1_; have BK140 := n2_; have GW140 := n3_; have GE140 := n4_; have NB139_140 := n5_; have NB140_139 := n6_; clear n0_ n1_ n2_ n3_ n4_ n5_ n6_; clear hb hbox hg; have hnb11 := NB139_140.out; have hnc11 := NB140_139.out; have hcz12_0 : w10.cell? ⟨gb139, 0, none⟩ = some (.slice A0_0 l0_0.length c0_0) := (blk_cell BK139.out 0).trans rfl; have hcz12_1 : w10.cell? ⟨gb139, 1, none⟩ = some (.int .i64 a0_1) := (blk_cell BK139.out 1).trans rfl; have hfz12_0 := blk_frozen BK139.out 0; have hfz12_1 := blk_frozen BK139.out 1) | ((with_reducible refine gate_callee (f := 24) rfl ?_); refine goesL_ (some 15) rfl rfl Try.func24 (by kernel_rfl) rfl #[.agg #[.slice A0_0 l0_0.length c0_0, .int .i64 a0_1], .int .i64 a1, .int .i64 a2] rfl (by (try simp only [List.map_toArray, List.map_cons, List.map_nil]); first | done | rfl | (simp only [List.length_drop, List.length_take]; rfl)) ?_; (with_reducible refine (ledger_asked.calls k _ _ l0_0 a0_1 a1 a2 t141 _ ?side1 ?side2 A4.out).mono ?_); (case side1 => repeat (first | exact (Kd.C_below HR0_0.out HB.out) | (with_reducible refine Kd.C_alloc ?_ _) | (with_reducible refine Kd.C_drewN ?_ _) | (with_reducible refine Kd.C_drew ?_))); (case side2 => exact HC0_0.out); rintro e w13 ⟨rfl, hb⟩; refine ⟨_, rfl, ?_⟩; have n0_ := Aside0.mk (blk_below (g := gb139) (o := .cells #[.slice A0_0 l0_0.length c0_0, .int .i64 a0_1] 24 (0, 0)) (by exact bk_ BK139.out) hb); have n1_ := Aside0.mk (blk_below (g := gb140) (o := .cells #[.slice none 0 0, .int .i64 0] 24 (0, 0)) (by exact bk_ BK140.out) hb); have n2_ := Aside0.mk (below_step (by repeat (first | (with_reducible first | exact HB.out | apply below_alloc | apply pw_below_drewN | apply below_drew1 | refine below_set ?_ GE139.out | refine below_set ?_ GE140.out) | exact HB.out)) hb); clear BK139; clear BK140; clear HB; have BK139 := n0_; have BK140 := n1_; have HB := n2_; clear n0_ n1_ n2_; (try clear hb); (try clear hb2); (try clear hk); (try clear hi); have hcz14_0 : w13.cell? ⟨gb139, 0, none⟩ = some (.slice A0_0 l0_0.length c0_0) := (blk_cell BK139.out 0).trans rfl; have hcz14_1 : w13.cell? ⟨gb139, 1, none⟩ = some (.int .i64 a0_1) := (blk_cell BK139.out 1).trans rfl; have hfz14_0 := blk_frozen BK139.out 0; have hfz14_1 := blk_frozen BK139.out 1) | ((with_reducible refine gate_callee (f := 25) rfl ?_); refine goesL_ (some 22) rfl rfl Try.func25 (by kernel_rfl) rfl #[.slice A0_0 l0_0.length c0_0] rfl (by (try simp only [List.map_toArray, List.map_cons, List.map_nil]); first | done | rfl | (simp only [List.length_drop, List.length_take]; rfl)) ?_; (with_reducible refine (api_Amount_25.calls _ _ l0_0 t142 _ ?side1 ?side2 A6.out).mono ?_); (case side1 => repeat (first | exact (Kd.C_below HR0_0.out HB.out) | (with_reducible refine Kd.C_alloc ?_ _) | (with_reducible refine Kd.C_drewN ?_ _) | (with_reducible refine Kd.C_drew ?_))); (case side2 => exact HC0_0.out); rintro e w15 ⟨v143, rfl, ho0, hb⟩; refine ⟨_, rfl, ?_⟩; have n0_ := Aside0.mk (Kd.R_lower ho0 (below_size (by repeat (first | (with_reducible first | exact HB.out | apply below_alloc | apply pw_below_drewN | apply below_drew1 | refine below_set ?_ GE139.out | refine below_set ?_ GE140.out) | exact HB.out)))); have n1_ := Aside0.mk (blk_below (g := gb139) (o := .cells #[.slice A0_0 l0_0.length c0_0, .int .i64 a0_1] 24 (0, 0)) (by exact bk_ BK139.out) hb); have n2_ := Aside0.mk (blk_below (g := gb140) (o := .cells #[.slice none 0 0, .int .i64 0] 24 (0, 0)) (by exact bk_ BK140.out) hb); have n3_ := Aside0.mk (below_step (by repeat (first | (with_reducible first | exact HB.out | apply below_alloc | apply pw_below_drewN | apply below_drew1 | refine below_set ?_ GE139.out | refine below_set ?_ GE140.out) | exact HB.out)) hb); clear BK139; clear BK140; clear HB; have HO144 := n0_; have BK139 := n1_; have BK140 := n2_; have HB := n3_; clear n0_ n1_ n2_ n3_; (try clear hb); (try clear hb2); (try clear hk); (try clear hi); (try clear ho0); obtain ⟨Ao16, co16, eo16⟩ := Kd.R_slice HO144.out; subst eo16) | ((with_reducible refine gate_callee (f := 26) rfl ?_); refine goesL_ (some 26) rfl rfl Try.func26 (by kernel_rfl) rfl #[.slice Ao16 t142.length co16, .int .i64 a1] rfl (by (try simp only [List.map_toArray, List.map_cons, List.map_nil]); first | done | rfl | (simp only [List.length_drop, List.length_take]; rfl)) ?_; (with_reducible refine (ledger_place.calls k _ _ t142 a1 t145 t146 _ ?side1 ?side2 A7.out).mono ?_); (case side1 => repeat (first | exact (Kd.R_reads' HO144.out).2.2 | (with_reducible refine Kd.C_alloc ?_ _) | (with_reducible refine Kd.C_drewN ?_ _) | (with_reducible refine Kd.C_drew ?_))); (case side2 => exact (Kd.R_reads' HO144.out).2.1); rintro e w17 ⟨rfl, hb⟩; refine ⟨_, rfl, ?_⟩; have n0_ := Aside0.mk (Kd.R_below (by exact rk_ HO144.out) hb); have n1_ := Aside0.mk (blk_below (g := gb139) (o := .cells #[.slice A0_0 l0_0.length c0_0, .int .i64 a0_1] 24 (0, 0)) (by exact bk_ BK139.out) hb); have n2_ := Aside0.mk (blk_below (g := gb140) (o := .cells #[.slice none 0 0, .int .i64 0] 24 (0, 0)) (by exact bk_ BK140.out) hb); have n3_ := Aside0.mk (below_step (by repeat (first | (with_reducible first | exact HB.out | apply below_alloc | apply pw_below_drewN | apply below_drew1 | refine below_set ?_ GE139.out | refine below_set ?_ GE140.out) | exact HB.out)) hb); clear HO144; clear BK139; clear BK140; clear HB; have HO144 := n0_; have BK139 := n1_; have BK140 := n2_; have HB := n3_; clear n0_ n1_ n2_ n3_; (try clear hb); (try clear hb2); (try clear hk); (try clear hi)))
  (try simp only [Act.put, List.setIfInBounds_toArray, List.set_cons_zero, List.set_cons_succ])
  go_cut [29] (fun v29 wc => ∃ (kq : Nat) (x29_7 : Bool), v29 = .bool x29_7 ∧ Aside0 (ledger_Debit.j0 kq a2 t142 t145 x29_7 l0_0 a0_1 = some (r1, r2, r3)) ∧ Aside0 (kq ≤ k) ∧ Aside0 (Kd.R k31 31 wc w.heap.size (fun _ => True) (.slice Ao16 t142.length co16) t142) ∧ Aside0 (wc.heap[gb139]? = some (.cells #[(.slice A0_0 l0_0.length c0_0), .int .i64 a0_1] 24 (0, 0))) ∧ Aside0 (wc.heap[gb140]? = some (.cells #[(.slice none 0 0), .int .i64 0] 24 (0, 0))) ∧ Aside0 (Below w.heap.size w wc))
  case first =>
   have H := HC8.out
   clear HC8
   by_cases c18 : t146 = true
   ·subst c18
    have H1 : (if 0 ≤ t145 then (if t145 < (t142.length : Int) then (ledger_Debit.j0 k a2 t142 t145 (decide (((rd_T31 t142 t145).f1) < a2)) l0_0 a0_1) else (none)) else (none)) = some (r1, r2, r3) := by rw [if_pos rfl] at H; exact H
    clear H
    have H := H1
    clear H1
    by_cases c19 : 0 ≤ t145
    ·rw [if_pos c19] at H
     have c19b0 : decide (0 ≤ t145) = true := decide_eq_true c19
     clear c19
     (first | rw [c19b0] | (simp only [i64_w, i32_w]; rw [c19b0]) | skip)
     by_cases c20 : t145 < (t142.length : Int)
     ·rw [if_pos c20] at H
      have c20b0 : decide (t145 < (t142.length : Int)) = true := decide_eq_true c20
      clear c20
      have H' := Aside0.mk H
      clear H
      have p147 : 0 ≤ (t145 : Int) := of_decide_eq_true (by first | (with_reducible assumption) | assumption)
      have q147 : t145 < (t142.length : Int) := of_decide_eq_true (by first | (with_reducible assumption) | assumption)
      obtain ⟨ad147, e147, hx147_0, hx147_1⟩ := at_T31 (Kd.R_reads' HO144.out).2.2 t145 p147 q147
      cases e147
      replace p147 := eq_true p147
      replace q147 := eq_true q147
      go_wp2
      go_meet
      case rel => exact ⟨_, (decide (((rd_T31 t142 t145).f1) < a2)), (by first | rfl | (simp; done) | (simp [*]; done)), H', ⟨by first | omega | exact Nat.le_refl _⟩, ⟨by exact rk_ HO144.out⟩, ⟨by exact bk_ BK139.out⟩, ⟨by exact bk_ BK140.out⟩, ⟨by repeat (first | (with_reducible first | exact HB.out | apply below_alloc | apply pw_below_drewN | apply below_drew1 | refine below_set ?_ GE139.out | refine below_set ?_ GE140.out) | exact HB.out)⟩⟩
     ·rw [if_neg c20] at H
      exact absurd H (by simp)
    ·rw [if_neg c19] at H
     exact absurd H (by simp)
   ·replace c18 := Bool.eq_false_iff.mpr c18
    subst c18
    have H1 : (ledger_Debit.j0 k a2 t142 t145 true l0_0 a0_1) = some (r1, r2, r3) := by rw [if_neg (show ¬ (false = true) by decide)] at H; exact H
    clear H
    have H := H1
    clear H1
    have H' := Aside0.mk H
    clear H
    go_wp2
    go_meet
    case rel => exact ⟨_, (true), (by first | rfl | (simp; done) | (simp [*]; done)), H', ⟨by first | omega | exact Nat.le_refl _⟩, ⟨by exact rk_ HO144.out⟩, ⟨by exact bk_ BK139.out⟩, ⟨by exact bk_ BK140.out⟩, ⟨by repeat (first | (with_reducible first | exact HB.out | apply below_alloc | apply pw_below_drewN | apply below_drew1 | refine below_set ?_ GE139.out | refine below_set ?_ GE140.out) | exact HB.out)⟩⟩
  case rest =>
   clear HC8
   try clear c1
   try clear p1
   try clear q1
   try clear hx1
   try clear c2
   try clear p2
   try clear c5
   try clear c5b0
   try clear c5b1
   try clear c11
   try clear c12
   try clear p14
   try clear q14
   try clear hx14
   try clear c18
   try clear c19
   try clear c19b0
   try clear c20
   try clear c20b0
   try clear hcz12_0
   try clear hcz12_1
   try clear hcz14_0
   try clear hcz14_1
   try clear hfz12_0
   try clear hfz12_1
   try clear hfz14_0
   try clear hfz14_1
   try clear hx147_0
   try clear hx147_1
   try clear p147
   try clear q147
   obtain ⟨kq, x29_7, rfl, HA, HJ7, HO_9, BK139, BK140, HB⟩ := hcut
   cases kq with
   | zero => exact absurd HA.out (by simp [ledger_Debit.j0])
   | succ kj7 =>
    have H := HA.out
    clear HA
    simp only [ledger_Debit.j0] at H
    by_cases c21 : x29_7 = true
    ·subst c21
     have H1 : (some (([] : List (S31)), 0, 121)) = some (r1, r2, r3) := by rw [if_pos rfl] at H; exact H
     clear H
     have H := H1
     clear H1
     simp only [Option.some.injEq, Prod.mk.injEq] at H
     obtain ⟨rfl, rfl, rfl⟩ := H
     have hnb22 := NB140_139.out
     have hnc22 := NB139_140.out
     have hcz23_0 : wc.cell? ⟨gb140, 0, none⟩ = some (.slice none 0 0) := (blk_cell BK140.out 0).trans rfl
     have hcz23_1 : wc.cell? ⟨gb140, 1, none⟩ = some (.int .i64 0) := (blk_cell BK140.out 1).trans rfl
     have hfz23_0 := blk_frozen BK140.out 0
     have hfz23_1 := blk_frozen BK140.out 1
     go_wp2
     refine bodyPost_ret (results_ct rfl _ _ gb140 24 #[.slice none 0 0, .int .i64 0] (0, 0) _ rfl (by (with_reducible repeat (first | refine blk_drewN ?_ _ | refine blk_drew ?_ | refine blk_alloc ?_ _)); refine blk_put (cs := #[.slice none 0 0, .int .i64 0]) ?_ 1 _ rfl; (with_reducible repeat (first | refine blk_drewN ?_ _ | refine blk_drew ?_ | refine blk_alloc ?_ _)); refine blk_put (cs := #[.slice none 0 0, .int .i64 0]) ?_ 0 _ rfl; exact bk_ BK140.out) Try.underlying24 rfl (by kernel_rfl)) rfl ?_
     exact ⟨_, by first | rfl | (simp [errW_none, errW_some] <;> rfl) | (simp [*, errW_none, errW_some] <;> rfl), by first | exact Kd.R_nil _ _ _ _ _ | exact Kd.N_nil _ _ _ _ _ | exact Kd.V_nil _ _ _ _ _ | exact Kd.Q_nil _ _ _ _ _ | exact Kd.S_nil _ _ _ _ _, by repeat (first | (with_reducible first | exact HB.out | apply below_alloc | apply pw_below_drewN | apply below_drew1 | refine below_set ?_ GE139.out | refine below_set ?_ GE140.out) | exact HB.out)⟩
    ·replace c21 := Bool.eq_false_iff.mpr c21
     subst c21
     have H1 : (if a0_1 = 1000000000 then (some (([] : List (S31)), 0, 122)) else (if 0 ≤ t145 then (if t145 < (t142.length : Int) then ((some (t142.set (t145 : Int).toNat (⟨(rd_T31 t142 t145).f0, wrap64 (((rd_T31 t142 t145).f1) - a2)⟩ : S31) : List (S31))).bind fun y149 => (if ((rd_T31 y149 t145).f1) = 0 then ((api_Amount_28.f y149 t145 (wrap64 (t145 + 1))).bind fun t151 => (some (t151, wrap64 (a0_1 + 1), 0))) else (some (y149, wrap64 (a0_1 + 1), 0)))) else (none)) else (none))) = some (r1, r2, r3) := by rw [if_neg (show ¬ (false = true) by decide)] at H; exact H
     clear H
     have H := H1
     clear H1
     by_cases c24 : a0_1 = 1000000000
     ·rw [if_pos c24] at H
      have c24b0 : (a0_1 == 1000000000) = true := beq_iff_eq.mpr c24
      have c24b1 : (a0_1 != 1000000000) = false := bne_eq_false_iff_eq.mpr c24
      clear c24
      simp only [Option.some.injEq, Prod.mk.injEq] at H
      obtain ⟨rfl, rfl, rfl⟩ := H
      have hnb25 := NB139_140.out
      have hnc25 := NB140_139.out
      have hcz26_0 : wc.cell? ⟨gb139, 0, none⟩ = some (.slice A0_0 l0_0.length c0_0) := (blk_cell BK139.out 0).trans rfl
      have hcz26_1 : wc.cell? ⟨gb139, 1, none⟩ = some (.int .i64 a0_1) := (blk_cell BK139.out 1).trans rfl
      have hfz26_0 := blk_frozen BK139.out 0
      have hfz26_1 := blk_frozen BK139.out 1
      have hcz27_0 : wc.cell? ⟨gb140, 0, none⟩ = some (.slice none 0 0) := (blk_cell BK140.out 0).trans rfl
      have hcz27_1 : wc.cell? ⟨gb140, 1, none⟩ = some (.int .i64 0) := (blk_cell BK140.out 1).trans rfl
      have hfz27_0 := blk_frozen BK140.out 0
      have hfz27_1 := blk_frozen BK140.out 1
      go_wp2
      refine bodyPost_ret (results_ct rfl _ _ gb140 24 #[.slice none 0 0, .int .i64 0] (0, 0) _ rfl (by (with_reducible repeat (first | refine blk_drewN ?_ _ | refine blk_drew ?_ | refine blk_alloc ?_ _)); refine blk_put (cs := #[.slice none 0 0, .int .i64 0]) ?_ 1 _ rfl; (with_reducible repeat (first | refine blk_drewN ?_ _ | refine blk_drew ?_ | refine blk_alloc ?_ _)); refine blk_put (cs := #[.slice none 0 0, .int .i64 0]) ?_ 0 _ rfl; exact bk_ BK140.out) Try.underlying24 rfl (by kernel_rfl)) rfl ?_
      exact ⟨_, by first | rfl | (simp [errW_none, errW_some] <;> rfl) | (simp [*, errW_none, errW_some] <;> rfl), by first | exact Kd.R_nil _ _ _ _ _ | exact Kd.N_nil _ _ _ _ _ | exact Kd.V_nil _ _ _ _ _ | exact Kd.Q_nil _ _ _ _ _ | exact Kd.S_nil _ _ _ _ _, by repeat (first | (with_reducible first | exact HB.out | apply below_alloc | apply pw_below_drewN | apply below_drew1 | refine below_set ?_ GE139.out | refine below_set ?_ GE140.out) | exact HB.out)⟩
     ·rw [if_neg c24] at H
      have c24b0 : (a0_1 == 1000000000) = false := beq_eq_false_iff_ne.mpr c24
      have c24b1 : (a0_1 != 1000000000) = true := bne_iff_ne.mpr c24
      by_cases c28 : 0 ≤ t145
      ·rw [if_pos c28] at H
       have c28b0 : decide (0 ≤ t145) = true := decide_eq_true c28
       clear c28
       by_cases c29 : t145 < (t142.length : Int)
       ·rw [if_pos c29] at H
        have c29b0 : decide (t145 < (t142.length : Int)) = true := decide_eq_true c29
        clear c29
        obtain ⟨y149, hy149⟩ : ∃ y_ : List (S31), y_ = (t142.set (t145 : Int).toNat (⟨(rd_T31 t142 t145).f0, wrap64 (((rd_T31 t142 t145).f1) - a2)⟩ : S31)) := ⟨_, rfl⟩
        replace H : (if ((rd_T31 y149 t145).f1) = 0 then ((api_Amount_28.f y149 t145 (wrap64 (t145 + 1))).bind fun t151 => (some (t151, wrap64 (a0_1 + 1), 0))) else (some (y149, wrap64 (a0_1 + 1), 0))) = some (r1, r2, r3) := by first | (rw [hy149]; with_reducible exact H) | (have H2_ := (Option.bind_some _ _).symm.trans H; rw [hy149]; with_reducible exact H2_) | (have H2_ := (Option.bind_some _ _).symm.trans H; with_reducible exact H2_) | with_reducible exact H | (rw [hy149]; exact H) | exact H
        have Ny149 := Aside0.mk hy149
        clear hy149
        by_cases c31 : ((rd_T31 y149 t145).f1) = 0
        ·rw [if_pos c31] at H
         have c31b0 : (((rd_T31 y149 t145).f1) == 0) = true := beq_iff_eq.mpr c31
         have c31b1 : (((rd_T31 y149 t145).f1) != 0) = false := bne_eq_false_iff_eq.mpr c31
         clear c31
         replace H := Option.bind_eq_some_iff.mp H
         obtain ⟨t151, A320, H⟩ := H
         replace H : (some (t151, wrap64 (a0_1 + 1), 0)) = some (r1, r2, r3) := H
         have A32 := Aside0.mk A320
         clear A320
         simp only [Option.some.injEq, Prod.mk.injEq] at H
         obtain ⟨rfl, rfl, rfl⟩ := H
         have hnb33 := NB139_140.out
         have hnc33 := NB140_139.out
         have hcz34_0 : wc.cell? ⟨gb139, 0, none⟩ = some (.slice A0_0 l0_0.length c0_0) := (blk_cell BK139.out 0).trans rfl
         have hcz34_1 : wc.cell? ⟨gb139, 1, none⟩ = some (.int .i64 a0_1) := (blk_cell BK139.out 1).trans rfl
         have hfz34_0 := blk_frozen BK139.out 0
         have hfz34_1 := blk_frozen BK139.out 1
         have p148 : 0 ≤ (t145 : Int) := of_decide_eq_true (by first | (with_reducible assumption) | assumption)
         have q148 : t145 < (t142.length : Int) := of_decide_eq_true (by first | (with_reducible assumption) | assumption)
         obtain ⟨ad148, e148, hx148_0, hx148_1⟩ := at_T31 (Kd.R_reads' HO_9.out).2.2 t145 p148 q148
         cases e148
         replace p148 := eq_true p148
         replace q148 := eq_true q148
         have p30 : 0 ≤ (t145 : Int) := of_decide_eq_true (by first | (with_reducible assumption) | assumption)
         have q30 : (t145 : Int) < ((t142.length : Int) : Int) := of_decide_eq_true (by first | (with_reducible assumption) | assumption)
         obtain ⟨go30, co30, eo30, gb30, gl30, cl30, HG30⟩ := Kd.R_form HO_9.out (by omega)
         (first | cases eo30 | (injection eo30 with ea_ en_ ec_; (first | subst ea_ | (injection ea_ with ea_; subst ea_)); subst ec_; clear en_))
         have GB30 := Aside0.mk gb30
         have GG30 := Aside0.mk HG30
         clear gb30 gl30 HG30
         (first | simp only [add_plain] at hx148_0 | skip)
         (first | simp only [add_plain] at hx148_1 | skip)
         obtain ⟨ce30, hcl30, hM30, hcc30, hfr30⟩ := Kd.R_elem HO_9.out z31 (t145 : Int) p30 q30
         obtain rfl := k31_openM hM30
         have hx30_0 : wc.cell? ⟨go30, (t145 : Int).toNat * 2, none⟩ = some (.int .i64 ((rd_T31 t142 t145).f0)) := hcc30 0 _ rfl
         have hx30_1 : wc.cell? ⟨go30, (t145 : Int).toNat * 2 + 1, none⟩ = some (.int .i64 ((rd_T31 t142 t145).f1)) := hcc30 1 _ rfl
         have hf30_0 : wc.frozen? ⟨go30, (t145 : Int).toNat * 2, none⟩ = false := hfr30 0
         have hf30_1 : wc.frozen? ⟨go30, (t145 : Int).toNat * 2 + 1, none⟩ = false := hfr30 1
         clear hcl30 hcc30 hfr30 hM30
         replace p30 := eq_true p30
         replace q30 := eq_true q30
         have HX35 := Aside0.mk (show Kd.R k31 31 wc w.heap.size (fun _ => True) (.slice (some ⟨go30, 0, none⟩) t142.length co16) t142 from (by exact rk_ HO_9.out))
         obtain ⟨ce35, hcl35, hM35, hcc35, hfr35⟩ := Kd.R_elem HX35.out z31 (t145 : Int) (of_decide_eq_true (by first | (with_reducible assumption) | assumption)) (by have h_ : (t145 : Int) < ((t142.length : Int) : Int) := of_decide_eq_true (by first | (with_reducible assumption) | assumption); first | exact h_ | (have e_ := (Kd.R_reads' HO_9.out).1; omega) | simpa using h_)
         obtain rfl := k31_openM hM35
         have HP35 := Kd.R_seg HX35.out (t145 : Int) (of_decide_eq_true (by first | (with_reducible assumption) | assumption)) (by have h_ : (t145 : Int) < ((t142.length : Int) : Int) := of_decide_eq_true (by first | (with_reducible assumption) | assumption); first | exact h_ | (have e_ := (Kd.R_reads' HO_9.out).1; omega) | simpa using h_) (seg := [.int .i64 (wrap64 (((rd_T31 t142 t145).f1) - a2))]) (j := 1) hcl35 hcc35 (show 2 ≤ 2 from by decide) (x' := (⟨(rd_T31 t142 t145).f0, wrap64 (((rd_T31 t142 t145).f1) - a2)⟩ : S31)) (k31_mkM _ _ _ (⟨(rd_T31 t142 t145).f0, wrap64 (((rd_T31 t142 t145).f1) - a2)⟩ : S31) ) (fun _ hk => hk)
         have hx35_1 := hcc35 1 _ rfl
         (try simp only [show (k31).sz = 2 from rfl, Nat.mul_one, Nat.add_zero] at hx35_1)
         have hf35_1 := hfr35 1
         (try simp only [show (k31).sz = 2 from rfl, Nat.mul_one, Nat.add_zero] at hf35_1)
         clear hcl35 hcc35 hfr35 hM35
         go_wp2_with (first | ((with_reducible refine gate_store (t := 3) (p := 55) rfl ?_); refine store_event (t := 3) (p := 55) (v := ?vo_w36) (w1 := (wc.setCell ⟨go30, (t145 : Int).toNat * 2 + 1, none⟩ (.int .i64 (wrap64 (((rd_T31 t142 t145).f1) - a2))))) ?hg ?ho ?hn ?hr ?_; (case ho => rfl); (case hg => rfl); (case hn => rfl); (case hr => first | (go_simp; done) | (go_simp; rfl)); intro w36 hw; have hg : wc.grownBy w36 (some go30) := (by rw [hw]; exact HP35.2); have hp_ : Kd.R k31 31 w36 w.heap.size (fun _ => True) (.slice (some ⟨go30, 0, none⟩) t142.length co16) y149 := (by rw [hw, Ny149.out]; exact HP35.1); clear HP35; have n0_ := Aside0.mk (hp_); have n1_ := Aside0.mk (blk_grown (g := gb139) (o := .cells #[.slice A0_0 l0_0.length c0_0, .int .i64 a0_1] 24 (0, 0)) (by exact bk_ BK139.out) hg (Kd.R_ne HO_9.out BK139.out (by decide))); have n2_ := Aside0.mk (blk_grown (g := gb140) (o := .cells #[.slice none 0 0, .int .i64 0] 24 (0, 0)) (by exact bk_ BK140.out) hg (Kd.R_ne HO_9.out BK140.out (by decide))); have n3_ := Aside0.mk ((by rw [hw]; exact below_set (HB.out) GB30.out : Below w.heap.size w w36)); clear HO_9; clear BK139; clear BK140; clear HB; have HO_9 := n0_; have BK139 := n1_; have BK140 := n2_; have HB := n3_; clear n0_ n1_ n2_ n3_; clear hg hw hp_; have p150 : 0 ≤ (t145 : Int) := of_decide_eq_true (by first | (with_reducible assumption) | assumption); have q150 : t145 < (y149.length : Int) := (by have h_ : (t145 : Int) < ((t142.length : Int) : Int) := of_decide_eq_true (by first | (with_reducible assumption) | assumption); first | (have e_ := (Kd.R_reads' HO_9.out).1; omega) | simpa only [Ny149.out, List.length_set] using h_); have ql150 : ((t145 : Int) < ((t142.length : Int) : Int)) = True := eq_true (of_decide_eq_true (by first | (with_reducible assumption) | assumption)); obtain ⟨ad150, e150, hx150_0, hx150_1⟩ := at_T31 (Kd.R_reads' HO_9.out).2.2 t145 p150 q150; obtain rfl : (⟨go30, 0, none⟩ : Addr) = ad150 := (by injection e150); (first | simp only [add_plain] at hx150_0 | simp only [add_at] at hx150_0 | simp only [Addr.add, Nat.zero_add] at hx150_0 | skip); (first | simp only [add_plain] at hx150_1 | simp only [add_at] at hx150_1 | simp only [Addr.add, Nat.zero_add] at hx150_1 | skip); replace p150 := eq_true p150; replace q150 := eq_true q150) | ((with_reducible refine gate_callee (f := 28) rfl ?_); refine goesL_ (some 66) rfl rfl Try.func28 (by kernel_rfl) rfl #[.slice (some ⟨go30, 0, none⟩) t142.length co16, .int .i64 t145, .int .i64 (wrap64 (t145 + 1))] rfl (by (try simp only [List.map_toArray, List.map_cons, List.map_nil]); first | done | rfl | (simp only [List.length_drop, List.length_take]; rfl)) ?_; (with_reducible refine (api_Amount_28.calls (fun k_ => some k_ = (.slice (some ⟨go30, 0, none⟩) t142.length co16 : Value).ownBlock) (.slice (some ⟨go30, 0, none⟩) t142.length co16) y149 t145 (wrap64 (t145 + 1)) t151 w _ ?side1 ?side2 A32.out).mono ?_); (case side1 => repeat (first | (with_reducible first | exact HB.out | apply below_alloc | apply pw_below_drewN | apply below_drew1 | refine below_set ?_ GE139.out | refine below_set ?_ GE140.out) | exact HB.out)); (case side2 => exact Kd.R_tight rfl HO_9.out); rintro e w37 ⟨v152, rfl, ho0, hb, hkp⟩; refine ⟨_, rfl, ?_⟩; have n0_ := Aside0.mk (blk_kept (by exact bk_ BK139.out) hkp (fun hs_ => (fun e_ => (Kd.R_ne HO_9.out BK139.out (by decide)) e_) hs_)); have n1_ := Aside0.mk (blk_kept (by exact bk_ BK140.out) hkp (fun hs_ => (fun e_ => (Kd.R_ne HO_9.out BK140.out (by decide)) e_) hs_)); have n2_ := Aside0.mk (Kd.R_mono (ok' := fun k_ => True) ho0 (fun k_ hk_ => trivial)); have n3_ := Aside0.mk (hb); clear BK139; clear BK140; clear HB; clear HO_9; have BK139 := n0_; have BK140 := n1_; have HO153 := n2_; have HB := n3_; clear n0_ n1_ n2_ n3_; (try clear hb); (try clear hkp); (try clear ho0); have hcz38_0 : w37.cell? ⟨gb139, 0, none⟩ = some (.slice A0_0 l0_0.length c0_0) := (blk_cell BK139.out 0).trans rfl; have hcz38_1 : w37.cell? ⟨gb139, 1, none⟩ = some (.int .i64 a0_1) := (blk_cell BK139.out 1).trans rfl; have hfz38_0 := blk_frozen BK139.out 0; have hfz38_1 := blk_frozen BK139.out 1; obtain ⟨Ao39, co39, eo39⟩ := Kd.R_slice HO153.out; subst eo39; have hcz40_0 : w37.cell? ⟨gb140, 0, none⟩ = some (.slice none 0 0) := (blk_cell BK140.out 0).trans rfl; have hcz40_1 : w37.cell? ⟨gb140, 1, none⟩ = some (.int .i64 0) := (blk_cell BK140.out 1).trans rfl; have hfz40_0 := blk_frozen BK140.out 0; have hfz40_1 := blk_frozen BK140.out 1))
         refine bodyPost_ret (results_ct rfl _ _ gb140 24 #[.slice Ao39 t151.length co39, .int .i64 (wrap64 (a0_1 + 1))] (0, 0) _ rfl (by (with_reducible repeat (first | refine blk_drewN ?_ _ | refine blk_drew ?_ | refine blk_alloc ?_ _)); refine blk_put (cs := #[.slice Ao39 t151.length co39, .int .i64 0]) ?_ 1 _ rfl; (with_reducible repeat (first | refine blk_drewN ?_ _ | refine blk_drew ?_ | refine blk_alloc ?_ _)); refine blk_put (cs := #[.slice none 0 0, .int .i64 0]) ?_ 0 _ rfl; exact bk_ BK140.out) Try.underlying24 rfl (by kernel_rfl)) rfl ?_
         exact ⟨_, by first | rfl | (simp [errW_none, errW_some] <;> rfl) | (simp [*, errW_none, errW_some] <;> rfl), by (with_reducible repeat (first | apply Kd.R_alloc | apply Kd.R_drewN | apply Kd.R_drew)); exact Kd.R_mono (Kd.R_far (p := ⟨gb140, 1, none⟩) (Kd.R_far (p := ⟨gb140, 0, none⟩) (Kd.R_types HO153.out BK140.out (by decide)) (fun _ hk => hk.2) (.slice Ao39 t151.length co39)) (fun _ hk => hk.2) (.int .i64 (wrap64 (a0_1 + 1)))) (fun _ hk => trivial), by repeat (first | (with_reducible first | exact HB.out | apply below_alloc | apply pw_below_drewN | apply below_drew1 | refine below_set ?_ GE139.out | refine below_set ?_ GE140.out) | exact HB.out)⟩
        ·rw [if_neg c31] at H
         have c31b0 : (((rd_T31 y149 t145).f1) == 0) = false := beq_eq_false_iff_ne.mpr c31
         have c31b1 : (((rd_T31 y149 t145).f1) != 0) = true := bne_iff_ne.mpr c31
         simp only [Option.some.injEq, Prod.mk.injEq] at H
         obtain ⟨rfl, rfl, rfl⟩ := H
         have hnb41 := NB139_140.out
         have hnc41 := NB140_139.out
         have hcz42_0 : wc.cell? ⟨gb139, 0, none⟩ = some (.slice A0_0 l0_0.length c0_0) := (blk_cell BK139.out 0).trans rfl
         have hcz42_1 : wc.cell? ⟨gb139, 1, none⟩ = some (.int .i64 a0_1) := (blk_cell BK139.out 1).trans rfl
         have hfz42_0 := blk_frozen BK139.out 0
         have hfz42_1 := blk_frozen BK139.out 1
         have p148 : 0 ≤ (t145 : Int) := of_decide_eq_true (by first | (with_reducible assumption) | assumption)
         have q148 : t145 < (t142.length : Int) := of_decide_eq_true (by first | (with_reducible assumption) | assumption)
         obtain ⟨ad148, e148, hx148_0, hx148_1⟩ := at_T31 (Kd.R_reads' HO_9.out).2.2 t145 p148 q148
         cases e148
         replace p148 := eq_true p148
         replace q148 := eq_true q148
         have p30 : 0 ≤ (t145 : Int) := of_decide_eq_true (by first | (with_reducible assumption) | assumption)
         have q30 : (t145 : Int) < ((t142.length : Int) : Int) := of_decide_eq_true (by first | (with_reducible assumption) | assumption)
         obtain ⟨go30, co30, eo30, gb30, gl30, cl30, HG30⟩ := Kd.R_form HO_9.out (by omega)
         (first | cases eo30 | (injection eo30 with ea_ en_ ec_; (first | subst ea_ | (injection ea_ with ea_; subst ea_)); subst ec_; clear en_))
         have GB30 := Aside0.mk gb30
         have GG30 := Aside0.mk HG30
         clear gb30 gl30 HG30
         (first | simp only [add_plain] at hx148_0 | skip)
         (first | simp only [add_plain] at hx148_1 | skip)
         obtain ⟨ce30, hcl30, hM30, hcc30, hfr30⟩ := Kd.R_elem HO_9.out z31 (t145 : Int) p30 q30
         obtain rfl := k31_openM hM30
         have hx30_0 : wc.cell? ⟨go30, (t145 : Int).toNat * 2, none⟩ = some (.int .i64 ((rd_T31 t142 t145).f0)) := hcc30 0 _ rfl
         have hx30_1 : wc.cell? ⟨go30, (t145 : Int).toNat * 2 + 1, none⟩ = some (.int .i64 ((rd_T31 t142 t145).f1)) := hcc30 1 _ rfl
         have hf30_0 : wc.frozen? ⟨go30, (t145 : Int).toNat * 2, none⟩ = false := hfr30 0
         have hf30_1 : wc.frozen? ⟨go30, (t145 : Int).toNat * 2 + 1, none⟩ = false := hfr30 1
         clear hcl30 hcc30 hfr30 hM30
         replace p30 := eq_true p30
         replace q30 := eq_true q30
         have HX43 := Aside0.mk (show Kd.R k31 31 wc w.heap.size (fun _ => True) (.slice (some ⟨go30, 0, none⟩) t142.length co16) t142 from (by exact rk_ HO_9.out))
         obtain ⟨ce43, hcl43, hM43, hcc43, hfr43⟩ := Kd.R_elem HX43.out z31 (t145 : Int) (of_decide_eq_true (by first | (with_reducible assumption) | assumption)) (by have h_ : (t145 : Int) < ((t142.length : Int) : Int) := of_decide_eq_true (by first | (with_reducible assumption) | assumption); first | exact h_ | (have e_ := (Kd.R_reads' HO_9.out).1; omega) | simpa using h_)
         obtain rfl := k31_openM hM43
         have HP43 := Kd.R_seg HX43.out (t145 : Int) (of_decide_eq_true (by first | (with_reducible assumption) | assumption)) (by have h_ : (t145 : Int) < ((t142.length : Int) : Int) := of_decide_eq_true (by first | (with_reducible assumption) | assumption); first | exact h_ | (have e_ := (Kd.R_reads' HO_9.out).1; omega) | simpa using h_) (seg := [.int .i64 (wrap64 (((rd_T31 t142 t145).f1) - a2))]) (j := 1) hcl43 hcc43 (show 2 ≤ 2 from by decide) (x' := (⟨(rd_T31 t142 t145).f0, wrap64 (((rd_T31 t142 t145).f1) - a2)⟩ : S31)) (k31_mkM _ _ _ (⟨(rd_T31 t142 t145).f0, wrap64 (((rd_T31 t142 t145).f1) - a2)⟩ : S31) ) (fun _ hk => hk)
         have hx43_1 := hcc43 1 _ rfl
         (try simp only [show (k31).sz = 2 from rfl, Nat.mul_one, Nat.add_zero] at hx43_1)
         have hf43_1 := hfr43 1
         (try simp only [show (k31).sz = 2 from rfl, Nat.mul_one, Nat.add_zero] at hf43_1)
         clear hcl43 hcc43 hfr43 hM43
         go_wp2_with (first | ((with_reducible refine gate_store (t := 3) (p := 55) rfl ?_); refine store_event (t := 3) (p := 55) (v := ?vo_w44) (w1 := (wc.setCell ⟨go30, (t145 : Int).toNat * 2 + 1, none⟩ (.int .i64 (wrap64 (((rd_T31 t142 t145).f1) - a2))))) ?hg ?ho ?hn ?hr ?_; (case ho => rfl); (case hg => rfl); (case hn => rfl); (case hr => first | (go_simp; done) | (go_simp; rfl)); intro w44 hw; have hg : wc.grownBy w44 (some go30) := (by rw [hw]; exact HP43.2); have hp_ : Kd.R k31 31 w44 w.heap.size (fun _ => True) (.slice (some ⟨go30, 0, none⟩) t142.length co16) y149 := (by rw [hw, Ny149.out]; exact HP43.1); clear HP43; have n0_ := Aside0.mk (hp_); have n1_ := Aside0.mk (blk_grown (g := gb139) (o := .cells #[.slice A0_0 l0_0.length c0_0, .int .i64 a0_1] 24 (0, 0)) (by exact bk_ BK139.out) hg (Kd.R_ne HO_9.out BK139.out (by decide))); have n2_ := Aside0.mk (blk_grown (g := gb140) (o := .cells #[.slice none 0 0, .int .i64 0] 24 (0, 0)) (by exact bk_ BK140.out) hg (Kd.R_ne HO_9.out BK140.out (by decide))); have n3_ := Aside0.mk ((by rw [hw]; exact below_set (HB.out) GB30.out : Below w.heap.size w w44)); clear HO_9; clear BK139; clear BK140; clear HB; have HO_9 := n0_; have BK139 := n1_; have BK140 := n2_; have HB := n3_; clear n0_ n1_ n2_ n3_; clear hg hw hp_; have p150 : 0 ≤ (t145 : Int) := of_decide_eq_true (by first | (with_reducible assumption) | assumption); have q150 : t145 < (y149.length : Int) := (by have h_ : (t145 : Int) < ((t142.length : Int) : Int) := of_decide_eq_true (by first | (with_reducible assumption) | assumption); first | (have e_ := (Kd.R_reads' HO_9.out).1; omega) | simpa only [Ny149.out, List.length_set] using h_); have ql150 : ((t145 : Int) < ((t142.length : Int) : Int)) = True := eq_true (of_decide_eq_true (by first | (with_reducible assumption) | assumption)); obtain ⟨ad150, e150, hx150_0, hx150_1⟩ := at_T31 (Kd.R_reads' HO_9.out).2.2 t145 p150 q150; obtain rfl : (⟨go30, 0, none⟩ : Addr) = ad150 := (by injection e150); (first | simp only [add_plain] at hx150_0 | simp only [add_at] at hx150_0 | simp only [Addr.add, Nat.zero_add] at hx150_0 | skip); (first | simp only [add_plain] at hx150_1 | simp only [add_at] at hx150_1 | simp only [Addr.add, Nat.zero_add] at hx150_1 | skip); replace p150 := eq_true p150; replace q150 := eq_true q150; have hcz45_0 : w44.cell? ⟨gb139, 0, none⟩ = some (.slice A0_0 l0_0.length c0_0) := (blk_cell BK139.out 0).trans rfl; have hcz45_1 : w44.cell? ⟨gb139, 1, none⟩ = some (.int .i64 a0_1) := (blk_cell BK139.out 1).trans rfl; have hfz45_0 := blk_frozen BK139.out 0; have hfz45_1 := blk_frozen BK139.out 1; have hcz46_0 : w44.cell? ⟨gb140, 0, none⟩ = some (.slice none 0 0) := (blk_cell BK140.out 0).trans rfl; have hcz46_1 : w44.cell? ⟨gb140, 1, none⟩ = some (.int .i64 0) := (blk_cell BK140.out 1).trans rfl; have hfz46_0 := blk_frozen BK140.out 0; have hfz46_1 := blk_frozen BK140.out 1))
         refine bodyPost_ret (results_ct rfl _ _ gb140 24 #[.slice (some ⟨go30, 0, none⟩) t142.length co16, .int .i64 (wrap64 (a0_1 + 1))] (0, 0) _ rfl (by (with_reducible repeat (first | refine blk_drewN ?_ _ | refine blk_drew ?_ | refine blk_alloc ?_ _)); refine blk_put (cs := #[.slice (some ⟨go30, 0, none⟩) t142.length co16, .int .i64 0]) ?_ 1 _ rfl; (with_reducible repeat (first | refine blk_drewN ?_ _ | refine blk_drew ?_ | refine blk_alloc ?_ _)); refine blk_put (cs := #[.slice none 0 0, .int .i64 0]) ?_ 0 _ rfl; exact bk_ BK140.out) Try.underlying24 rfl (by kernel_rfl)) rfl ?_
         exact ⟨_, by first | rfl | (simp [errW_none, errW_some] <;> rfl) | (simp [*, errW_none, errW_some] <;> rfl), by (with_reducible repeat (first | apply Kd.R_alloc | apply Kd.R_drewN | apply Kd.R_drew)); exact Kd.R_mono (Kd.R_far (p := ⟨gb140, 1, none⟩) (Kd.R_far (p := ⟨gb140, 0, none⟩) (Kd.R_types HO_9.out BK140.out (by decide)) (fun _ hk => hk.2) (.slice (some ⟨go30, 0, none⟩) t142.length co16)) (fun _ hk => hk.2) (.int .i64 (wrap64 (a0_1 + 1)))) (fun _ hk => trivial), by repeat (first | (with_reducible first | exact HB.out | apply below_alloc | apply pw_below_drewN | apply below_drew1 | refine below_set ?_ GE139.out | refine below_set ?_ GE140.out) | exact HB.out)⟩
       ·rw [if_neg c29] at H
        exact absurd H (by simp)
      ·rw [if_neg c28] at H
       exact absurd H (by simp)
 ·rw [if_neg c5] at H
  have c5b0 : (t141 == 0) = false := beq_eq_false_iff_ne.mpr c5
  have c5b1 : (t141 != 0) = true := bne_iff_ne.mpr c5
  simp only [Option.some.injEq, Prod.mk.injEq] at H
  obtain ⟨rfl, rfl, rfl⟩ := H
  go_enter Try.func12, Try.ntmps12
  go_wp2_with (first | ((with_reducible refine gate_dst (N := 3) rfl ?_); refine box_event ?hg (N := 3) ?hd (cs := #[.slice A0_0 l0_0.length c0_0, .int .i64 a0_1]) (t := 24) ?hr ?_; (case hd => rfl); (case hg => rfl); (case hr => first | (go_simp; done) | (go_simp; rfl)); intro gb139 hg w47 hbox hb; have n0_ := Aside0.mk (below_step (by exact bl_ HB.out) hb); have n1_ := Aside0.mk (hbox); have n2_ := Aside0.mk ((by rw [hg]; exact (below_size (by exact bl_ HB.out)) : w.heap.size ≤ gb139)); have n3_ := Aside0.mk ((by rw [hg]; exact (below_size (by exact bl_ HB.out)) : w.heap.size ≤ gb139)); clear HB; have HB := n0_; have BK139 := n1_; have GW139 := n2_; have GE139 := n3_; clear n0_ n1_ n2_ n3_; clear hb hbox hg) | ((with_reducible refine gate_dst (N := 6) rfl ?_); refine box_event ?hg (N := 6) ?hd (cs := #[.slice none 0 0, .int .i64 0]) (t := 24) ?hr ?_; (case hd => rfl); (case hg => rfl); (case hr => first | (go_simp; done) | (go_simp; rfl)); intro gb140 hg w48 hbox hb; have n0_ := Aside0.mk (blk_below (g := gb139) (o := .cells #[.slice A0_0 l0_0.length c0_0, .int .i64 a0_1] 24 (0, 0)) (by exact bk_ BK139.out) hb); have n1_ := Aside0.mk (below_step (by repeat (first | (with_reducible first | exact HB.out | apply below_alloc | apply pw_below_drewN | apply below_drew1 | refine below_set ?_ GE139.out) | exact HB.out)) hb); have n2_ := Aside0.mk (hbox); have n3_ := Aside0.mk ((by rw [hg]; exact (below_size (by repeat (first | (with_reducible first | exact HB.out | apply below_alloc | apply pw_below_drewN | apply below_drew1 | refine below_set ?_ GE139.out) | exact HB.out))) : w.heap.size ≤ gb140)); have n4_ := Aside0.mk ((by rw [hg]; exact (below_size (by repeat (first | (with_reducible first | exact HB.out | apply below_alloc | apply pw_below_drewN | apply below_drew1 | refine below_set ?_ GE139.out) | exact HB.out))) : w.heap.size ≤ gb140)); have n5_ := Aside0.mk ((by rw [hg]; exact Nat.ne_of_lt (blk_lt (g := gb139) (o := .cells #[.slice A0_0 l0_0.length c0_0, .int .i64 a0_1] 24 (0, 0)) (by exact bk_ BK139.out)) : gb139 ≠ gb140)); have n6_ := Aside0.mk ((by rw [hg]; exact Nat.ne_of_gt (blk_lt (g := gb139) (o := .cells #[.slice A0_0 l0_0.length c0_0, .int .i64 a0_1] 24 (0, 0)) (by exact bk_ BK139.out)) : gb140 ≠ gb139)); clear BK139; clear HB; have BK139 := n0_; have HB := n1_; have BK140 := n2_; have GW140 := n3_; have GE140 := n4_; have NB139_140 := n5_; have NB140_139 := n6_; clear n0_ n1_ n2_ n3_ n4_ n5_ n6_; clear hb hbox hg; have hnb49 := NB139_140.out; have hnc49 := NB140_139.out; have hcz50_0 : w48.cell? ⟨gb139, 0, none⟩ = some (.slice A0_0 l0_0.length c0_0) := (blk_cell BK139.out 0).trans rfl; have hcz50_1 : w48.cell? ⟨gb139, 1, none⟩ = some (.int .i64 a0_1) := (blk_cell BK139.out 1).trans rfl; have hfz50_0 := blk_frozen BK139.out 0; have hfz50_1 := blk_frozen BK139.out 1) | ((with_reducible refine gate_callee (f := 24) rfl ?_); refine goesL_ (some 15) rfl rfl Try.func24 (by kernel_rfl) rfl #[.agg #[.slice A0_0 l0_0.length c0_0, .int .i64 a0_1], .int .i64 a1, .int .i64 a2] rfl (by (try simp only [List.map_toArray, List.map_cons, List.map_nil]); first | done | rfl | (simp only [List.length_drop, List.length_take]; rfl)) ?_; (with_reducible refine (ledger_asked.calls k _ _ l0_0 a0_1 a1 a2 t141 _ ?side1 ?side2 A4.out).mono ?_); (case side1 => repeat (first | exact (Kd.C_below HR0_0.out HB.out) | (with_reducible refine Kd.C_alloc ?_ _) | (with_reducible refine Kd.C_drewN ?_ _) | (with_reducible refine Kd.C_drew ?_))); (case side2 => exact HC0_0.out); rintro e w51 ⟨rfl, hb⟩; refine ⟨_, rfl, ?_⟩; have n0_ := Aside0.mk (blk_below (g := gb139) (o := .cells #[.slice A0_0 l0_0.length c0_0, .int .i64 a0_1] 24 (0, 0)) (by exact bk_ BK139.out) hb); have n1_ := Aside0.mk (blk_below (g := gb140) (o := .cells #[.slice none 0 0, .int .i64 0] 24 (0, 0)) (by exact bk_ BK140.out) hb); have n2_ := Aside0.mk (below_step (by repeat (first | (with_reducible first | exact HB.out | apply below_alloc | apply pw_below_drewN | apply below_drew1 | refine below_set ?_ GE139.out | refine below_set ?_ GE140.out) | exact HB.out)) hb); clear BK139; clear BK140; clear HB; have BK139 := n0_; have BK140 := n1_; have HB := n2_; clear n0_ n1_ n2_; (try clear hb); (try clear hb2); (try clear hk); (try clear hi); have hcz52_0 : w51.cell? ⟨gb140, 0, none⟩ = some (.slice none 0 0) := (blk_cell BK140.out 0).trans rfl; have hcz52_1 : w51.cell? ⟨gb140, 1, none⟩ = some (.int .i64 0) := (blk_cell BK140.out 1).trans rfl; have hfz52_0 := blk_frozen BK140.out 0; have hfz52_1 := blk_frozen BK140.out 1))
  refine bodyPost_ret (results_ct rfl _ _ gb140 24 #[.slice none 0 0, .int .i64 0] (0, 0) _ rfl (by (with_reducible repeat (first | refine blk_drewN ?_ _ | refine blk_drew ?_ | refine blk_alloc ?_ _)); refine blk_put (cs := #[.slice none 0 0, .int .i64 0]) ?_ 1 _ rfl; (with_reducible repeat (first | refine blk_drewN ?_ _ | refine blk_drew ?_ | refine blk_alloc ?_ _)); refine blk_put (cs := #[.slice none 0 0, .int .i64 0]) ?_ 0 _ rfl; exact bk_ BK140.out) Try.underlying24 rfl (by kernel_rfl)) rfl ?_
  exact ⟨_, by first | rfl | (simp [errW_none, errW_some] <;> rfl) | (simp [*, errW_none, errW_some] <;> rfl), by first | exact Kd.R_nil _ _ _ _ _ | exact Kd.N_nil _ _ _ _ _ | exact Kd.V_nil _ _ _ _ _ | exact Kd.Q_nil _ _ _ _ _ | exact Kd.S_nil _ _ _ _ _, by repeat (first | (with_reducible first | exact HB.out | apply below_alloc | apply pw_below_drewN | apply below_drew1 | refine below_set ?_ GE139.out | refine below_set ?_ GE140.out) | exact HB.out)⟩

end Go.Proofs.Ythblegfihenflaa.P
