/- Functions that the laws reach, told as plain functions, each with a proof that the call computes it; for every input. Written by a program of ours out of the translation. -/
import Derived.Test.YthflfekhanjlnaaPx0
import Derived.Test.YthflfekhanjlnaaPx13
namespace Go.Proofs.Ythflfekhanjlnaa.P
open Go.RowKit Go.Proofs.YthflfekhanjlnaaW.PrintWords Go.Proofs.YthflfekhanjlnaaW.PrintLast Go.Proofs.YthflfekhanjlnaaW.PrintMore
open Go.Proofs.YthflfekhanjlnaaG (bk_ bl_ rk_)
attribute [local go_sem] max2_int min2_int max_two min_two max_three min_three max_four min_four   -- for this text's walks alone
set_option linter.unusedVariables false
set_option linter.unusedSimpArgs false

@[reducible] def KnaaPx14_0 : Array Bool := #[false, false, false, false, false, false, false, false]
@[reducible] def KnaaPx14_1 : Array Bool := #[true, false, false, false, false, false, false, false]
@[reducible] def KnaaPx14_2 : Array Bool := #[true, true, false, false, false, false, false, false]
@[reducible] def KnaaPx14_3 : Array Bool := #[true, true, true, false, false, false, false, false]
@[reducible] def KnaaPx14_4 : Array Bool := #[true, true, true, true, false, false, false, false]
@[reducible] def KnaaPx14_5 : Array Bool := #[true, true, true, true, true, false, false, false]
@[reducible] def KnaaPx14_6 : Array Bool := #[true, true, true, true, true, true, false, false]
@[reducible] def KnaaPx14_7 : Array Bool := #[true, true, true, true, true, true, true, false]
@[reducible] def KnaaPx14_8 : Array Bool := #[true, true, true, true, true, true, true, true]
@[reducible] def KnaaPx14_9 : Array Bool := #[false, false, false, false, false, false, false, false, false, false, false, false, false, false, false, false]
@[reducible] def KnaaPx14_10 : Array Bool := #[true, false, false, false, false, false, false, false, false, false, false, false, false, false, false, false]
@[reducible] def KnaaPx14_11 : Array Bool := #[true, true, false, false, false, false, false, false, false, false, false, false, false, false, false, false]
@[reducible] def KnaaPx14_12 : Array Bool := #[true, true, true, false, false, false, false, false, false, false, false, false, false, false, false, false]
@[reducible] def KnaaPx14_13 : Array Bool := #[true, true, true, true, false, false, false, false, false, false, false, false, false, false, false, false]
@[reducible] def KnaaPx14_14 : Array Bool := #[true, true, true, true, true, false, false, false, false, false, false, false, false, false, false, false]
@[reducible] def KnaaPx14_15 : Array Bool := #[true, true, true, true, true, true, false, false, false, false, false, false, false, false, false, false]
@[reducible] def KnaaPx14_16 : Array Bool := #[true, true, true, true, true, true, true, false, false, false, false, false, false, false, false, false]
@[reducible] def KnaaPx14_17 : Array Bool := #[true, true, true, true, true, true, true, true, false, false, false, false, false, false, false, false]
@[reducible] def KnaaPx14_18 : Array Bool := #[true, true, true, true, true, true, true, true, true, false, false, false, false, false, false, false]
@[reducible] def KnaaPx14_19 : Array Bool := #[true, true, true, true, true, true, true, true, true, true, false, false, false, false, false, false]
@[reducible] def KnaaPx14_20 : Array Bool := #[true, true, true, true, true, true, true, true, true, true, true, false, false, false, false, false]
@[reducible] def KnaaPx14_21 : Array Bool := #[true, true, true, true, true, true, true, true, true, true, true, true, false, false, false, false]
@[reducible] def KnaaPx14_22 : Array Bool := #[true, true, true, true, true, true, true, true, true, true, true, true, true, false, false, false]
@[reducible] def KnaaPx14_23 : Array Bool := #[true, true, true, true, true, true, true, true, true, true, true, true, true, true, false, false]
@[reducible] def KnaaPx14_24 : Array Bool := #[true, true, true, true, true, true, true, true, true, true, true, true, true, true, true, false]
@[reducible] def KnaaPx14_25 : Array Bool := #[true, true, true, true, true, true, true, true, true, true, true, true, true, true, true, true]
/-! ### api_Key: function 27 -/
def api_Key.l0 : Nat → List (S30) → Int → Int → Int → Int → Int → Option (Int × Bool)
 | 0, _, _, _, _, _, _ => none
 | k + 1, x0, x8, x9, x10, x136000, x136001 => if x9 < x10 then (if 0 ≤ (wrap64 ((IntKind.u64.wrap (wrap64 (x9 + x10))) / 2)) then (if (wrap64 ((IntKind.u64.wrap (wrap64 (x9 + x10))) / 2)) < (x0.length : Int) then ((shardmap_find_1.f k ((rd_T30 x0 (wrap64 ((IntKind.u64.wrap (wrap64 (x9 + x10))) / 2))).f0.f0) ((rd_T30 x0 (wrap64 ((IntKind.u64.wrap (wrap64 (x9 + x10))) / 2))).f0.f1) ((rd_T30 x0 (wrap64 ((IntKind.u64.wrap (wrap64 (x9 + x10))) / 2))).f1) ((rd_T30 x0 (wrap64 ((IntKind.u64.wrap (wrap64 (x9 + x10))) / 2))).f2) x136000 x136001).bind fun t139 => (if t139 < 0 then (api_Key.l0 k x0 x8 (wrap64 ((wrap64 ((IntKind.u64.wrap (wrap64 (x9 + x10))) / 2)) + 1)) x10 x136000 x136001) else (api_Key.l0 k x0 x8 x9 (wrap64 ((IntKind.u64.wrap (wrap64 (x9 + x10))) / 2)) x136000 x136001))) else (none)) else (none)) else (if x9 < x8 then (if 0 ≤ x9 then (if x9 < (x0.length : Int) then ((shardmap_find_1.f k ((rd_T30 x0 x9).f0.f0) ((rd_T30 x0 x9).f0.f1) ((rd_T30 x0 x9).f1) ((rd_T30 x0 x9).f2) x136000 x136001).bind fun t137 => (some (x9, (t137 == 0)))) else (none)) else (none)) else (some (x9, false)))
def api_Key.f (k : Nat) (l0 : List (S30)) (a1_0 : Int) (a1_1 : Int)  : Option (Int × Bool) := api_Key.l0 k l0 (l0.length : Int) 0 (l0.length : Int) a1_0 a1_1
theorem api_Key.mono_l : ∀ k, (∀ y0 y1 y2 y3 y4 y5, LeO (api_Key.l0 k y0 y1 y2 y3 y4 y5) (api_Key.l0 (k + 1) y0 y1 y2 y3 y4 y5))
 | 0 => fun _ _ _ _ _ _ r h => by simp [api_Key.l0] at h
 | k + 1 => by
  have ih0 := api_Key.mono_l k
  ·intro y0 y1 y2 y3 y4 y5
   unfold api_Key.l0
   repeat' first
   | (with_reducible exact ih0 _ _ _ _ _ _)
   | (with_reducible exact shardmap_find_1.mono _ _ _ _ _ _ _)
   | (with_reducible exact LeO.refl _)
   | (with_reducible exact LeO.none _)
   | (with_reducible refine LeO.ite ?_ ?_)
   | (with_reducible refine LeO.bind ?_ (fun _ => ?_))
   | exact ih0 _ _ _ _ _ _
   | exact shardmap_find_1.mono _ _ _ _ _ _ _
   | exact LeO.none _
   | refine LeO.ite ?_ ?_
   | refine LeO.bind ?_ (fun _ => ?_)
theorem api_Key.mono : ∀ a0 a1 a2 k, LeO (api_Key.f k a0 a1 a2) (api_Key.f (k + 1) a0 a1 a2) := by
 intro a0 a1 a2 k
 have ih0 := api_Key.mono_l k
 unfold api_Key.f
 repeat' first
   | (with_reducible exact ih0 _ _ _ _ _ _)
   | (with_reducible exact shardmap_find_1.mono _ _ _ _ _ _ _)
   | (with_reducible exact LeO.refl _)
   | (with_reducible exact LeO.none _)
   | (with_reducible refine LeO.ite ?_ ?_)
   | (with_reducible refine LeO.bind ?_ (fun _ => ?_))
   | exact ih0 _ _ _ _ _ _
   | exact shardmap_find_1.mono _ _ _ _ _ _ _
   | exact LeO.none _
   | refine LeO.ite ?_ ?_
   | refine LeO.bind ?_ (fun _ => ?_)
def api_Key.T5 : Bool × List (List Nat × List Nat) := (true, [([], []), ([], []), ([], []), ([1, 2], [1, 2]), ([3], [3]), ([], []), ([0, 4, 5], [0, 4, 5]), ([6], [6])])
def api_Key.B5 : List Nat := [0, 0, 0, 6, 14, 0, 63, 127]
theorem api_Key.tab5 : rtab .any (opsOf Try.f27 5) = api_Key.T5 := by kernel_rfl
theorem api_Key.bits5 : waitsOk api_Key.T5.2 api_Key.B5 = true := by kernel_rfl
def api_Key.T8 : Bool × List (List Nat × List Nat) := (true, [([], []), ([], []), ([], []), ([1, 2], [1, 2]), ([3], [3]), ([4], [4]), ([4], [4]), ([4], [4]), ([6, 7, 4], [4, 6, 7]), ([8, 4], [4, 8]), ([4], [4]), ([5, 9, 10, 4, 4], [4, 5, 9, 10]), ([11, 4], [4, 11]), ([4, 12], [4, 12]), ([0, 11, 0], [0]), ([13, 14, 0, 1, 2, 3, 4, 5, 6, 7, 8, 9, 10, 11, 12, 13, 14], [13])])
def api_Key.B8 : List Nat := [0, 0, 0, 6, 14, 30, 30, 30, 222, 478, 30, 2046, 4094, 8190, 4095, 32767]
theorem api_Key.tab8 : rtab .any (opsOf Try.f27 8) = api_Key.T8 := by kernel_rfl
theorem api_Key.bits8 : waitsOk api_Key.T8.2 api_Key.B8 = true := by kernel_rfl
set_option maxHeartbeats 8000000 in
set_option maxRecDepth 100000 in
theorem api_Key.calls (k : Nat) (A0 : Option Addr) (c0 : Nat) (l0 : List (S30)) (a1_0 : Int) (a1_1 : Int)  (r1 : Int) (r2 : Bool) (w : World) (hr0 : Kd.C k30 w A0 l0.length l0) (hc0 : l0.length ≤ c0) (h : api_Key.f k l0 a1_0 a1_1 = some (r1, r2)) :
  Calls Try.prog 27 #[.slice A0 l0.length c0, .agg #[.int .i64 a1_0, .int .i64 a1_1], .func (.func 28) #[] #[]] w fun e w' => e = .returned (.tuple #[.int .i64 r1, .bool r2]) ∧ Below w.heap.size w w' := by
 have hu24 := Try.underlying24
 have hu30 := Try.underlying30
 have HR0 := Aside0.mk hr0
 have HC0 := Aside0.mk hc0
 clear hr0 hc0
 have HB := Aside0.mk (Below.refl w.heap.size w)
 have H : (api_Key.l0 k l0 (l0.length : Int) 0 (l0.length : Int) a1_0 a1_1) = some (r1, r2) := h
 clear h
 have H' := Aside0.mk H
 clear H
 go_enter Try.func27, Try.ntmps27
 go_wp2_with (first | ((with_reducible refine gate_dst (N := 4) rfl ?_); refine box_event ?hg (N := 4) ?hd (cs := #[.int .i64 a1_0, .int .i64 a1_1]) (t := 24) ?hr ?_; (case hd => rfl); (case hg => rfl); (case hr => first | (go_simp; done) | (go_simp; rfl)); intro gb135 hg w4 hbox hb; have n0_ := Aside0.mk (below_step (by exact bl_ HB.out) hb); have n1_ := Aside0.mk (hbox); have n2_ := Aside0.mk ((by rw [hg]; exact (below_size (by exact bl_ HB.out)) : w.heap.size ≤ gb135)); have n3_ := Aside0.mk ((by rw [hg]; exact (below_size (by exact bl_ HB.out)) : w.heap.size ≤ gb135)); clear HB; have HB := n0_; have BK135 := n1_; have GW135 := n2_; have GE135 := n3_; clear n0_ n1_ n2_ n3_; clear hb hbox hg))
 go_loopg [9, 10] k (fun kq v9 v10 w' => ∃ (x9_1 : Int) (x10_1 : Int), v9 = .int .i64 x9_1 ∧ v10 = .int .i64 x10_1 ∧ Aside0 (api_Key.l0 kq l0 (l0.length : Int) x9_1 x10_1 a1_0 a1_1 = some (r1, r2)) ∧ Aside0 (kq ≤ k) ∧ Aside0 (w'.heap[gb135]? = some (.cells #[.int .i64 a1_0, .int .i64 a1_1] 24 (0, 0))) ∧ Aside0 (Below w.heap.size w w'))
 case atStart => exact ⟨(0), ((l0.length : Int)), (by first | rfl | (simp; done) | (simp [*]; done)), (by first | rfl | (simp; done) | (simp [*]; done)), H', ⟨Nat.le_refl _⟩, ⟨by exact bk_ BK135.out⟩, ⟨by repeat (first | (with_reducible first | exact HB.out | apply below_alloc | apply pw_below_drewN | apply below_drew1 | refine below_set ?_ GE135.out) | exact HB.out)⟩⟩
 case round =>
  clear H'
  try clear c2
  try clear p2
  obtain ⟨x9_1, x10_1, rfl, rfl, HA, HK1, BK135, HB⟩ := hrel
  cases gk with
  | zero => exact absurd HA.out (by simp [api_Key.l0])
  | succ k1 =>
   have H := HA.out
   clear HA
   simp only [api_Key.l0] at H
   by_cases c5 : x9_1 < x10_1
   ·rw [if_pos c5] at H
    have c5b0 : decide (x9_1 < x10_1) = true := decide_eq_true c5
    clear c5
    obtain ⟨ji6, hji6⟩ : ∃ j_ : Int, (wrap64 ((IntKind.u64.wrap (wrap64 (x9_1 + x10_1))) / 2)) = j_ := ⟨_, rfl⟩
    replace H : (if 0 ≤ (ji6) then (if (ji6) < (l0.length : Int) then ((shardmap_find_1.f k1 ((rd_T30 l0 (ji6)).f0.f0) ((rd_T30 l0 (ji6)).f0.f1) ((rd_T30 l0 (ji6)).f1) ((rd_T30 l0 (ji6)).f2) a1_0 a1_1).bind fun t139 => (if t139 < 0 then (api_Key.l0 k1 l0 (l0.length : Int) (wrap64 ((ji6) + 1)) x10_1 a1_0 a1_1) else (api_Key.l0 k1 l0 (l0.length : Int) x9_1 ji6 a1_0 a1_1))) else (none)) else (none)) = some (r1, r2) := by first | (rw [hji6] at H; exact H) | (simp only [hji6] at H ⊢; exact H)
    have hji6w : (IntKind.i64.wrap ((IntKind.u64.wrap (wrap64 (x9_1 + x10_1))) / 2)) = ji6 := (i64_w _).trans hji6
    by_cases c7 : 0 ≤ (ji6)
    ·rw [if_pos c7] at H
     have c7b0 : decide (0 ≤ (ji6)) = true := decide_eq_true c7
     clear c7
     by_cases c8 : (ji6) < (l0.length : Int)
     ·rw [if_pos c8] at H
      have c8b0 : decide ((ji6) < (l0.length : Int)) = true := decide_eq_true c8
      clear c8
      replace H := Option.bind_eq_some_iff.mp H
      obtain ⟨t139, A90, H⟩ := H
      replace H : (if t139 < 0 then (api_Key.l0 k1 l0 (l0.length : Int) (wrap64 ((ji6) + 1)) x10_1 a1_0 a1_1) else (api_Key.l0 k1 l0 (l0.length : Int) x9_1 ji6 a1_0 a1_1)) = some (r1, r2) := H
      have A9 := Aside0.mk A90
      clear A90
      by_cases c10 : t139 < 0
      ·rw [if_pos c10] at H
       have c10b0 : decide (t139 < 0) = true := decide_eq_true c10
       clear c10
       have H' := Aside0.mk H
       clear H
       try go_wp2
       have n0_ := Aside0.mk (blk_drew BK135.out)
       have n1_ := Aside0.mk (below_drew1 HB.out)
       clear BK135
       clear HB
       have BK135 := n0_
       have HB := n1_
       clear n0_ n1_
       have p138 : 0 ≤ ((ji6) : Int) := of_decide_eq_true (by first | (with_reducible assumption) | assumption)
       have q138 : (ji6) < (l0.length : Int) := of_decide_eq_true (by first | (with_reducible assumption) | assumption)
       obtain ⟨ad138, e138, hx138_0, hx138_1, hx138_2, hx138_3⟩ := at_T30 HR0.out (ji6) p138 q138
       have hw138_3 := hx138_3
       have hw138_2 := hx138_2
       have hw138_1 := hx138_1
       have hw138_0 := hx138_0
       cases e138
       replace hx138_0 := (HB.out.cell (World.block_lt_of_cell? w _ hx138_0)).trans hx138_0
       replace hx138_1 := (HB.out.cell (World.block_lt_of_cell? w _ hx138_1)).trans hx138_1
       replace hx138_2 := (HB.out.cell (World.block_lt_of_cell? w _ hx138_2)).trans hx138_2
       replace hx138_3 := (HB.out.cell (World.block_lt_of_cell? w _ hx138_3)).trans hx138_3
       replace p138 := eq_true p138
       replace q138 := eq_true q138
       refine start_ (n := 8) (S := fun w' => w'.cell? ⟨gb135, 0, none⟩ = some (.int .i64 a1_0) ∧ w'.cell? ⟨gb135, 1, none⟩ = some (.int .i64 a1_1) ∧ w'.cell? (ad138.add (((ji6)).toNat * 4)) = some (.int .i64 ((rd_T30 l0 (ji6)).f0.f0)) ∧ w'.cell? ⟨(ad138.add (((ji6)).toNat * 4)).block, (ad138.add (((ji6)).toNat * 4)).off + 1, none⟩ = some (.int .i64 ((rd_T30 l0 (ji6)).f0.f1)) ∧ w'.cell? ⟨(ad138.add (((ji6)).toNat * 4)).block, (ad138.add (((ji6)).toNat * 4)).off + 2, none⟩ = some (.int .i64 ((rd_T30 l0 (ji6)).f1)) ∧ w'.cell? ⟨(ad138.add (((ji6)).toNat * 4)).block, (ad138.add (((ji6)).toNat * 4)).off + 3, none⟩ = some (.int .i64 ((rd_T30 l0 (ji6)).f2))) (ds := []) KnaaPx14_0 (by kernel_rfl) rfl rfl ⟨(blk_cell BK135.out 0).trans rfl, (blk_cell BK135.out 1).trans rfl, ((HB.out.cell (World.block_lt_of_cell? w _ hw138_0)).trans hw138_0), ((HB.out.cell (World.block_lt_of_cell? w _ hw138_1)).trans hw138_1), ((HB.out.cell (World.block_lt_of_cell? w _ hw138_2)).trans hw138_2), ((HB.out.cell (World.block_lt_of_cell? w _ hw138_3)).trans hw138_3)⟩ (fun hHeld => ?_); refine with_tabW api_Key.tab5 api_Key.bits5 (fun HT_ HW_ => ?_)
       generalize wr.drew = w11 at BK135 HB hx138_0 hx138_1 hx138_2 hx138_3 hHeld ⊢
       refine pure_ (i := 0) (N := some 24) (v := ?_) (a' := ?_) KnaaPx14_1 rfl rfl (any_of HT_.out (by kernel_rfl)) (fun _ _ _ h => h) (Or.inl ⟨by rfl, ?_⟩) ?_ ?_; rotate_left; focus (intro w'; go_simp; with_reducible rfl)
       rotate_left; focus (simp only [Act.put, List.setIfInBounds_toArray, List.set_cons_zero, List.set_cons_succ, i64_w, i32_w]; rfl)
       refine pure_ (i := 1) (N := some 25) (v := ?_) (a' := ?_) KnaaPx14_2 rfl rfl (any_of HT_.out (by kernel_rfl)) (fun _ _ _ h => h) (Or.inl ⟨by rfl, ?_⟩) ?_ ?_; rotate_left; focus (intro w'; go_simp; with_reducible rfl)
       rotate_left; focus (simp only [Act.put, List.setIfInBounds_toArray, List.set_cons_zero, List.set_cons_succ, i64_w, i32_w]; rfl)
       refine pure_ (i := 2) (N := some 26) (v := ?_) (a' := ?_) KnaaPx14_3 rfl rfl (any_of HT_.out (by kernel_rfl)) (fun _ _ _ h => h) (Or.inl ⟨by rfl, ?_⟩) ?_ ?_; rotate_left; focus (intro w'; go_simp; with_reducible rfl)
       rotate_left; focus (simp only [Act.put, List.setIfInBounds_toArray, List.set_cons_zero, List.set_cons_succ, i64_w, i32_w]; rfl)
       refine pure_ (i := 3) (N := some 27) (v := ?_) (a' := ?_) KnaaPx14_4 rfl rfl (any_of HT_.out (by kernel_rfl)) (fun _ _ _ h => h) (Or.inl ⟨by rfl, ?_⟩) ?_ ?_; rotate_left; focus (intro w'; go_simp; with_reducible rfl)
       rotate_left; focus (simp only [Act.put, List.setIfInBounds_toArray, List.set_cons_zero, List.set_cons_succ, i64_w, i32_w]; rfl)
       refine take_ (i := 4) (N := some 28) (v := ?_) (a' := ?_) KnaaPx14_5 rfl rfl (take_ofW HT_.out HW_.out (by kernel_rfl)) (fun _ _ _ h => h) (Or.inl ⟨by rfl, ?_⟩) hHeld ?_ ?_; rotate_left; focus (rintro w' ⟨s0, s1, s2, s3, s4, s5⟩; go_simp; with_reducible rfl)
       rotate_left; focus (simp only [Act.put, List.setIfInBounds_toArray, List.set_cons_zero, List.set_cons_succ, i64_w, i32_w]; rfl)
       refine take_ (i := 5) (N := some 29) (v := ?_) (a' := ?_) KnaaPx14_6 rfl rfl (take_ofW HT_.out HW_.out (by kernel_rfl)) (fun _ _ _ h => h) (Or.inl ⟨by rfl, ?_⟩) hHeld ?_ ?_; rotate_left; focus (rintro w' ⟨s0, s1, s2, s3, s4, s5⟩; go_simp; with_reducible rfl)
       rotate_left; focus (simp only [Act.put, List.setIfInBounds_toArray, List.set_cons_zero, List.set_cons_succ, i64_w, i32_w]; rfl)
       refine one_ (i := 6) (N := some 30) KnaaPx14_7 rfl rfl (one_of HT_.out (by kernel_rfl)) (by decide) (fun K hK => ?_)
       refine Go.Proofs.YthflfekhanjlnaaG.goesT_ Try.func28 (by kernel_rfl) rfl #[.agg #[.int .i64 ((rd_T30 l0 (ji6)).f0.f0), .int .i64 ((rd_T30 l0 (ji6)).f0.f1), .int .i64 ((rd_T30 l0 (ji6)).f1), .int .i64 ((rd_T30 l0 (ji6)).f2)], .agg #[.int .i64 a1_0, .int .i64 a1_1]] (by rfl) rfl rfl (by (try simp only [List.map_toArray, List.map_cons, List.map_nil]); first | done | (simp only [hji6]; rfl) | rfl | (simp only [List.length_drop, List.length_take]; rfl)) (by rfl) ?_
       with_reducible refine (shardmap_find_1.calls k1 ((rd_T30 l0 (ji6)).f0.f0) ((rd_T30 l0 (ji6)).f0.f1) ((rd_T30 l0 (ji6)).f1) ((rd_T30 l0 (ji6)).f2) a1_0 a1_1 t139 _ A9.out).mono ?_
       rintro e w12 ⟨rfl, hb⟩
       refine ⟨_, rfl, ?_⟩
       have n0_ := Aside0.mk (blk_below (g := gb135) (o := .cells #[.int .i64 a1_0, .int .i64 a1_1] 24 (0, 0)) (by exact bk_ BK135.out) hb)
       have n1_ := Aside0.mk (below_step (by repeat (first | (with_reducible first | exact HB.out | apply below_alloc | apply pw_below_drewN | apply below_drew1 | refine below_set ?_ GE135.out) | exact HB.out)) hb)
       clear BK135
       clear HB
       have BK135 := n0_
       have HB := n1_
       clear n0_ n1_
       (try clear hb)
       (try clear hb2)
       (try clear hk)
       (try clear hi)
       refine hK.out _ _ ⟨(blk_cell BK135.out 0).trans rfl, (blk_cell BK135.out 1).trans rfl, ((HB.out.cell (World.block_lt_of_cell? w _ hw138_0)).trans hw138_0), ((HB.out.cell (World.block_lt_of_cell? w _ hw138_1)).trans hw138_1), ((HB.out.cell (World.block_lt_of_cell? w _ hw138_2)).trans hw138_2), ((HB.out.cell (World.block_lt_of_cell? w _ hw138_3)).trans hw138_3)⟩ (fun hHeld => ?_)
       clear hK K
       refine norm_ (a' := ?_) ?_ ?_
       rotate_left
       ·show Act.put _ (some 30) _ = _
        simp only [Act.put, List.setIfInBounds_toArray, List.set_cons_zero, List.set_cons_succ, i64_w, i32_w]
        rfl
       refine pure_ (i := 7) (N := some 31) (v := ?_) (a' := ?_) KnaaPx14_8 rfl rfl (any_of HT_.out (by kernel_rfl)) (fun _ _ _ h => h) (Or.inl ⟨by rfl, ?_⟩) ?_ ?_; rotate_left; focus (intro w'; go_simp; with_reducible rfl)
       rotate_left; focus (simp only [Act.put, List.setIfInBounds_toArray, List.set_cons_zero, List.set_cons_succ, i64_w, i32_w]; rfl)
       refine done_ (done_of HT_.out (by kernel_rfl)) ?_
       try go_wp2
       go_roundg k1
       case measure => have := HK1.out; omega
       case rel => exact ⟨(wrap64 ((ji6) + 1)), (x10_1), (by first | rfl | (simp; done) | (simp only [← hji6] <;> (first | rfl | simp)) | (simp [*]; done)), (by first | rfl | (simp; done) | (simp [*]; done)), H', ⟨by have := HK1.out; omega⟩, ⟨by exact bk_ BK135.out⟩, ⟨by repeat (first | (with_reducible first | exact HB.out | apply below_alloc | apply pw_below_drewN | apply below_drew1 | refine below_set ?_ GE135.out) | exact HB.out)⟩⟩
      ·rw [if_neg c10] at H
       have c10b0 : decide (t139 < 0) = false := decide_eq_false c10
       clear c10
       have H' := Aside0.mk H
       clear H
       try go_wp2
       have n0_ := Aside0.mk (blk_drew BK135.out)
       have n1_ := Aside0.mk (below_drew1 HB.out)
       clear BK135
       clear HB
       have BK135 := n0_
       have HB := n1_
       clear n0_ n1_
       have p138 : 0 ≤ ((ji6) : Int) := of_decide_eq_true (by first | (with_reducible assumption) | assumption)
       have q138 : (ji6) < (l0.length : Int) := of_decide_eq_true (by first | (with_reducible assumption) | assumption)
       obtain ⟨ad138, e138, hx138_0, hx138_1, hx138_2, hx138_3⟩ := at_T30 HR0.out (ji6) p138 q138
       have hw138_3 := hx138_3
       have hw138_2 := hx138_2
       have hw138_1 := hx138_1
       have hw138_0 := hx138_0
       cases e138
       replace hx138_0 := (HB.out.cell (World.block_lt_of_cell? w _ hx138_0)).trans hx138_0
       replace hx138_1 := (HB.out.cell (World.block_lt_of_cell? w _ hx138_1)).trans hx138_1
       replace hx138_2 := (HB.out.cell (World.block_lt_of_cell? w _ hx138_2)).trans hx138_2
       replace hx138_3 := (HB.out.cell (World.block_lt_of_cell? w _ hx138_3)).trans hx138_3
       replace p138 := eq_true p138
       replace q138 := eq_true q138
       refine start_ (n := 8) (S := fun w' => w'.cell? ⟨gb135, 0, none⟩ = some (.int .i64 a1_0) ∧ w'.cell? ⟨gb135, 1, none⟩ = some (.int .i64 a1_1) ∧ w'.cell? (ad138.add (((ji6)).toNat * 4)) = some (.int .i64 ((rd_T30 l0 (ji6)).f0.f0)) ∧ w'.cell? ⟨(ad138.add (((ji6)).toNat * 4)).block, (ad138.add (((ji6)).toNat * 4)).off + 1, none⟩ = some (.int .i64 ((rd_T30 l0 (ji6)).f0.f1)) ∧ w'.cell? ⟨(ad138.add (((ji6)).toNat * 4)).block, (ad138.add (((ji6)).toNat * 4)).off + 2, none⟩ = some (.int .i64 ((rd_T30 l0 (ji6)).f1)) ∧ w'.cell? ⟨(ad138.add (((ji6)).toNat * 4)).block, (ad138.add (((ji6)).toNat * 4)).off + 3, none⟩ = some (.int .i64 ((rd_T30 l0 (ji6)).f2))) (ds := []) KnaaPx14_0 (by kernel_rfl) rfl rfl ⟨(blk_cell BK135.out 0).trans rfl, (blk_cell BK135.out 1).trans rfl, ((HB.out.cell (World.block_lt_of_cell? w _ hw138_0)).trans hw138_0), ((HB.out.cell (World.block_lt_of_cell? w _ hw138_1)).trans hw138_1), ((HB.out.cell (World.block_lt_of_cell? w _ hw138_2)).trans hw138_2), ((HB.out.cell (World.block_lt_of_cell? w _ hw138_3)).trans hw138_3)⟩ (fun hHeld => ?_); refine with_tabW api_Key.tab5 api_Key.bits5 (fun HT_ HW_ => ?_)
       generalize wr.drew = w13 at BK135 HB hx138_0 hx138_1 hx138_2 hx138_3 hHeld ⊢
       refine pure_ (i := 0) (N := some 24) (v := ?_) (a' := ?_) KnaaPx14_1 rfl rfl (any_of HT_.out (by kernel_rfl)) (fun _ _ _ h => h) (Or.inl ⟨by rfl, ?_⟩) ?_ ?_; rotate_left; focus (intro w'; go_simp; with_reducible rfl)
       rotate_left; focus (simp only [Act.put, List.setIfInBounds_toArray, List.set_cons_zero, List.set_cons_succ, i64_w, i32_w]; rfl)
       refine pure_ (i := 1) (N := some 25) (v := ?_) (a' := ?_) KnaaPx14_2 rfl rfl (any_of HT_.out (by kernel_rfl)) (fun _ _ _ h => h) (Or.inl ⟨by rfl, ?_⟩) ?_ ?_; rotate_left; focus (intro w'; go_simp; with_reducible rfl)
       rotate_left; focus (simp only [Act.put, List.setIfInBounds_toArray, List.set_cons_zero, List.set_cons_succ, i64_w, i32_w]; rfl)
       refine pure_ (i := 2) (N := some 26) (v := ?_) (a' := ?_) KnaaPx14_3 rfl rfl (any_of HT_.out (by kernel_rfl)) (fun _ _ _ h => h) (Or.inl ⟨by rfl, ?_⟩) ?_ ?_; rotate_left; focus (intro w'; go_simp; with_reducible rfl)
       rotate_left; focus (simp only [Act.put, List.setIfInBounds_toArray, List.set_cons_zero, List.set_cons_succ, i64_w, i32_w]; rfl)
       refine pure_ (i := 3) (N := some 27) (v := ?_) (a' := ?_) KnaaPx14_4 rfl rfl (any_of HT_.out (by kernel_rfl)) (fun _ _ _ h => h) (Or.inl ⟨by rfl, ?_⟩) ?_ ?_; rotate_left; focus (intro w'; go_simp; with_reducible rfl)
       rotate_left; focus (simp only [Act.put, List.setIfInBounds_toArray, List.set_cons_zero, List.set_cons_succ, i64_w, i32_w]; rfl)
       refine take_ (i := 4) (N := some 28) (v := ?_) (a' := ?_) KnaaPx14_5 rfl rfl (take_ofW HT_.out HW_.out (by kernel_rfl)) (fun _ _ _ h => h) (Or.inl ⟨by rfl, ?_⟩) hHeld ?_ ?_; rotate_left; focus (rintro w' ⟨s0, s1, s2, s3, s4, s5⟩; go_simp; with_reducible rfl)
       rotate_left; focus (simp only [Act.put, List.setIfInBounds_toArray, List.set_cons_zero, List.set_cons_succ, i64_w, i32_w]; rfl)
       refine take_ (i := 5) (N := some 29) (v := ?_) (a' := ?_) KnaaPx14_6 rfl rfl (take_ofW HT_.out HW_.out (by kernel_rfl)) (fun _ _ _ h => h) (Or.inl ⟨by rfl, ?_⟩) hHeld ?_ ?_; rotate_left; focus (rintro w' ⟨s0, s1, s2, s3, s4, s5⟩; go_simp; with_reducible rfl)
       rotate_left; focus (simp only [Act.put, List.setIfInBounds_toArray, List.set_cons_zero, List.set_cons_succ, i64_w, i32_w]; rfl)
       refine one_ (i := 6) (N := some 30) KnaaPx14_7 rfl rfl (one_of HT_.out (by kernel_rfl)) (by decide) (fun K hK => ?_)
       refine Go.Proofs.YthflfekhanjlnaaG.goesT_ Try.func28 (by kernel_rfl) rfl #[.agg #[.int .i64 ((rd_T30 l0 (ji6)).f0.f0), .int .i64 ((rd_T30 l0 (ji6)).f0.f1), .int .i64 ((rd_T30 l0 (ji6)).f1), .int .i64 ((rd_T30 l0 (ji6)).f2)], .agg #[.int .i64 a1_0, .int .i64 a1_1]] (by rfl) rfl rfl (by (try simp only [List.map_toArray, List.map_cons, List.map_nil]); first | done | (simp only [hji6]; rfl) | rfl | (simp only [List.length_drop, List.length_take]; rfl)) (by rfl) ?_
       with_reducible refine (shardmap_find_1.calls k1 ((rd_T30 l0 (ji6)).f0.f0) ((rd_T30 l0 (ji6)).f0.f1) ((rd_T30 l0 (ji6)).f1) ((rd_T30 l0 (ji6)).f2) a1_0 a1_1 t139 _ A9.out).mono ?_
       rintro e w14 ⟨rfl, hb⟩
       refine ⟨_, rfl, ?_⟩
       have n0_ := Aside0.mk (blk_below (g := gb135) (o := .cells #[.int .i64 a1_0, .int .i64 a1_1] 24 (0, 0)) (by exact bk_ BK135.out) hb)
       have n1_ := Aside0.mk (below_step (by repeat (first | (with_reducible first | exact HB.out | apply below_alloc | apply pw_below_drewN | apply below_drew1 | refine below_set ?_ GE135.out) | exact HB.out)) hb)
       clear BK135
       clear HB
       have BK135 := n0_
       have HB := n1_
       clear n0_ n1_
       (try clear hb)
       (try clear hb2)
       (try clear hk)
       (try clear hi)
       refine hK.out _ _ ⟨(blk_cell BK135.out 0).trans rfl, (blk_cell BK135.out 1).trans rfl, ((HB.out.cell (World.block_lt_of_cell? w _ hw138_0)).trans hw138_0), ((HB.out.cell (World.block_lt_of_cell? w _ hw138_1)).trans hw138_1), ((HB.out.cell (World.block_lt_of_cell? w _ hw138_2)).trans hw138_2), ((HB.out.cell (World.block_lt_of_cell? w _ hw138_3)).trans hw138_3)⟩ (fun hHeld => ?_)
       clear hK K
       refine norm_ (a' := ?_) ?_ ?_
       rotate_left
       ·show Act.put _ (some 30) _ = _
        simp only [Act.put, List.setIfInBounds_toArray, List.set_cons_zero, List.set_cons_succ, i64_w, i32_w]
        rfl
       refine pure_ (i := 7) (N := some 31) (v := ?_) (a' := ?_) KnaaPx14_8 rfl rfl (any_of HT_.out (by kernel_rfl)) (fun _ _ _ h => h) (Or.inl ⟨by rfl, ?_⟩) ?_ ?_; rotate_left; focus (intro w'; go_simp; with_reducible rfl)
       rotate_left; focus (simp only [Act.put, List.setIfInBounds_toArray, List.set_cons_zero, List.set_cons_succ, i64_w, i32_w]; rfl)
       refine done_ (done_of HT_.out (by kernel_rfl)) ?_
       try go_wp2
       go_roundg k1
       case measure => have := HK1.out; omega
       case rel => exact ⟨(x9_1), (ji6), (by first | rfl | (simp; done) | (simp [*]; done)), (by first | rfl | (simp; done) | (simp only [← hji6] <;> (first | rfl | simp)) | (simp [*]; done)), H', ⟨by have := HK1.out; omega⟩, ⟨by exact bk_ BK135.out⟩, ⟨by repeat (first | (with_reducible first | exact HB.out | apply below_alloc | apply pw_below_drewN | apply below_drew1 | refine below_set ?_ GE135.out) | exact HB.out)⟩⟩
     ·rw [if_neg c8] at H
      exact absurd H (by simp)
    ·rw [if_neg c7] at H
     exact absurd H (by simp)
   ·rw [if_neg c5] at H
    have c5b0 : decide (x9_1 < x10_1) = false := decide_eq_false c5
    clear c5
    by_cases c15 : x9_1 < (l0.length : Int)
    ·rw [if_pos c15] at H
     have c15b0 : decide (x9_1 < (l0.length : Int)) = true := decide_eq_true c15
     clear c15
     by_cases c16 : 0 ≤ x9_1
     ·rw [if_pos c16] at H
      have c16b0 : decide (0 ≤ x9_1) = true := decide_eq_true c16
      clear c16
      by_cases c17 : x9_1 < (l0.length : Int)
      ·rw [if_pos c17] at H
       have c17b0 : decide (x9_1 < (l0.length : Int)) = true := decide_eq_true c17
       clear c17
       replace H := Option.bind_eq_some_iff.mp H
       obtain ⟨t137, A180, H⟩ := H
       replace H : (some (x9_1, (t137 == 0))) = some (r1, r2) := H
       have A18 := Aside0.mk A180
       clear A180
       simp only [Option.some.injEq, Prod.mk.injEq] at H
       obtain ⟨rfl, rfl⟩ := H
       try go_wp2
       have n0_ := Aside0.mk (blk_drew BK135.out)
       have n1_ := Aside0.mk (below_drew1 HB.out)
       clear BK135
       clear HB
       have BK135 := n0_
       have HB := n1_
       clear n0_ n1_
       have p136 : 0 ≤ (x9_1 : Int) := of_decide_eq_true (by first | (with_reducible assumption) | assumption)
       have q136 : x9_1 < (l0.length : Int) := of_decide_eq_true (by first | (with_reducible assumption) | assumption)
       obtain ⟨ad136, e136, hx136_0, hx136_1, hx136_2, hx136_3⟩ := at_T30 HR0.out x9_1 p136 q136
       have hw136_3 := hx136_3
       have hw136_2 := hx136_2
       have hw136_1 := hx136_1
       have hw136_0 := hx136_0
       cases e136
       replace hx136_0 := (HB.out.cell (World.block_lt_of_cell? w _ hx136_0)).trans hx136_0
       replace hx136_1 := (HB.out.cell (World.block_lt_of_cell? w _ hx136_1)).trans hx136_1
       replace hx136_2 := (HB.out.cell (World.block_lt_of_cell? w _ hx136_2)).trans hx136_2
       replace hx136_3 := (HB.out.cell (World.block_lt_of_cell? w _ hx136_3)).trans hx136_3
       replace p136 := eq_true p136
       replace q136 := eq_true q136
       refine start_ (n := 16) (S := fun w' => w'.cell? ⟨gb135, 0, none⟩ = some (.int .i64 a1_0) ∧ w'.cell? ⟨gb135, 1, none⟩ = some (.int .i64 a1_1) ∧ w'.cell? (ad136.add ((x9_1).toNat * 4)) = some (.int .i64 ((rd_T30 l0 x9_1).f0.f0)) ∧ w'.cell? ⟨(ad136.add ((x9_1).toNat * 4)).block, (ad136.add ((x9_1).toNat * 4)).off + 1, none⟩ = some (.int .i64 ((rd_T30 l0 x9_1).f0.f1)) ∧ w'.cell? ⟨(ad136.add ((x9_1).toNat * 4)).block, (ad136.add ((x9_1).toNat * 4)).off + 2, none⟩ = some (.int .i64 ((rd_T30 l0 x9_1).f1)) ∧ w'.cell? ⟨(ad136.add ((x9_1).toNat * 4)).block, (ad136.add ((x9_1).toNat * 4)).off + 3, none⟩ = some (.int .i64 ((rd_T30 l0 x9_1).f2))) (ds := []) KnaaPx14_9 (by kernel_rfl) rfl rfl ⟨(blk_cell BK135.out 0).trans rfl, (blk_cell BK135.out 1).trans rfl, ((HB.out.cell (World.block_lt_of_cell? w _ hw136_0)).trans hw136_0), ((HB.out.cell (World.block_lt_of_cell? w _ hw136_1)).trans hw136_1), ((HB.out.cell (World.block_lt_of_cell? w _ hw136_2)).trans hw136_2), ((HB.out.cell (World.block_lt_of_cell? w _ hw136_3)).trans hw136_3)⟩ (fun hHeld => ?_); refine with_tabW api_Key.tab8 api_Key.bits8 (fun HT_ HW_ => ?_)
       generalize wr.drew = w19 at BK135 HB hx136_0 hx136_1 hx136_2 hx136_3 hHeld ⊢
       refine pure_ (i := 0) (N := some 35) (v := ?_) (a' := ?_) KnaaPx14_10 rfl rfl (any_of HT_.out (by kernel_rfl)) (fun _ _ _ h => h) (Or.inl ⟨by rfl, ?_⟩) ?_ ?_; rotate_left; focus (intro w'; go_simp; with_reducible rfl)
       rotate_left; focus (simp only [Act.put, List.setIfInBounds_toArray, List.set_cons_zero, List.set_cons_succ, i64_w, i32_w]; rfl)
       refine pure_ (i := 1) (N := some 36) (v := ?_) (a' := ?_) KnaaPx14_11 rfl rfl (any_of HT_.out (by kernel_rfl)) (fun _ _ _ h => h) (Or.inl ⟨by rfl, ?_⟩) ?_ ?_; rotate_left; focus (intro w'; go_simp; with_reducible rfl)
       rotate_left; focus (simp only [Act.put, List.setIfInBounds_toArray, List.set_cons_zero, List.set_cons_succ, i64_w, i32_w]; rfl)
       refine pure_ (i := 2) (N := some 37) (v := ?_) (a' := ?_) KnaaPx14_12 rfl rfl (any_of HT_.out (by kernel_rfl)) (fun _ _ _ h => h) (Or.inl ⟨by rfl, ?_⟩) ?_ ?_; rotate_left; focus (intro w'; go_simp; with_reducible rfl)
       rotate_left; focus (simp only [Act.put, List.setIfInBounds_toArray, List.set_cons_zero, List.set_cons_succ, i64_w, i32_w]; rfl)
       refine pure_ (i := 3) (N := some 38) (v := ?_) (a' := ?_) KnaaPx14_13 rfl rfl (any_of HT_.out (by kernel_rfl)) (fun _ _ _ h => h) (Or.inl ⟨by rfl, ?_⟩) ?_ ?_; rotate_left; focus (intro w'; go_simp; with_reducible rfl)
       rotate_left; focus (simp only [Act.put, List.setIfInBounds_toArray, List.set_cons_zero, List.set_cons_succ, i64_w, i32_w]; rfl)
       refine pure_ (i := 4) (N := some 39) (v := ?_) (a' := ?_) KnaaPx14_14 rfl rfl (any_of HT_.out (by kernel_rfl)) (fun _ _ _ h => h) (Or.inl ⟨by rfl, ?_⟩) ?_ ?_; rotate_left; focus (intro w'; go_simp; with_reducible rfl)
       rotate_left; focus (simp only [Act.put, List.setIfInBounds_toArray, List.set_cons_zero, List.set_cons_succ, i64_w, i32_w]; rfl)
       refine pure_ (i := 5) (N := some 40) (v := ?_) (a' := ?_) KnaaPx14_15 rfl rfl (any_of HT_.out (by kernel_rfl)) (fun _ _ _ h => h) (Or.inl ⟨by rfl, ?_⟩) ?_ ?_; rotate_left; focus (intro w'; go_simp; with_reducible rfl)
       rotate_left; focus (simp only [Act.put, List.setIfInBounds_toArray, List.set_cons_zero, List.set_cons_succ, i64_w, i32_w]; rfl)
       refine pure_ (i := 6) (N := some 41) (v := ?_) (a' := ?_) KnaaPx14_16 rfl rfl (any_of HT_.out (by kernel_rfl)) (fun _ _ _ h => h) (Or.inl ⟨by rfl, ?_⟩) ?_ ?_; rotate_left; focus (intro w'; go_simp; with_reducible rfl)
       rotate_left; focus (simp only [Act.put, List.setIfInBounds_toArray, List.set_cons_zero, List.set_cons_succ, i64_w, i32_w]; rfl)
       refine pure_ (i := 7) (N := some 42) (v := ?_) (a' := ?_) KnaaPx14_17 rfl rfl (any_of HT_.out (by kernel_rfl)) (fun _ _ _ h => h) (Or.inl ⟨by rfl, ?_⟩) ?_ ?_; rotate_left; focus (intro w'; go_simp; with_reducible rfl)
       rotate_left; focus (simp only [Act.put, List.setIfInBounds_toArray, List.set_cons_zero, List.set_cons_succ, i64_w, i32_w]; rfl)
       refine pure_ (i := 8) (N := some 43) (v := ?_) (a' := ?_) KnaaPx14_18 rfl rfl (any_of HT_.out (by kernel_rfl)) (fun _ _ _ h => h) (Or.inl ⟨by rfl, ?_⟩) ?_ ?_; rotate_left; focus (intro w'; go_simp; with_reducible rfl)
       rotate_left; focus (simp only [Act.put, List.setIfInBounds_toArray, List.set_cons_zero, List.set_cons_succ, i64_w, i32_w]; rfl)
       refine take_ (i := 9) (N := some 44) (v := ?_) (a' := ?_) KnaaPx14_19 rfl rfl (take_ofW HT_.out HW_.out (by kernel_rfl)) (fun _ _ _ h => h) (Or.inl ⟨by rfl, ?_⟩) hHeld ?_ ?_; rotate_left; focus (rintro w' ⟨s0, s1, s2, s3, s4, s5⟩; go_simp; with_reducible rfl)
       rotate_left; focus (simp only [Act.put, List.setIfInBounds_toArray, List.set_cons_zero, List.set_cons_succ, i64_w, i32_w]; rfl)
       refine take_ (i := 10) (N := some 45) (v := ?_) (a' := ?_) KnaaPx14_20 rfl rfl (take_ofW HT_.out HW_.out (by kernel_rfl)) (fun _ _ _ h => h) (Or.inl ⟨by rfl, ?_⟩) hHeld ?_ ?_; rotate_left; focus (rintro w' ⟨s0, s1, s2, s3, s4, s5⟩; go_simp; with_reducible rfl)
       rotate_left; focus (simp only [Act.put, List.setIfInBounds_toArray, List.set_cons_zero, List.set_cons_succ, i64_w, i32_w]; rfl)
       refine one_ (i := 11) (N := some 46) KnaaPx14_21 rfl rfl (one_of HT_.out (by kernel_rfl)) (by decide) (fun K hK => ?_)
       refine Go.Proofs.YthflfekhanjlnaaG.goesT_ Try.func28 (by kernel_rfl) rfl #[.agg #[.int .i64 ((rd_T30 l0 x9_1).f0.f0), .int .i64 ((rd_T30 l0 x9_1).f0.f1), .int .i64 ((rd_T30 l0 x9_1).f1), .int .i64 ((rd_T30 l0 x9_1).f2)], .agg #[.int .i64 a1_0, .int .i64 a1_1]] (by rfl) rfl rfl (by (try simp only [List.map_toArray, List.map_cons, List.map_nil]); first | done | rfl | (simp only [List.length_drop, List.length_take]; rfl)) (by rfl) ?_
       with_reducible refine (shardmap_find_1.calls k1 ((rd_T30 l0 x9_1).f0.f0) ((rd_T30 l0 x9_1).f0.f1) ((rd_T30 l0 x9_1).f1) ((rd_T30 l0 x9_1).f2) a1_0 a1_1 t137 _ A18.out).mono ?_
       rintro e w20 ⟨rfl, hb⟩
       refine ⟨_, rfl, ?_⟩
       have n0_ := Aside0.mk (blk_below (g := gb135) (o := .cells #[.int .i64 a1_0, .int .i64 a1_1] 24 (0, 0)) (by exact bk_ BK135.out) hb)
       have n1_ := Aside0.mk (below_step (by repeat (first | (with_reducible first | exact HB.out | apply below_alloc | apply pw_below_drewN | apply below_drew1 | refine below_set ?_ GE135.out) | exact HB.out)) hb)
       clear BK135
       clear HB
       have BK135 := n0_
       have HB := n1_
       clear n0_ n1_
       (try clear hb)
       (try clear hb2)
       (try clear hk)
       (try clear hi)
       refine hK.out _ _ ⟨(blk_cell BK135.out 0).trans rfl, (blk_cell BK135.out 1).trans rfl, ((HB.out.cell (World.block_lt_of_cell? w _ hw136_0)).trans hw136_0), ((HB.out.cell (World.block_lt_of_cell? w _ hw136_1)).trans hw136_1), ((HB.out.cell (World.block_lt_of_cell? w _ hw136_2)).trans hw136_2), ((HB.out.cell (World.block_lt_of_cell? w _ hw136_3)).trans hw136_3)⟩ (fun hHeld => ?_)
       clear hK K
       refine norm_ (a' := ?_) ?_ ?_
       rotate_left
       ·show Act.put _ (some 46) _ = _
        simp only [Act.put, List.setIfInBounds_toArray, List.set_cons_zero, List.set_cons_succ, i64_w, i32_w]
        rfl
       refine pure_ (i := 12) (N := some 47) (v := ?_) (a' := ?_) KnaaPx14_22 rfl rfl (any_of HT_.out (by kernel_rfl)) (fun _ _ _ h => h) (Or.inl ⟨by rfl, ?_⟩) ?_ ?_; rotate_left; focus (intro w'; go_simp; with_reducible rfl)
       rotate_left; focus (simp only [Act.put, List.setIfInBounds_toArray, List.set_cons_zero, List.set_cons_succ, i64_w, i32_w]; rfl)
       refine pure_ (i := 13) (N := some 48) (v := ?_) (a' := ?_) KnaaPx14_23 rfl rfl (any_of HT_.out (by kernel_rfl)) (fun _ _ _ h => h) (Or.inl ⟨by rfl, ?_⟩) ?_ ?_; rotate_left; focus (intro w'; go_simp; with_reducible rfl)
       rotate_left; focus (simp only [Act.put, List.setIfInBounds_toArray, List.set_cons_zero, List.set_cons_succ, i64_w, i32_w]; rfl)
       refine pure_ (i := 14) (N := some 6) (v := ?_) (a' := ?_) KnaaPx14_24 rfl rfl (any_of HT_.out (by kernel_rfl)) (fun _ _ _ h => h) (Or.inl ⟨by rfl, ?_⟩) ?_ ?_; rotate_left; focus (intro w'; go_simp; with_reducible rfl)
       rotate_left; focus (simp only [Act.put, List.setIfInBounds_toArray, List.set_cons_zero, List.set_cons_succ, i64_w, i32_w]; rfl)
       refine pure_ (i := 15) (N := some 7) (v := ?_) (a' := ?_) KnaaPx14_25 rfl rfl (any_of HT_.out (by kernel_rfl)) (fun _ _ _ h => h) (Or.inl ⟨by rfl, ?_⟩) ?_ ?_; rotate_left; focus (intro w'; go_simp; with_reducible rfl)
       rotate_left; focus (simp only [Act.put, List.setIfInBounds_toArray, List.set_cons_zero, List.set_cons_succ, i64_w, i32_w]; rfl)
       refine done_ (done_of HT_.out (by kernel_rfl)) ?_
       try go_wp2
       go_ret2
       exact ⟨by first | rfl | (simp [errW_none, errW_some] <;> rfl) | (simp [*, errW_none, errW_some] <;> rfl), by repeat (first | (with_reducible first | exact HB.out | apply below_alloc | apply pw_below_drewN | apply below_drew1 | refine below_set ?_ GE135.out) | exact HB.out)⟩
      ·rw [if_neg c17] at H
       exact absurd H (by simp)
     ·rw [if_neg c16] at H
      exact absurd H (by simp)
    ·rw [if_neg c15] at H
     have c15b0 : decide (x9_1 < (l0.length : Int)) = false := decide_eq_false c15
     clear c15
     simp only [Option.some.injEq, Prod.mk.injEq] at H
     obtain ⟨rfl, rfl⟩ := H
     try go_wp2
     have n0_ := Aside0.mk (blk_drew BK135.out)
     have n1_ := Aside0.mk (below_drew1 HB.out)
     clear BK135
     clear HB
     have BK135 := n0_
     have HB := n1_
     clear n0_ n1_
     refine start_ (n := 16) (S := fun w' => True) (ds := []) KnaaPx14_9 (by kernel_rfl) rfl rfl trivial (fun hHeld => ?_); refine with_tabW api_Key.tab8 api_Key.bits8 (fun HT_ HW_ => ?_)
     generalize wr.drew = w21 at BK135 HB hHeld ⊢
     refine pure_ (i := 0) (N := some 35) (v := ?_) (a' := ?_) KnaaPx14_10 rfl rfl (any_of HT_.out (by kernel_rfl)) (fun _ _ _ h => h) (Or.inl ⟨by rfl, ?_⟩) ?_ ?_; rotate_left; focus (intro w'; go_simp; with_reducible rfl)
     rotate_left; focus (simp only [Act.put, List.setIfInBounds_toArray, List.set_cons_zero, List.set_cons_succ, i64_w, i32_w]; rfl)
     refine pure_ (i := 1) (N := some 36) (v := ?_) (a' := ?_) KnaaPx14_11 rfl rfl (any_of HT_.out (by kernel_rfl)) (fun _ _ _ h => h) (Or.inl ⟨by rfl, ?_⟩) ?_ ?_; rotate_left; focus (intro w'; go_simp; with_reducible rfl)
     rotate_left; focus (simp only [Act.put, List.setIfInBounds_toArray, List.set_cons_zero, List.set_cons_succ, i64_w, i32_w]; rfl)
     refine pure_ (i := 2) (N := some 37) (v := ?_) (a' := ?_) KnaaPx14_12 rfl rfl (any_of HT_.out (by kernel_rfl)) (fun _ _ _ h => h) (Or.inl ⟨by rfl, ?_⟩) ?_ ?_; rotate_left; focus (intro w'; go_simp; with_reducible rfl)
     rotate_left; focus (simp only [Act.put, List.setIfInBounds_toArray, List.set_cons_zero, List.set_cons_succ, i64_w, i32_w]; rfl)
     refine pure_ (i := 3) (N := some 38) (v := ?_) (a' := ?_) KnaaPx14_13 rfl rfl (any_of HT_.out (by kernel_rfl)) (fun _ _ _ h => h) (Or.inl ⟨by rfl, ?_⟩) ?_ ?_; rotate_left; focus (intro w'; go_simp; with_reducible rfl)
     rotate_left; focus (simp only [Act.put, List.setIfInBounds_toArray, List.set_cons_zero, List.set_cons_succ, i64_w, i32_w]; rfl)
     refine pure_ (i := 4) (N := some 39) (v := ?_) (a' := ?_) KnaaPx14_14 rfl rfl (any_of HT_.out (by kernel_rfl)) (fun _ _ _ h => h) (Or.inl ⟨by rfl, ?_⟩) ?_ ?_; rotate_left; focus (intro w'; go_simp; with_reducible rfl)
     rotate_left; focus (simp only [Act.put, List.setIfInBounds_toArray, List.set_cons_zero, List.set_cons_succ, i64_w, i32_w]; rfl)
     refine pure_ (i := 5) (N := some 40) (v := undef) (a' := ?_) KnaaPx14_15 rfl rfl (any_of HT_.out (by kernel_rfl)) (fun _ _ _ h => h) (Or.inr ⟨by rfl, rfl⟩) ?_ ?_; rotate_left; focus (simp only [Act.put, List.setIfInBounds_toArray, List.set_cons_zero, List.set_cons_succ, i64_w, i32_w]; rfl)
     refine pure_ (i := 6) (N := some 41) (v := undef) (a' := ?_) KnaaPx14_16 rfl rfl (any_of HT_.out (by kernel_rfl)) (fun _ _ _ h => h) (Or.inr ⟨by rfl, rfl⟩) ?_ ?_; rotate_left; focus (simp only [Act.put, List.setIfInBounds_toArray, List.set_cons_zero, List.set_cons_succ, i64_w, i32_w]; rfl)
     refine pure_ (i := 7) (N := some 42) (v := undef) (a' := ?_) KnaaPx14_17 rfl rfl (any_of HT_.out (by kernel_rfl)) (fun _ _ _ h => h) (Or.inr ⟨by rfl, rfl⟩) ?_ ?_; rotate_left; focus (simp only [Act.put, List.setIfInBounds_toArray, List.set_cons_zero, List.set_cons_succ, i64_w, i32_w]; rfl)
     refine pure_ (i := 8) (N := some 43) (v := undef) (a' := ?_) KnaaPx14_18 rfl rfl (any_of HT_.out (by kernel_rfl)) (fun _ _ _ h => h) (Or.inr ⟨by rfl, rfl⟩) ?_ ?_; rotate_left; focus (simp only [Act.put, List.setIfInBounds_toArray, List.set_cons_zero, List.set_cons_succ, i64_w, i32_w]; rfl)
     refine pure_ (i := 9) (N := some 44) (v := undef) (a' := ?_) KnaaPx14_19 rfl rfl (any_of HT_.out (by kernel_rfl)) (fun _ _ _ h => h) (Or.inr ⟨by rfl, rfl⟩) ?_ ?_; rotate_left; focus (simp only [Act.put, List.setIfInBounds_toArray, List.set_cons_zero, List.set_cons_succ, i64_w, i32_w]; rfl)
     refine pure_ (i := 10) (N := some 45) (v := undef) (a' := ?_) KnaaPx14_20 rfl rfl (any_of HT_.out (by kernel_rfl)) (fun _ _ _ h => h) (Or.inr ⟨by rfl, rfl⟩) ?_ ?_; rotate_left; focus (simp only [Act.put, List.setIfInBounds_toArray, List.set_cons_zero, List.set_cons_succ, i64_w, i32_w]; rfl)
     refine pure_ (i := 11) (N := some 46) (v := undef) (a' := ?_) KnaaPx14_21 rfl rfl (any_of HT_.out (by kernel_rfl)) (fun _ _ _ h => h) (Or.inr ⟨by rfl, rfl⟩) ?_ ?_; rotate_left; focus (simp only [Act.put, List.setIfInBounds_toArray, List.set_cons_zero, List.set_cons_succ, i64_w, i32_w]; rfl)
     refine pure_ (i := 12) (N := some 47) (v := undef) (a' := ?_) KnaaPx14_22 rfl rfl (any_of HT_.out (by kernel_rfl)) (fun _ _ _ h => h) (Or.inr ⟨by rfl, rfl⟩) ?_ ?_; rotate_left; focus (simp only [Act.put, List.setIfInBounds_toArray, List.set_cons_zero, List.set_cons_succ, i64_w, i32_w]; rfl)
     refine pure_ (i := 13) (N := some 48) (v := ?_) (a' := ?_) KnaaPx14_23 rfl rfl (any_of HT_.out (by kernel_rfl)) (fun _ _ _ h => h) (Or.inl ⟨by rfl, ?_⟩) ?_ ?_; rotate_left; focus (intro w'; go_simp; with_reducible rfl)
     rotate_left; focus (simp only [Act.put, List.setIfInBounds_toArray, List.set_cons_zero, List.set_cons_succ, i64_w, i32_w]; rfl)
     refine pure_ (i := 14) (N := some 6) (v := ?_) (a' := ?_) KnaaPx14_24 rfl rfl (any_of HT_.out (by kernel_rfl)) (fun _ _ _ h => h) (Or.inl ⟨by rfl, ?_⟩) ?_ ?_; rotate_left; focus (intro w'; go_simp; with_reducible rfl)
     rotate_left; focus (simp only [Act.put, List.setIfInBounds_toArray, List.set_cons_zero, List.set_cons_succ, i64_w, i32_w]; rfl)
     refine pure_ (i := 15) (N := some 7) (v := ?_) (a' := ?_) KnaaPx14_25 rfl rfl (any_of HT_.out (by kernel_rfl)) (fun _ _ _ h => h) (Or.inl ⟨by rfl, ?_⟩) ?_ ?_; rotate_left; focus (intro w'; go_simp; with_reducible rfl)
     rotate_left; focus (simp only [Act.put, List.setIfInBounds_toArray, List.set_cons_zero, List.set_cons_succ, i64_w, i32_w]; rfl)
     refine done_ (done_of HT_.out (by kernel_rfl)) ?_
     try go_wp2
     go_ret2
     exact ⟨by first | rfl | (simp [errW_none, errW_some] <;> rfl) | (simp [*, errW_none, errW_some] <;> rfl), by repeat (first | (with_reducible first | exact HB.out | apply below_alloc | apply pw_below_drewN | apply below_drew1 | refine below_set ?_ GE135.out) | exact HB.out)⟩

end Go.Proofs.Ythflfekhanjlnaa.P
