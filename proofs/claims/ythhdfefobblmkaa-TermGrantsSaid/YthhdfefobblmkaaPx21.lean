/- Functions that the laws reach, told as plain functions, each with a proof that the call computes it; for every input. Written by a program of ours out of the translation. -/
import Derived.Test.YthhdfefobblmkaaPx0
namespace Go.Proofs.Ythhdfefobblmkaa.P
open Go.RowKit Go.Proofs.YthhdfefobblmkaaW.PrintWords Go.Proofs.YthhdfefobblmkaaW.PrintLast Go.Proofs.YthhdfefobblmkaaW.PrintMore
open Go.Proofs.YthhdfefobblmkaaG (bk_ bl_ rk_)
attribute [local go_sem] max2_int min2_int max_two min_two max_three min_three max_four min_four   -- for this text's walks alone
set_option linter.unusedVariables false
set_option linter.unusedSimpArgs false

/-! ### rialtolaw07_spoil: function 15 -/
def rialtolaw07_spoil.l0 : Nat → Int → Int → Int → Int → List Int → Option (List Int)
 | 0, _, _, _, _, _ => none
 | k + 1, x2, x187000, x187001, x187002, x187003 => if x2 < (x187003.length : Int) then (if 0 ≤ x2 then (rialtolaw07_spoil.l0 k (wrap64 (x2 + 1)) x187000 x187001 x187002 (x187003.set (x2 : Int).toNat (-1))) else (none)) else (some x187003)
def rialtolaw07_spoil.f (k : Nat) (a0_0 : Int) (a0_1 : Int) (a0_2 : Int) (l0_3 : List Int) : Option (List Int) := rialtolaw07_spoil.l0 k 0 a0_0 a0_1 a0_2 l0_3
theorem rialtolaw07_spoil.mono_l : ∀ k, (∀ y0 y1 y2 y3 y4, LeO (rialtolaw07_spoil.l0 k y0 y1 y2 y3 y4) (rialtolaw07_spoil.l0 (k + 1) y0 y1 y2 y3 y4))
 | 0 => fun _ _ _ _ _ r h => by simp [rialtolaw07_spoil.l0] at h
 | k + 1 => by
  have ih0 := rialtolaw07_spoil.mono_l k
  ·intro y0 y1 y2 y3 y4
   unfold rialtolaw07_spoil.l0
   repeat' first
   | (with_reducible exact ih0 _ _ _ _ _)
   | (with_reducible exact LeO.refl _)
   | (with_reducible exact LeO.none _)
   | (with_reducible refine LeO.ite ?_ ?_)
   | (with_reducible refine LeO.bind ?_ (fun _ => ?_))
   | exact ih0 _ _ _ _ _
   | exact LeO.none _
   | refine LeO.ite ?_ ?_
   | refine LeO.bind ?_ (fun _ => ?_)
theorem rialtolaw07_spoil.mono : ∀ a0 a1 a2 a3 k, LeO (rialtolaw07_spoil.f k a0 a1 a2 a3) (rialtolaw07_spoil.f (k + 1) a0 a1 a2 a3) := by
 intro a0 a1 a2 a3 k
 have ih0 := rialtolaw07_spoil.mono_l k
 unfold rialtolaw07_spoil.f
 repeat' first
   | (with_reducible exact ih0 _ _ _ _ _)
   | (with_reducible exact LeO.refl _)
   | (with_reducible exact LeO.none _)
   | (with_reducible refine LeO.ite ?_ ?_)
   | (with_reducible refine LeO.bind ?_ (fun _ => ?_))
   | exact ih0 _ _ _ _ _
   | exact LeO.none _
   | refine LeO.ite ?_ ?_
   | refine LeO.bind ?_ (fun _ => ?_)
set_option maxHeartbeats 8000000 in
set_option maxRecDepth 100000 in
theorem rialtolaw07_spoil.calls (k : Nat) (a0_0 : Int) (a0_1 : Int) (a0_2 : Int) (P0_3_ : Nat → Prop) (u9000_ : Value) (l0_3 : List Int) (r : List Int) (w0 w : World) (hB : Below w0.heap.size w0 w) (ho0_3 : Kd.R (Kd.int .i64) 3 w w0.heap.size P0_3_ u9000_ l0_3) (h : rialtolaw07_spoil.f k a0_0 a0_1 a0_2 l0_3 = some r) :
  Calls Try.prog 15 #[.agg #[.int .i64 a0_0, .int .i64 a0_1, .int .i64 a0_2, u9000_]] w fun e w' => e = .returned (.tuple #[]) ∧ Kd.R (Kd.int .i64) 3 w' w0.heap.size (fun k_ => (P0_3_ k_ ∨ w.heap.size ≤ k_)) u9000_ r ∧ Below w0.heap.size w0 w' ∧ Kept w w' (fun k_ => P0_3_ k_) := by
 have hu26 := Try.underlying26
 have HO0_3 := Aside0.mk (show Kd.R (Kd.int .i64) 3 w w0.heap.size (fun k_ => (P0_3_ k_ ∨ w.heap.size ≤ k_)) u9000_ l0_3 from Kd.R_mono ho0_3 (fun k_ hk => (.inl hk)))
 have HK := Aside0.mk (Kept.refl w (fun k_ => P0_3_ k_))
 have HW0 := Aside0.mk hB.size
 have HB := Aside0.mk hB
 clear hB
 have H : (rialtolaw07_spoil.l0 k 0 a0_0 a0_1 a0_2 l0_3) = some r := h
 clear h
 have H' := Aside0.mk H
 clear H
 obtain ⟨Ao2, co2, eo2⟩ := Kd.R_slice HO0_3.out
 subst eo2
 go_enter Try.func15, Try.ntmps15
 go_wp2_with (first | ((with_reducible refine gate_dst (N := 1) rfl ?_); refine box_event ?hg (N := 1) ?hd (cs := #[.int .i64 a0_0, .int .i64 a0_1, .int .i64 a0_2, .slice Ao2 l0_3.length co2]) (t := 26) ?hr ?_; (case hd => rfl); (case hg => rfl); (case hr => first | (go_simp; done) | (go_simp; rfl)); intro gb186 hg w3 hbox hb; have n0_ := Aside0.mk (Kd.R_below (by exact rk_ HO0_3.out) hb); have n1_ := Aside0.mk (Kept.below (S := (fun k_ => P0_3_ k_)) (by repeat (first | (with_reducible first | exact HK.out | apply Kept.alloc | apply Kept.drewN | apply Kept.drew) | exact HK.out)) hb); have n2_ := Aside0.mk (below_step (by exact bl_ HB.out) hb); have n3_ := Aside0.mk (hbox); have n4_ := Aside0.mk ((by rw [hg]; exact (by first | exact HK.out.1 | exact (show Kept w _ (fun k_ => P0_3_ k_) from by repeat (first | (with_reducible first | exact HK.out | apply Kept.alloc | apply Kept.drewN | apply Kept.drew) | exact HK.out)).1) : w.heap.size ≤ gb186)); have n5_ := Aside0.mk ((by rw [hg]; exact (below_size (by exact bl_ HB.out)) : w0.heap.size ≤ gb186)); clear HO0_3; clear HK; clear HB; have HO0_3 := n0_; have HK := n1_; have HB := n2_; have BK186 := n3_; have GW186 := n4_; have GE186 := n5_; clear n0_ n1_ n2_ n3_ n4_ n5_; clear hb hbox hg))
 go_loopg [2] k (fun kq v2 w' => ∃ (x2_1 : Int) (x187003_1 : List Int), v2 = .int .i64 x2_1 ∧ Aside0 (rialtolaw07_spoil.l0 kq x2_1 a0_0 a0_1 a0_2 x187003_1 = some r) ∧ Aside0 (kq ≤ k) ∧ Aside0 (Kd.R (Kd.int .i64) 3 w' w0.heap.size (fun k_ => (P0_3_ k_ ∨ w.heap.size ≤ k_)) (.slice Ao2 l0_3.length co2) x187003_1) ∧ Aside0 (w'.heap[gb186]? = some (.cells #[.int .i64 a0_0, .int .i64 a0_1, .int .i64 a0_2, (.slice Ao2 l0_3.length co2)] 26 (0, 0))) ∧ Aside0 (Kept w w' (fun k_ => P0_3_ k_)) ∧ Aside0 (Below w0.heap.size w0 w'))
 case atStart => exact ⟨(0), (l0_3), (by first | rfl | (simp; done) | (simp [*]; done)), H', ⟨Nat.le_refl _⟩, ⟨by exact rk_ HO0_3.out⟩, ⟨by exact bk_ BK186.out⟩, ⟨by repeat (first | (with_reducible first | exact HK.out | apply Kept.alloc | apply Kept.drewN | apply Kept.drew | refine Kept.setCell ?_ (.inr GW186.out) _) | exact HK.out)⟩, ⟨by repeat (first | (with_reducible first | exact HB.out | apply below_alloc | apply pw_below_drewN | apply below_drew1 | refine below_set ?_ GE186.out) | exact HB.out)⟩⟩
 case round =>
  clear H'
  try clear c1
  try clear p2
  obtain ⟨x2_1, x187003_1, rfl, HA, HK1, HO_187003, BK186, HK, HB⟩ := hrel
  have hl187003_1 := (Kd.R_reads' HO_187003.out).1
  rw [hl187003_1] at HO_187003
  (try simp only [hl187003_1])
  (try simp only [hl187003_1] at BK186)
  cases gk with
  | zero => exact absurd HA.out (by simp [rialtolaw07_spoil.l0])
  | succ k1 =>
   have H := HA.out
   clear HA
   simp only [rialtolaw07_spoil.l0] at H
   by_cases c4 : x2_1 < (x187003_1.length : Int)
   ·rw [if_pos c4] at H
    have c4b0 : decide (x2_1 < (x187003_1.length : Int)) = true := decide_eq_true c4
    clear c4
    by_cases c5 : 0 ≤ x2_1
    ·rw [if_pos c5] at H
     have c5b0 : decide (0 ≤ x2_1) = true := decide_eq_true c5
     clear c5
     obtain ⟨y187, hy187⟩ : ∃ y_ : List Int, y_ = (x187003_1.set (x2_1 : Int).toNat (-1)) := ⟨_, rfl⟩
     replace H : (rialtolaw07_spoil.l0 k1 (wrap64 (x2_1 + 1)) a0_0 a0_1 a0_2 y187) = some r := by first | (rw [hy187]; with_reducible exact H) | (have H2_ := (Option.bind_some _ _).symm.trans H; rw [hy187]; with_reducible exact H2_) | (have H2_ := (Option.bind_some _ _).symm.trans H; with_reducible exact H2_) | with_reducible exact H | (rw [hy187]; exact H) | exact H
     have Ny187 := Aside0.mk hy187
     clear hy187
     have H' := Aside0.mk H
     clear H
     have hcz7_0 : wr.cell? ⟨gb186, 0, none⟩ = some (.int .i64 a0_0) := (blk_cell BK186.out 0).trans rfl
     have hcz7_1 : wr.cell? ⟨gb186, 1, none⟩ = some (.int .i64 a0_1) := (blk_cell BK186.out 1).trans rfl
     have hcz7_2 : wr.cell? ⟨gb186, 2, none⟩ = some (.int .i64 a0_2) := (blk_cell BK186.out 2).trans rfl
     have hcz7_3 : wr.cell? ⟨gb186, 3, none⟩ = some (.slice Ao2 x187003_1.length co2) := (blk_cell BK186.out 3).trans rfl
     have hfz7_0 := blk_frozen BK186.out 0
     have hfz7_1 := blk_frozen BK186.out 1
     have hfz7_2 := blk_frozen BK186.out 2
     have hfz7_3 := blk_frozen BK186.out 3
     have p6 : 0 ≤ (x2_1 : Int) := of_decide_eq_true (by first | (with_reducible assumption) | assumption)
     have q6 : (x2_1 : Int) < ((x187003_1.length : Int) : Int) := of_decide_eq_true (by first | (with_reducible assumption) | assumption)
     obtain ⟨go6, co6, eo6, gb6, gl6, cl6, HG6⟩ := Kd.R_form HO_187003.out (by omega)
     (first | cases eo6 | (injection eo6 with ea_ en_ ec_; (first | subst ea_ | (injection ea_ with ea_; subst ea_)); subst ec_; clear en_))
     have GB6 := Aside0.mk gb6
     have GG6 := Aside0.mk HG6
     clear gb6 gl6 HG6
     have HMgo6 := Aside0.mk (show (P0_3_ go6 ∨ w.heap.size ≤ go6) from (HO_187003.out.1 _ rfl))
     obtain ⟨hx6_0, hf6_0⟩ := Kd.R_celln 0 HO_187003.out (x2_1 : Int) p6 q6
     replace p6 := eq_true p6
     replace q6 := eq_true q6
     have HP8 := Kd.R_putg HO_187003.out (x2_1 : Int) (-1)
     go_wp2_with (first | ((with_reducible refine gate_store (t := 3) (p := 13) rfl ?_); refine store_event (t := 3) (p := 13) (v := ?vo_w9) (w1 := (wr.setCell ⟨go6, (x2_1 : Int).toNat, none⟩ (.int .i64 (-1)))) ?hg ?ho ?hn ?hr ?_; (case ho => rfl); (case hg => rfl); (case hn => rfl); (case hr => first | (go_simp; done) | (go_simp; rfl)); intro w9 hw; have hg : wr.grownBy w9 (some go6) := (by rw [hw]; exact HP8.2); have hp_ : Kd.R (Kd.int .i64) 3 w9 w0.heap.size (fun k_ => (P0_3_ k_ ∨ w.heap.size ≤ k_)) (.slice (some ⟨go6, 0, none⟩) x187003_1.length co2) y187 := (by rw [hw, Ny187.out]; exact HP8.1); clear HP8; have n0_ := Aside0.mk (hp_); have n1_ := Aside0.mk (blk_grown (g := gb186) (o := .cells #[.int .i64 a0_0, .int .i64 a0_1, .int .i64 a0_2, .slice (some ⟨go6, 0, none⟩) x187003_1.length co2] 26 (0, 0)) (by exact bk_ BK186.out) hg (Kd.R_ne HO_187003.out BK186.out (by decide))); have n2_ := Aside0.mk ((by rw [hw]; exact below_set (HB.out) GB6.out : Below w0.heap.size w0 w9)); have n3_ := Aside0.mk (Kept.of_grown (S := (fun k_ => P0_3_ k_)) hg (by repeat (first | (with_reducible first | exact HK.out | apply Kept.alloc | apply Kept.drewN | apply Kept.drew | refine Kept.setCell ?_ (.inr GW186.out) _) | exact HK.out)) (fun k_ e_ => (HO_187003.out.1 k_ e_))); clear HO_187003; clear BK186; clear HB; clear HK; have HO_187003 := n0_; have BK186 := n1_; have HB := n2_; have HK := n3_; clear n0_ n1_ n2_ n3_; clear hg hw hp_))
     (try simp only [← hl187003_1])
     go_roundg k1
     case measure => have := HK1.out; omega
     case rel => exact ⟨(wrap64 (x2_1 + 1)), (y187), (by first | rfl | (simp; done) | (simp [*]; done)), H', ⟨by have := HK1.out; omega⟩, ⟨by (try simp only [hl187003_1]); exact rk_ HO_187003.out⟩, ⟨by (try simp only [hl187003_1]); exact bk_ BK186.out⟩, ⟨by repeat (first | (with_reducible first | exact HK.out | apply Kept.alloc | apply Kept.drewN | apply Kept.drew | refine Kept.setCell ?_ (.inr GW186.out) _) | exact HK.out)⟩, ⟨by repeat (first | (with_reducible first | exact HB.out | apply below_alloc | apply pw_below_drewN | apply below_drew1 | refine below_set ?_ GE186.out) | exact HB.out)⟩⟩
    ·rw [if_neg c5] at H
     exact absurd H (by simp)
   ·rw [if_neg c4] at H
    have c4b0 : decide (x2_1 < (x187003_1.length : Int)) = false := decide_eq_false c4
    clear c4
    obtain rfl := Option.some.inj H
    have hcz10_0 : wr.cell? ⟨gb186, 0, none⟩ = some (.int .i64 a0_0) := (blk_cell BK186.out 0).trans rfl
    have hcz10_1 : wr.cell? ⟨gb186, 1, none⟩ = some (.int .i64 a0_1) := (blk_cell BK186.out 1).trans rfl
    have hcz10_2 : wr.cell? ⟨gb186, 2, none⟩ = some (.int .i64 a0_2) := (blk_cell BK186.out 2).trans rfl
    have hcz10_3 : wr.cell? ⟨gb186, 3, none⟩ = some (.slice Ao2 x187003_1.length co2) := (blk_cell BK186.out 3).trans rfl
    have hfz10_0 := blk_frozen BK186.out 0
    have hfz10_1 := blk_frozen BK186.out 1
    have hfz10_2 := blk_frozen BK186.out 2
    have hfz10_3 := blk_frozen BK186.out 3
    go_wp2
    first | go_end0 | ((try simp only [Exit.inBlock, Exit.then]); refine bodyPost_ret (results_none rfl _ _ _) rfl ?_)
    exact ⟨by first | rfl | (simp [errW_none, errW_some] <;> rfl) | (simp [*, errW_none, errW_some] <;> rfl), (by first | exact (by exact rk_ HO_187003.out) | (simp only [hl187003_1]; exact (by exact rk_ HO_187003.out))), by repeat (first | (with_reducible first | exact HB.out | apply below_alloc | apply pw_below_drewN | apply below_drew1 | refine below_set ?_ GE186.out) | exact HB.out), by repeat (first | (with_reducible first | exact HK.out | apply Kept.alloc | apply Kept.drewN | apply Kept.drew | refine Kept.setCell ?_ (.inr GW186.out) _) | exact HK.out)⟩

end Go.Proofs.Ythhdfefobblmkaa.P
