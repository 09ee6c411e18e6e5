/- Functions that the laws reach, told as plain functions, each with a proof that the call computes it; for every input. Written by a program of ours out of the translation. -/
import Derived.Test.YthhdfefobblmkaaPx0
import Derived.Test.YthhdfefobblmkaaPx12
import Derived.Test.YthhdfefobblmkaaPx28
import Derived.Test.YthhdfefobblmkaaPx29
import Derived.Test.YthhdfefobblmkaaPx30
import Derived.Test.YthhdfefobblmkaaPx39
namespace Go.Proofs.Ythhdfefobblmkaa.P
open Go.RowKit Go.Proofs.YthhdfefobblmkaaW.PrintWords Go.Proofs.YthhdfefobblmkaaW.PrintLast Go.Proofs.YthhdfefobblmkaaW.PrintMore
open Go.Proofs.YthhdfefobblmkaaG (bk_ bl_ rk_)
attribute [local go_sem] max2_int min2_int max_two min_two max_three min_three max_four min_four   -- for this text's walks alone
set_option linter.unusedVariables false
set_option linter.unusedSimpArgs false

/-! ### rialtolaw07_TermFirm: function 8 -/
/-! by hand -/
open Go.Proofs.YthhdfefobblmkaaG
def tf_step (k : Nat) (me t v r : Int) (l : List Int) (s : S58) : Option (Int × Int × Int × List Int × Int) :=
  if s.f0 = 0 then term_Begin.f k t v r l me 7 else if s.f0 = 1 then term_Hear.f k t v r l s.f1.f1 else if s.f0 = 2 then (term_Grant.f k t v r l s.f2.f0 s.f2.f1 s.f2.f2.f0 s.f2.f2.f1 s.f3.f0 s.f3.f1).bind fun y => some (y.1, y.2.1, y.2.2.1, y.2.2.2.1, y.2.2.2.2.2) else term_Count.f k t v r l s.f1.f0 s.f1.f1 s.f1.f3 7
def tf_l (k : Nat) (me : Int) : Nat → List S58 → Int → Int → Int → List Int → Option Bool
  | 0, _, _, _, _, _ => rialtolaw07_live.f k
  | _ + 1, [], _, _, _, _ => rialtolaw07_live.f k
  | n + 1, s :: q, t, v, r, l => (tf_step k me t v r l s).bind fun y => if y.2.2.2.2 = 0 then if t < y.1 ∨ (y.1 = t ∧ v = 0) ∨ (y.1 = t ∧ v ≠ 0 ∧ y.2.1 = v) then tf_l k me n q y.1 y.2.1 y.2.2.1 y.2.2.2.1 else none else tf_l k me n q t v r l
def rialtolaw07_TermFirm.f (k : Nat) (me : Int) (l0 : List S58) : Option Bool := tf_l k me 60 l0 0 0 1 []
theorem tf_step_mono (k : Nat) (me t v r : Int) (l : List Int) (s : S58) : LeO (tf_step k me t v r l s) (tf_step (k + 1) me t v r l s) := by
  unfold tf_step
  exact LeO.ite (term_Begin.mono _ _ _ _ _ _ _) (LeO.ite (term_Hear.mono _ _ _ _ _ _) (LeO.ite (LeO.bind (term_Grant.mono _ _ _ _ _ _ _ _ _ _ _) (fun _ => LeO.refl _)) (term_Count.mono _ _ _ _ _ _ _ _ _)))
theorem tf_l_mono (k : Nat) (me : Int) : ∀ (n : Nat) (q : List S58) (t v r : Int) (l : List Int), LeO (tf_l k me n q t v r l) (tf_l (k + 1) me n q t v r l)
  | 0, _, _, _, _, _ => by simp only [tf_l]; exact rialtolaw07_live.mono _
  | _ + 1, [], _, _, _, _ => by simp only [tf_l]; exact rialtolaw07_live.mono _
  | n + 1, s :: q, t, v, r, l => by
    simp only [tf_l]
    exact LeO.bind (tf_step_mono _ _ _ _ _ _ _) (fun y => LeO.ite (LeO.ite (tf_l_mono k me n q _ _ _ _) (LeO.refl _)) (tf_l_mono k me n q _ _ _ _))
theorem tf_l_nil (k : Nat) (me : Int) (n : Nat) (t v r : Int) (l : List Int) : tf_l k me n [] t v r l = rialtolaw07_live.f k := by cases n <;> rfl
theorem rialtolaw07_TermFirm.mono : ∀ a0 a1 k, LeO (rialtolaw07_TermFirm.f k a0 a1) (rialtolaw07_TermFirm.f (k + 1) a0 a1) := fun me l k => tf_l_mono k me 60 l _ _ _ _
theorem tf_drop {l : List S58} {i : Int} (h0 : 0 ≤ i) (h1 : i < l.length) : l.drop i.toNat = rd_T58 l i :: l.drop (i + 1).toNat := by
  have hi : i.toNat < l.length := by omega
  rw [List.drop_eq_getElem_cons hi]
  congr 1
  · unfold rd_T58; rw [List.getD_eq_getElem?_getD, List.getElem?_eq_getElem hi]; rfl
  · congr 1; omega
theorem cellsF4 {w : World} {g : Nat} {t : TypeId} {a b c d : Value} (h : w.heap[g]? = some (.cells #[a, b, c, d] t (0, 0))) : w.cell? ⟨g, 0, none⟩ = some a ∧ w.cell? ⟨g, 1, none⟩ = some b ∧ w.cell? ⟨g, 2, none⟩ = some c ∧ w.cell? ⟨g, 3, none⟩ = some d := ⟨(blk_cell h 0).trans rfl, (blk_cell h 1).trans rfl, (blk_cell h 2).trans rfl, (blk_cell h 3).trans rfl⟩
theorem cellsF11 {w : World} {g : Nat} {t : TypeId} {a b c d e f i j k m n : Value} (h : w.heap[g]? = some (.cells #[a, b, c, d, e, f, i, j, k, m, n] t (0, 0))) : w.cell? ⟨g, 0, none⟩ = some a ∧ w.cell? ⟨g, 1, none⟩ = some b ∧ w.cell? ⟨g, 2, none⟩ = some c ∧ w.cell? ⟨g, 3, none⟩ = some d ∧ w.cell? ⟨g, 4, none⟩ = some e ∧ w.cell? ⟨g, 5, none⟩ = some f ∧ w.cell? ⟨g, 6, none⟩ = some i ∧ w.cell? ⟨g, 7, none⟩ = some j ∧ w.cell? ⟨g, 8, none⟩ = some k ∧ w.cell? ⟨g, 9, none⟩ = some m ∧ w.cell? ⟨g, 10, none⟩ = some n := ⟨(blk_cell h 0).trans rfl, (blk_cell h 1).trans rfl, (blk_cell h 2).trans rfl, (blk_cell h 3).trans rfl, (blk_cell h 4).trans rfl, (blk_cell h 5).trans rfl, (blk_cell h 6).trans rfl, (blk_cell h 7).trans rfl, (blk_cell h 8).trans rfl, (blk_cell h 9).trans rfl, (blk_cell h 10).trans rfl⟩
theorem putF {W w : World} {g h : Nat} {x0 x1 x2 x3 a b c v u : Value} {z : Array Value} {l m : List Int} (hb : W.heap[g]? = some (.cells #[x0, x1, x2, x3] 26 (0, 0))) (hh : W.heap[h]? = some (.cells z 26 (0, 0))) (hne : h ≠ g) (hg : w.heap.size ≤ g) (hB : Below w.heap.size w W) (ho : Kd.R (Kd.int .i64) 3 W w.heap.size (fun _ => True) v l) (hu : Kd.R (Kd.int .i64) 3 W w.heap.size (fun _ => True) u m) :
    ((((W.setCell ⟨g, 0, none⟩ a).setCell ⟨g, 1, none⟩ b).setCell ⟨g, 2, none⟩ c).setCell ⟨g, 3, none⟩ v).heap[g]? = some (.cells #[a, b, c, v] 26 (0, 0)) ∧ ((((W.setCell ⟨g, 0, none⟩ a).setCell ⟨g, 1, none⟩ b).setCell ⟨g, 2, none⟩ c).setCell ⟨g, 3, none⟩ v).heap[h]? = some (.cells z 26 (0, 0)) ∧ Kd.R (Kd.int .i64) 3 ((((W.setCell ⟨g, 0, none⟩ a).setCell ⟨g, 1, none⟩ b).setCell ⟨g, 2, none⟩ c).setCell ⟨g, 3, none⟩ v) w.heap.size (fun _ => True) v l ∧ Kd.R (Kd.int .i64) 3 ((((W.setCell ⟨g, 0, none⟩ a).setCell ⟨g, 1, none⟩ b).setCell ⟨g, 2, none⟩ c).setCell ⟨g, 3, none⟩ v) w.heap.size (fun _ => True) u m ∧ Below w.heap.size w ((((W.setCell ⟨g, 0, none⟩ a).setCell ⟨g, 1, none⟩ b).setCell ⟨g, 2, none⟩ c).setCell ⟨g, 3, none⟩ v) := by
  have h0 := blk_put hb 0 a rfl
  have h1 := blk_put h0 1 b rfl
  have h2 := blk_put h1 2 c rfl
  have h3 := blk_put h2 3 v rfl
  refine ⟨h3, blk_far (blk_far (blk_far (blk_far hh hne _) hne _) hne _) hne _, ?_, ?_, below_set (below_set (below_set (below_set hB hg) hg) hg) hg⟩
  · exact Kd.R_set (Kd.R_set (Kd.R_set (Kd.R_set ho hb (by decide) 0 a) h0 (by decide) 1 b) h1 (by decide) 2 c) h2 (by decide) 3 v
  · exact Kd.R_set (Kd.R_set (Kd.R_set (Kd.R_set hu hb (by decide) 0 a) h0 (by decide) 1 b) h1 (by decide) 2 c) h2 (by decide) 3 v
set_option maxHeartbeats 8000000 in
set_option maxRecDepth 100000 in
theorem rialtolaw07_TermFirm.calls (k : Nat) (me : Int) (A0 : Option Addr) (c0 : Nat) (l0 : List (S58)) (res : Bool) (w : World) (hr0 : Kd.C k58 w A0 l0.length l0) (hc0 : l0.length ≤ c0) (h : rialtolaw07_TermFirm.f k me l0 = some res) :
    Calls Try.prog 8 #[.int .i64 me, .slice A0 l0.length c0] w fun e w' => e = .returned (.bool res) ∧ Below w.heap.size w w' := by
  have hu26 := Try.underlying26
  have hu58 := Try.underlying58
  have HR0 := Aside0.mk hr0
  have HC0 := Aside0.mk hc0
  unfold rialtolaw07_TermFirm.f at h
  have H' := Aside0.mk h
  clear hr0 hc0 h
  go_enter Try.func8, Try.ntmps8
  go_wp2
  generalize hg5 : w.heap.size = g5
  have G5 := Aside0.mk (show w.heap.size ≤ g5 from Nat.le_of_eq hg5)
  have HBK := Aside0.mk (show (w.alloc (.cells #[.int .i64 0, .int .i64 0, .int .i64 1, .slice none 0 0] 26)).heap[g5]? = some (.cells #[.int .i64 0, .int .i64 0, .int .i64 1, .slice none 0 0] 26 (0, 0)) from hg5 ▸ blk_new w _)
  have HBA := Aside0.mk (show Below w.heap.size w (w.alloc (.cells #[.int .i64 0, .int .i64 0, .int .i64 1, .slice none 0 0] 26)) from below_alloc (Below.refl _ _) _)
  have HRN := Aside0.mk (Kd.R_nil (Kd.int .i64) 3 (w.alloc (.cells #[.int .i64 0, .int .i64 0, .int .i64 1, .slice none 0 0] 26)) w.heap.size (fun _ => True))
  clear hg5
  go_loopg [6] l0.length (fun kq v6 w' => ∃ (x t v r : Int) (l : List Int) (vb : Value), v6 = .int .i64 x ∧ Aside0 (0 ≤ x ∧ x ≤ 60 ∧ x + kq = l0.length) ∧ Aside0 (tf_l k me (60 - x.toNat) (l0.drop x.toNat) t v r l = some res) ∧ Aside0 (w'.heap[g5]? = some (.cells #[.int .i64 t, .int .i64 v, .int .i64 r, vb] 26 (0, 0))) ∧ Aside0 (Kd.R (Kd.int .i64) 3 w' w.heap.size (fun _ => True) vb l) ∧ Aside0 (Below w.heap.size w w'))
  case atStart => exact ⟨0, 0, 0, 1, [], _, rfl, ⟨by omega⟩, H', HBK, HRN, HBA⟩
  case round =>
    clear H' HBK HBA HRN
    obtain ⟨x, t, v, r, l, vb, rfl, HX, H', HBK, HRB, HB⟩ := hrel
    obtain ⟨hx0, hx60, hx1⟩ := HX.out
    by_cases c3 : x < (l0.length : Int)
    · by_cases c4 : x < 60
      · have c3b0 : decide (x < (l0.length : Int)) = true := decide_eq_true c3
        have c4b0 : decide (x < 60) = true := decide_eq_true c4
        obtain ⟨ad, e1, hx_0, hx_1, hx_2, hx_3, hx_4, hx_5, hx_6, hx_7, hx_8, hx_9, hx_10⟩ := at_T58 HR0.out x hx0 c3
        have H := H'.out
        obtain ⟨m, hm⟩ : ∃ m, 60 - x.toNat = m + 1 := ⟨60 - x.toNat - 1, by omega⟩
        rw [tf_drop hx0 c3, hm] at H
        simp only [tf_l] at H
        obtain rfl : m = 60 - (x + 1).toNat := by omega
        obtain ⟨⟨y0, y1, y2, yl, ye⟩, hy, H⟩ := Option.bind_eq_some_iff.1 H
        simp only at H
        clear H' hm
        have HY := Aside0.mk hy
        have HT := Aside0.mk H
        clear hy H
        cases e1
        replace hx_0 := (HB.out.cell (World.block_lt_of_cell? w _ hx_0)).trans hx_0
        replace hx_1 := (HB.out.cell (World.block_lt_of_cell? w _ hx_1)).trans hx_1
        replace hx_2 := (HB.out.cell (World.block_lt_of_cell? w _ hx_2)).trans hx_2
        replace hx_3 := (HB.out.cell (World.block_lt_of_cell? w _ hx_3)).trans hx_3
        replace hx_4 := (HB.out.cell (World.block_lt_of_cell? w _ hx_4)).trans hx_4
        replace hx_5 := (HB.out.cell (World.block_lt_of_cell? w _ hx_5)).trans hx_5
        replace hx_6 := (HB.out.cell (World.block_lt_of_cell? w _ hx_6)).trans hx_6
        replace hx_7 := (HB.out.cell (World.block_lt_of_cell? w _ hx_7)).trans hx_7
        replace hx_8 := (HB.out.cell (World.block_lt_of_cell? w _ hx_8)).trans hx_8
        replace hx_9 := (HB.out.cell (World.block_lt_of_cell? w _ hx_9)).trans hx_9
        replace hx_10 := (HB.out.cell (World.block_lt_of_cell? w _ hx_10)).trans hx_10
        generalize hs : rd_T58 l0 x = s at HY hx_0 hx_1 hx_2 hx_3 hx_4 hx_5 hx_6 hx_7 hx_8 hx_9 hx_10
        clear hs
        obtain ⟨Ab, cb, rfl, LB_, _⟩ := Kd.R_reads HRB.out
        have LB := Aside0.mk LB_
        clear LB_
        replace hx_0 := ((below_alloc (Below.refl wr.heap.size wr) (.cells #[.int .i64 t, .int .i64 v, .int .i64 r, .slice Ab l.length cb] 26)).cell (World.block_lt_of_cell? wr _ hx_0)).trans hx_0
        replace hx_1 := ((below_alloc (Below.refl wr.heap.size wr) (.cells #[.int .i64 t, .int .i64 v, .int .i64 r, .slice Ab l.length cb] 26)).cell (World.block_lt_of_cell? wr _ hx_1)).trans hx_1
        replace hx_2 := ((below_alloc (Below.refl wr.heap.size wr) (.cells #[.int .i64 t, .int .i64 v, .int .i64 r, .slice Ab l.length cb] 26)).cell (World.block_lt_of_cell? wr _ hx_2)).trans hx_2
        replace hx_3 := ((below_alloc (Below.refl wr.heap.size wr) (.cells #[.int .i64 t, .int .i64 v, .int .i64 r, .slice Ab l.length cb] 26)).cell (World.block_lt_of_cell? wr _ hx_3)).trans hx_3
        replace hx_4 := ((below_alloc (Below.refl wr.heap.size wr) (.cells #[.int .i64 t, .int .i64 v, .int .i64 r, .slice Ab l.length cb] 26)).cell (World.block_lt_of_cell? wr _ hx_4)).trans hx_4
        replace hx_5 := ((below_alloc (Below.refl wr.heap.size wr) (.cells #[.int .i64 t, .int .i64 v, .int .i64 r, .slice Ab l.length cb] 26)).cell (World.block_lt_of_cell? wr _ hx_5)).trans hx_5
        replace hx_6 := ((below_alloc (Below.refl wr.heap.size wr) (.cells #[.int .i64 t, .int .i64 v, .int .i64 r, .slice Ab l.length cb] 26)).cell (World.block_lt_of_cell? wr _ hx_6)).trans hx_6
        replace hx_7 := ((below_alloc (Below.refl wr.heap.size wr) (.cells #[.int .i64 t, .int .i64 v, .int .i64 r, .slice Ab l.length cb] 26)).cell (World.block_lt_of_cell? wr _ hx_7)).trans hx_7
        replace hx_8 := ((below_alloc (Below.refl wr.heap.size wr) (.cells #[.int .i64 t, .int .i64 v, .int .i64 r, .slice Ab l.length cb] 26)).cell (World.block_lt_of_cell? wr _ hx_8)).trans hx_8
        replace hx_9 := ((below_alloc (Below.refl wr.heap.size wr) (.cells #[.int .i64 t, .int .i64 v, .int .i64 r, .slice Ab l.length cb] 26)).cell (World.block_lt_of_cell? wr _ hx_9)).trans hx_9
        replace hx_10 := ((below_alloc (Below.refl wr.heap.size wr) (.cells #[.int .i64 t, .int .i64 v, .int .i64 r, .slice Ab l.length cb] 26)).cell (World.block_lt_of_cell? wr _ hx_10)).trans hx_10
        obtain ⟨b0, b1, b2, b3⟩ := cellsF4 HBK.out
        clear hx1
        have hL := HC0.out
        have hm := HR0.out.2.1
        go_upto_block 2 with fail
        obtain ⟨g7, hg7⟩ : ∃ g, g = wr.heap.size := ⟨_, rfl⟩
        obtain ⟨g9, hg9⟩ : ∃ g, g = wr.heap.size + 1 := ⟨_, rfl⟩
        have n7 : ((wr.alloc (.cells #[.int .i64 t, .int .i64 v, .int .i64 r, .slice Ab l.length cb] 26)).alloc (.cells #[.int .i64 s.f0, .int .i64 s.f1.f0, .int .i64 s.f1.f1, .int .i64 s.f1.f2, .bool s.f1.f3, .int .i64 s.f2.f0, .int .i64 s.f2.f1, .int .i64 s.f2.f2.f0, .int .i64 s.f2.f2.f1, .int .i64 s.f3.f0, .int .i64 s.f3.f1] 58)).heap[g7]? = some (.cells #[.int .i64 t, .int .i64 v, .int .i64 r, .slice Ab l.length cb] 26 (0, 0)) := blk_alloc (hg7 ▸ blk_new wr _) _
        have n9 : ((wr.alloc (.cells #[.int .i64 t, .int .i64 v, .int .i64 r, .slice Ab l.length cb] 26)).alloc (.cells #[.int .i64 s.f0, .int .i64 s.f1.f0, .int .i64 s.f1.f1, .int .i64 s.f1.f2, .bool s.f1.f3, .int .i64 s.f2.f0, .int .i64 s.f2.f1, .int .i64 s.f2.f2.f0, .int .i64 s.f2.f2.f1, .int .i64 s.f3.f0, .int .i64 s.f3.f1] 58)).heap[g9]? = some (.cells #[.int .i64 s.f0, .int .i64 s.f1.f0, .int .i64 s.f1.f1, .int .i64 s.f1.f2, .bool s.f1.f3, .int .i64 s.f2.f0, .int .i64 s.f2.f1, .int .i64 s.f2.f2.f0, .int .i64 s.f2.f2.f1, .int .i64 s.f3.f0, .int .i64 s.f3.f1] 58 (0, 0)) := by have := blk_new (wr.alloc (.cells #[.int .i64 t, .int .i64 v, .int .i64 r, .slice Ab l.length cb] 26)) (.cells #[.int .i64 s.f0, .int .i64 s.f1.f0, .int .i64 s.f1.f1, .int .i64 s.f1.f2, .bool s.f1.f3, .int .i64 s.f2.f0, .int .i64 s.f2.f1, .int .i64 s.f2.f2.f0, .int .i64 s.f2.f2.f1, .int .i64 s.f3.f0, .int .i64 s.f3.f1] 58); rw [hg9]; simpa using this
        have n5 := blk_alloc (blk_alloc HBK.out (.cells #[.int .i64 t, .int .i64 v, .int .i64 r, .slice Ab l.length cb] 26)) (.cells #[.int .i64 s.f0, .int .i64 s.f1.f0, .int .i64 s.f1.f1, .int .i64 s.f1.f2, .bool s.f1.f3, .int .i64 s.f2.f0, .int .i64 s.f2.f1, .int .i64 s.f2.f2.f0, .int .i64 s.f2.f2.f1, .int .i64 s.f3.f0, .int .i64 s.f3.f1] 58)
        have nR := Kd.R_alloc (Kd.R_alloc HRB.out (.cells #[.int .i64 t, .int .i64 v, .int .i64 r, .slice Ab l.length cb] 26)) (.cells #[.int .i64 s.f0, .int .i64 s.f1.f0, .int .i64 s.f1.f1, .int .i64 s.f1.f2, .bool s.f1.f3, .int .i64 s.f2.f0, .int .i64 s.f2.f1, .int .i64 s.f2.f2.f0, .int .i64 s.f2.f2.f1, .int .i64 s.f3.f0, .int .i64 s.f3.f1] 58)
        have nB := below_alloc (below_alloc HB.out (.cells #[.int .i64 t, .int .i64 v, .int .i64 r, .slice Ab l.length cb] 26)) (.cells #[.int .i64 s.f0, .int .i64 s.f1.f0, .int .i64 s.f1.f1, .int .i64 s.f1.f2, .bool s.f1.f3, .int .i64 s.f2.f0, .int .i64 s.f2.f1, .int .i64 s.f2.f2.f0, .int .i64 s.f2.f2.f1, .int .i64 s.f3.f0, .int .i64 s.f3.f1] 58)
        have l5 := blk_lt HBK.out
        have lB := HB.out.size
        have G7 := Aside0.mk (show w.heap.size ≤ g7 by omega)
        have N57 := Aside0.mk (show g5 ≠ g7 by omega)
        rw [← hg9, ← hg7]
        clear hg7 hg9 l5 lB b0 b1 b2 b3 hx_0 hx_1 hx_2 hx_3 hx_4 hx_5 hx_6 hx_7 hx_8 hx_9 hx_10 HBK HRB HB
        generalize (wr.alloc (.cells #[.int .i64 t, .int .i64 v, .int .i64 r, .slice Ab l.length cb] 26)).alloc (.cells #[.int .i64 s.f0, .int .i64 s.f1.f0, .int .i64 s.f1.f1, .int .i64 s.f1.f2, .bool s.f1.f3, .int .i64 s.f2.f0, .int .i64 s.f2.f1, .int .i64 s.f2.f2.f0, .int .i64 s.f2.f2.f1, .int .i64 s.f3.f0, .int .i64 s.f3.f1] 58) = wb at n5 n7 n9 nR nB ⊢
        have B5 := Aside0.mk n5
        have B7 := Aside0.mk n7
        have RB := Aside0.mk nR
        have HB := Aside0.mk nB
        have CB := Aside0.mk (Kd.R_reads' nR).2.2
        obtain ⟨z0, z1, z2, z3⟩ := cellsF4 n5
        obtain ⟨s0, s1, s2, s3, s4, s5, s6, s7, s8, s9, s10⟩ := cellsF11 n9
        clear n5 n7 n9 nR nB
        go_cut [8] from 11 to 105 (fun v8 wc => ∃ vy : Value, v8 = .int .i64 ye ∧ Aside0 (wc.heap[g7]? = some (.cells #[.int .i64 y0, .int .i64 y1, .int .i64 y2, vy] 26 (0, 0))) ∧ Aside0 (Kd.R (Kd.int .i64) 3 wc w.heap.size (fun _ => True) vy yl) ∧ Aside0 (wc.heap[g5]? = some (.cells #[.int .i64 t, .int .i64 v, .int .i64 r, .slice Ab l.length cb] 26 (0, 0))) ∧ Aside0 (Kd.R (Kd.int .i64) 3 wc w.heap.size (fun _ => True) (.slice Ab l.length cb) l) ∧ Aside0 (Below w.heap.size w wc))
        case first =>
          have e0 := HY.out
          clear HY HT HX
          unfold tf_step at e0
          by_cases c0 : s.f0 = 0
          · rw [if_pos c0] at e0
            have d0 : (s.f0 == 0) = true := beq_iff_eq.mpr c0
            clear c0
            have E := Aside0.mk e0
            clear e0
            go_wp2_with fail
            refine (term_Begin.calls k t v r Ab cb l me 7 y0 y1 y2 yl ye _ CB.out LB.out E.out).mono ?_
            rintro e wq ⟨vy, rfl, ho, hb⟩
            obtain ⟨Ay, cy, rfl, _, _⟩ := Kd.R_reads ho
            have P := Aside0.mk (putF (a := .int .i64 y0) (b := .int .i64 y1) (c := .int .i64 y2) (blk_below B7.out hb) (blk_below B5.out hb) N57.out G7.out (below_step HB.out hb) (Kd.R_lower ho HB.out.size) (Kd.R_below RB.out hb))
            have hz := fun j => blk_frozen (blk_below B7.out hb) j
            obtain ⟨q0, q1, q2, q3⟩ := cellsF4 (blk_below B7.out hb)
            clear z0 z1 z2 z3 s0 s1 s2 s3 s4 s5 s6 s7 s8 s9 s10 ho hb
            go_wp2
            go_meet
            case rel => exact ⟨_, rfl, ⟨P.out.1⟩, ⟨P.out.2.2.1⟩, ⟨P.out.2.1⟩, ⟨P.out.2.2.2.1⟩, ⟨P.out.2.2.2.2⟩⟩
          by_cases c1 : s.f0 = 1
          · rw [if_neg c0, if_pos c1] at e0
            have d0 : (s.f0 == 0) = false := beq_eq_false_iff_ne.mpr c0
            have d1 : (s.f0 == 1) = true := beq_iff_eq.mpr c1
            clear c0 c1
            have E := Aside0.mk e0
            clear e0
            go_wp2_with fail
            refine (term_Hear.calls k t v r Ab cb l s.f1.f1 y0 y1 y2 yl ye _ CB.out LB.out E.out).mono ?_
            rintro e wq ⟨vy, rfl, ho, hb⟩
            obtain ⟨Ay, cy, rfl, _, _⟩ := Kd.R_reads ho
            have P := Aside0.mk (putF (a := .int .i64 y0) (b := .int .i64 y1) (c := .int .i64 y2) (blk_below B7.out hb) (blk_below B5.out hb) N57.out G7.out (below_step HB.out hb) (Kd.R_lower ho HB.out.size) (Kd.R_below RB.out hb))
            have hz := fun j => blk_frozen (blk_below B7.out hb) j
            obtain ⟨q0, q1, q2, q3⟩ := cellsF4 (blk_below B7.out hb)
            clear z0 z1 z2 z3 s0 s1 s2 s3 s4 s5 s6 s7 s8 s9 s10 ho hb
            go_wp2
            go_meet
            case rel => exact ⟨_, rfl, ⟨P.out.1⟩, ⟨P.out.2.2.1⟩, ⟨P.out.2.1⟩, ⟨P.out.2.2.2.1⟩, ⟨P.out.2.2.2.2⟩⟩
          by_cases c2 : s.f0 = 2
          · rw [if_neg c0, if_neg c1, if_pos c2] at e0
            have d0 : (s.f0 == 0) = false := beq_eq_false_iff_ne.mpr c0
            have d1 : (s.f0 == 1) = false := beq_eq_false_iff_ne.mpr c1
            have d2 : (s.f0 == 2) = true := beq_iff_eq.mpr c2
            clear c0 c1 c2
            obtain ⟨⟨y0, y1, y2, yl, yb, ye⟩, e1, e2⟩ := Option.bind_eq_some_iff.1 e0
            simp only [Option.some.injEq, Prod.mk.injEq] at e2
            obtain ⟨rfl, rfl, rfl, rfl, rfl⟩ := e2
            have E := Aside0.mk e1
            clear e0 e1
            go_wp2_with fail
            refine (term_Grant.calls k t v r Ab cb l s.f2.f0 s.f2.f1 s.f2.f2.f0 s.f2.f2.f1 s.f3.f0 s.f3.f1 y0 y1 y2 yl yb ye _ CB.out LB.out E.out).mono ?_
            rintro e wq ⟨vy, rfl, ho, hb⟩
            obtain ⟨Ay, cy, rfl, _, _⟩ := Kd.R_reads ho
            have P := Aside0.mk (putF (a := .int .i64 y0) (b := .int .i64 y1) (c := .int .i64 y2) (blk_below B7.out hb) (blk_below B5.out hb) N57.out G7.out (below_step HB.out hb) (Kd.R_lower ho HB.out.size) (Kd.R_below RB.out hb))
            have hz := fun j => blk_frozen (blk_below B7.out hb) j
            obtain ⟨q0, q1, q2, q3⟩ := cellsF4 (blk_below B7.out hb)
            clear z0 z1 z2 z3 s0 s1 s2 s3 s4 s5 s6 s7 s8 s9 s10 ho hb
            go_wp2
            go_meet
            case rel => exact ⟨_, rfl, ⟨P.out.1⟩, ⟨P.out.2.2.1⟩, ⟨P.out.2.1⟩, ⟨P.out.2.2.2.1⟩, ⟨P.out.2.2.2.2⟩⟩
          · rw [if_neg c0, if_neg c1, if_neg c2] at e0
            have d0 : (s.f0 == 0) = false := beq_eq_false_iff_ne.mpr c0
            have d1 : (s.f0 == 1) = false := beq_eq_false_iff_ne.mpr c1
            have d2 : (s.f0 == 2) = false := beq_eq_false_iff_ne.mpr c2
            clear c0 c1 c2
            have E := Aside0.mk e0
            clear e0
            go_wp2_with fail
            refine (term_Count.calls k t v r Ab cb l s.f1.f0 s.f1.f1 s.f1.f3 7 y0 y1 y2 yl ye _ CB.out LB.out E.out).mono ?_
            rintro e wq ⟨vy, rfl, ho, hb⟩
            obtain ⟨Ay, cy, rfl, _, _⟩ := Kd.R_reads ho
            have P := Aside0.mk (putF (a := .int .i64 y0) (b := .int .i64 y1) (c := .int .i64 y2) (blk_below B7.out hb) (blk_below B5.out hb) N57.out G7.out (below_step HB.out hb) (Kd.R_lower ho HB.out.size) (Kd.R_below RB.out hb))
            have hz := fun j => blk_frozen (blk_below B7.out hb) j
            obtain ⟨q0, q1, q2, q3⟩ := cellsF4 (blk_below B7.out hb)
            clear z0 z1 z2 z3 s0 s1 s2 s3 s4 s5 s6 s7 s8 s9 s10 ho hb
            go_wp2
            go_meet
            case rel => exact ⟨_, rfl, ⟨P.out.1⟩, ⟨P.out.2.2.1⟩, ⟨P.out.2.1⟩, ⟨P.out.2.2.2.1⟩, ⟨P.out.2.2.2.2⟩⟩
        case rest =>
          obtain ⟨vy, rfl, B7c, RYc, B5c, RBc, HBc⟩ := hcut
          obtain ⟨Ay, cy, rfl, _, _⟩ := Kd.R_reads RYc.out
          clear B5 B7 RB HB CB z0 z1 z2 z3 s0 s1 s2 s3 s4 s5 s6 s7 s8 s9 s10 HY
          have H := HT.out
          clear HT
          have hxb : x + 1 ≤ 9223372036854775807 := by omega
          by_cases ce : ye = 0
          · rw [if_pos ce] at H
            have ceb : (ye != 0) = false := bne_eq_false_iff_eq.mpr ce
            clear ce
            by_cases cg : t < y0 ∨ (y0 = t ∧ v = 0) ∨ (y0 = t ∧ v ≠ 0 ∧ y1 = v)
            rotate_left
            · rw [if_neg cg] at H; cases H
            rw [if_pos cg] at H
            have H' := Aside0.mk H
            clear H
            have P := Aside0.mk (putF (a := .int .i64 y0) (b := .int .i64 y1) (c := .int .i64 y2) B5c.out B7c.out (Ne.symm N57.out) G5.out HBc.out RYc.out RBc.out)
            have hz := fun j => blk_frozen B5c.out j
            obtain ⟨q0, q1, q2, q3⟩ := cellsF4 B7c.out
            obtain ⟨p0, p1, p2, p3⟩ := cellsF4 B5c.out
            rcases cg with cg | ⟨cg1, cg2⟩ | ⟨cg1, cg2, cg3⟩
            · have t1 : decide (y0 < t) = false := decide_eq_false (by omega)
              have t2 : (y0 == t) = false := beq_eq_false_iff_ne.mpr (by omega)
              clear cg
              go_wp2
              go_roundg (l0.length - (x + 1).toNat)
              case measure => have := HX.out; omega
              case rel => exact ⟨x + 1, y0, y1, y2, yl, _, rfl, ⟨by omega⟩, H', ⟨P.out.1⟩, ⟨P.out.2.2.1⟩, ⟨P.out.2.2.2.2⟩⟩
            · have t1 : decide (y0 < t) = false := decide_eq_false (by omega)
              have t2 : (y0 == t) = true := beq_iff_eq.mpr cg1
              have t3 : (v != 0) = false := bne_eq_false_iff_eq.mpr cg2
              clear cg1 cg2
              go_wp2
              go_roundg (l0.length - (x + 1).toNat)
              case measure => have := HX.out; omega
              case rel => exact ⟨x + 1, y0, y1, y2, yl, _, rfl, ⟨by omega⟩, H', ⟨P.out.1⟩, ⟨P.out.2.2.1⟩, ⟨P.out.2.2.2.2⟩⟩
            · have t1 : decide (y0 < t) = false := decide_eq_false (by omega)
              have t2 : (y0 == t) = true := beq_iff_eq.mpr cg1
              have t3 : (v != 0) = true := bne_iff_ne.mpr cg2
              have t4 : (y1 != v) = false := bne_eq_false_iff_eq.mpr cg3
              clear cg1 cg2 cg3
              go_wp2
              go_roundg (l0.length - (x + 1).toNat)
              case measure => have := HX.out; omega
              case rel => exact ⟨x + 1, y0, y1, y2, yl, _, rfl, ⟨by omega⟩, H', ⟨P.out.1⟩, ⟨P.out.2.2.1⟩, ⟨P.out.2.2.2.2⟩⟩
          · rw [if_neg ce] at H
            have ceb : (ye != 0) = true := bne_iff_ne.mpr ce
            clear ce
            have H' := Aside0.mk H
            clear H
            go_wp2
            go_roundg (l0.length - (x + 1).toNat)
            case measure => have := HX.out; omega
            case rel => exact ⟨x + 1, t, v, r, l, _, rfl, ⟨by omega⟩, H', B5c, RBc, HBc⟩
      · have c3b0 : decide (x < (l0.length : Int)) = true := decide_eq_true c3
        have c4b0 : decide (x < 60) = false := decide_eq_false c4
        have H := H'.out
        rw [show 60 - x.toNat = 0 by omega] at H
        simp only [tf_l] at H
        have E := Aside0.mk H
        clear H H' HX
        have hL := HC0.out
        go_wp2_with fail
        refine (rialtolaw07_live.calls k res _ E.out).mono ?_
        rintro e wq ⟨rfl, hb⟩
        have Q := Aside0.mk (below_step HB.out hb)
        clear hb
        go_wp2
        go_ret
        exact ⟨rfl, Q.out⟩
    · have c3b0 : decide (x < (l0.length : Int)) = false := decide_eq_false c3
      have H := H'.out
      rw [List.drop_eq_nil_of_le (by omega), tf_l_nil] at H
      have E := Aside0.mk H
      clear H H' HX
      have hL := HC0.out
      go_wp2_with fail
      refine (rialtolaw07_live.calls k res _ E.out).mono ?_
      rintro e wq ⟨rfl, hb⟩
      have Q := Aside0.mk (below_step HB.out hb)
      clear hb
      go_wp2
      go_ret
      exact ⟨rfl, Q.out⟩
/-! end by hand -/

open Go.Proofs.YthhdfefobblmkaaG
def B41_TermFirm (x : S41) : Prop := ((Lit.int .i64 x.f0).wf = true) ∧ ((Lit.int .i64 x.f1).wf = true) ∧ ((Lit.int .i64 x.f2).wf = true) ∧ (True)
theorem opens41_TermFirm : Opens Try.prog k41 41 B41_TermFirm := opens_struct (g := fun y => (⟨y.1, y.2.1, y.2.2.1, y.2.2.2⟩ : S41)) Try.underlying41 (by kernel_rfl) (fun _ => rfl) (opensL_cons rfl (by kernel_rfl) (opens_int Try.underlying3) (opensL_cons rfl (by kernel_rfl) (opens_int Try.underlying3) (opensL_cons rfl (by kernel_rfl) (opens_int Try.underlying3) (opensL_one rfl (by kernel_rfl) (opens_bool Try.underlying4)))))
def B28_TermFirm (x : S28) : Prop := ((Lit.int .i64 x.f0).wf = true) ∧ ((Lit.int .i64 x.f1).wf = true)
theorem opens28_TermFirm : Opens Try.prog k28 28 B28_TermFirm := opens_struct (g := fun y => (⟨y.1, y.2⟩ : S28)) Try.underlying28 (by kernel_rfl) (fun _ => rfl) (opensL_cons rfl (by kernel_rfl) (opens_int Try.underlying3) (opensL_one rfl (by kernel_rfl) (opens_int Try.underlying3)))
def B30_TermFirm (x : S30) : Prop := ((Lit.int .i64 x.f0).wf = true) ∧ ((Lit.int .i64 x.f1).wf = true) ∧ (B28_TermFirm x.f2)
theorem opens30_TermFirm : Opens Try.prog k30 30 B30_TermFirm := opens_struct (g := fun y => (⟨y.1, y.2.1, y.2.2⟩ : S30)) Try.underlying30 (by kernel_rfl) (fun _ => rfl) (opensL_cons rfl (by kernel_rfl) (opens_int Try.underlying3) (opensL_cons rfl (by kernel_rfl) (opens_int Try.underlying3) (opensL_one rfl (by kernel_rfl) opens28_TermFirm)))
def B58_TermFirm (x : S58) : Prop := ((Lit.int .i64 x.f0).wf = true) ∧ (B41_TermFirm x.f1) ∧ (B30_TermFirm x.f2) ∧ (B28_TermFirm x.f3)
theorem opens58_TermFirm : Opens Try.prog k58 58 B58_TermFirm := opens_struct (g := fun y => (⟨y.1, y.2.1, y.2.2.1, y.2.2.2⟩ : S58)) Try.underlying58 (by kernel_rfl) (fun _ => rfl) (opensL_cons rfl (by kernel_rfl) (opens_int Try.underlying3) (opensL_cons rfl (by kernel_rfl) opens41_TermFirm (opensL_cons rfl (by kernel_rfl) opens30_TermFirm (opensL_one rfl (by kernel_rfl) opens28_TermFirm))))
/-- THE PURE STATEMENT of rialtolaw07_TermFirm. -/
def rialtolaw07_TermFirm.Pure : Prop := ∀ (x0 : Int) (x1 : List (S58)), ((Lit.int .i64 x0).wf = true) → ((x1.length * 88 ≤ 140737488351232 ∧ x1.length ≤ 9223372036854775807 ∧ ∀ y_ ∈ x1, B58_TermFirm y_)) → ∃ k, rialtolaw07_TermFirm.f k x0 x1 = some true

end Go.Proofs.Ythhdfefobblmkaa.P
