/- Functions that the laws reach, told as plain functions, each with a proof that the call computes it; for every input. Written by a program of ours out of the translation. -/
import Derived.Test.YthhdfefobblmkaaPx0
namespace Go.Proofs.Ythhdfefobblmkaa.P
open Go.RowKit Go.Proofs.YthhdfefobblmkaaW.PrintWords Go.Proofs.YthhdfefobblmkaaW.PrintLast Go.Proofs.YthhdfefobblmkaaW.PrintMore
open Go.Proofs.YthhdfefobblmkaaG (bk_ bl_ rk_)
attribute [local go_sem] max2_int min2_int max_two min_two max_three min_three max_four min_four   -- for this text's walks alone
set_option linter.unusedVariables false
set_option linter.unusedSimpArgs false

/-! ### rialtoref07_Copy: function 9 -/
/-! by hand -/
open Go.Proofs.YthhdfefobblmkaaG
def rialtoref07_Copy.f (a0_0 : Int) (a0_1 : Int) (a0_2 : Int) (l0_3 : List Int) : Option (Int × Int × Int × List Int) := if l0_3.length < 17592186044416 then some (a0_0, a0_1, a0_2, l0_3) else none
theorem cells4K {w : World} {g : Nat} {t : TypeId} {a b c d : Value} (h : w.heap[g]? = some (.cells #[a, b, c, d] t (0, 0))) : w.cell? ⟨g, 0, none⟩ = some a ∧ w.cell? ⟨g, 1, none⟩ = some b ∧ w.cell? ⟨g, 2, none⟩ = some c ∧ w.cell? ⟨g, 3, none⟩ = some d := ⟨(blk_cell h 0).trans rfl, (blk_cell h 1).trans rfl, (blk_cell h 2).trans rfl, (blk_cell h 3).trans rfl⟩
theorem put4K {W w : World} {g : Nat} {x0 x1 x2 x3 a b c v : Value} {l : List Int} (hb : W.heap[g]? = some (.cells #[x0, x1, x2, x3] 26 (0, 0))) (hg : w.heap.size ≤ g) (hB : Below w.heap.size w W) (ok : Nat → Prop) (ho : Kd.R (Kd.int .i64) 3 W w.heap.size ok v l) :
    ((((W.setCell ⟨g, 0, none⟩ a).setCell ⟨g, 1, none⟩ b).setCell ⟨g, 2, none⟩ c).setCell ⟨g, 3, none⟩ v).heap[g]? = some (.cells #[a, b, c, v] 26 (0, 0)) ∧ Kd.R (Kd.int .i64) 3 ((((W.setCell ⟨g, 0, none⟩ a).setCell ⟨g, 1, none⟩ b).setCell ⟨g, 2, none⟩ c).setCell ⟨g, 3, none⟩ v) w.heap.size (fun _ => True) v l ∧ Below w.heap.size w ((((W.setCell ⟨g, 0, none⟩ a).setCell ⟨g, 1, none⟩ b).setCell ⟨g, 2, none⟩ c).setCell ⟨g, 3, none⟩ v) := by
  have h0 := blk_put hb 0 a rfl
  have h1 := blk_put h0 1 b rfl
  have h2 := blk_put h1 2 c rfl
  have h3 := blk_put h2 3 v rfl
  have o := Kd.R_set (Kd.R_set (Kd.R_set (Kd.R_set ho hb (by decide) 0 a) h0 (by decide) 1 b) h1 (by decide) 2 c) h2 (by decide) 3 v
  exact ⟨h3, Kd.R_mono o (fun _ _ => trivial), below_set (below_set (below_set (below_set hB hg) hg) hg) hg⟩
set_option maxHeartbeats 4000000 in
set_option maxRecDepth 100000 in
theorem rialtoref07_Copy.calls (a0_0 : Int) (a0_1 : Int) (a0_2 : Int) (A0_3 : Option Addr) (c0_3 : Nat) (l0_3 : List Int) (r1 : Int) (r2 : Int) (r3 : Int) (r4 : List Int) (w : World) (hr0_3 : Kd.C (Kd.int .i64) w A0_3 l0_3.length l0_3) (hc0_3 : l0_3.length ≤ c0_3) (h : rialtoref07_Copy.f a0_0 a0_1 a0_2 l0_3 = some (r1, r2, r3, r4)) :
  Calls Try.prog 9 #[.agg #[.int .i64 a0_0, .int .i64 a0_1, .int .i64 a0_2, .slice A0_3 l0_3.length c0_3]] w fun e w' => ∃ v3_ : Value, e = .returned (.agg #[.int .i64 r1, .int .i64 r2, .int .i64 r3, v3_]) ∧ Kd.R (Kd.int .i64) 3 w' w.heap.size (fun _ => True) v3_ r4 ∧ Below w.heap.size w w' := by
  have hu26 := Try.underlying26
  have HR0 := Aside0.mk hr0_3
  have HC0 := Aside0.mk hc0_3
  clear hr0_3 hc0_3
  unfold rialtoref07_Copy.f at h
  split at h
  rotate_left
  · cases h
  next hl =>
  simp only [Option.some.injEq, Prod.mk.injEq] at h
  obtain ⟨rfl, rfl, rfl, rfl⟩ := h
  have HL := Aside0.mk hl
  clear hl
  go_enter Try.func9, Try.ntmps9
  go_upto_region 1 with (fail)
  obtain ⟨g1, hg1⟩ : ∃ g1, g1 = w.heap.size := ⟨_, rfl⟩
  obtain ⟨g2, hg2⟩ : ∃ g2, g2 = w.heap.size + 1 := ⟨_, rfl⟩
  have n1 : ((w.alloc (.cells #[.int .i64 a0_0, .int .i64 a0_1, .int .i64 a0_2, .slice A0_3 l0_3.length c0_3] 26)).alloc (.cells #[.int .i64 0, .int .i64 0, .int .i64 0, .slice none 0 0] 26)).heap[g1]? = some (.cells #[.int .i64 a0_0, .int .i64 a0_1, .int .i64 a0_2, .slice A0_3 l0_3.length c0_3] 26 (0, 0)) := blk_alloc (hg1 ▸ blk_new w _) _
  have n2 : ((w.alloc (.cells #[.int .i64 a0_0, .int .i64 a0_1, .int .i64 a0_2, .slice A0_3 l0_3.length c0_3] 26)).alloc (.cells #[.int .i64 0, .int .i64 0, .int .i64 0, .slice none 0 0] 26)).heap[g2]? = some (.cells #[.int .i64 0, .int .i64 0, .int .i64 0, .slice none 0 0] 26 (0, 0)) := by have := blk_new (w.alloc (.cells #[.int .i64 a0_0, .int .i64 a0_1, .int .i64 a0_2, .slice A0_3 l0_3.length c0_3] 26)) (.cells #[.int .i64 0, .int .i64 0, .int .i64 0, .slice none 0 0] 26); rw [hg2]; simpa using this
  have nB := below_alloc (below_alloc (Below.refl w.heap.size w) (.cells #[.int .i64 a0_0, .int .i64 a0_1, .int .i64 a0_2, .slice A0_3 l0_3.length c0_3] 26)) (.cells #[.int .i64 0, .int .i64 0, .int .i64 0, .slice none 0 0] 26)
  rw [← hg2, ← hg1]
  have G2 := Aside0.mk (show w.heap.size ≤ g2 by omega)
  clear hg1 hg2
  generalize (w.alloc (.cells #[.int .i64 a0_0, .int .i64 a0_1, .int .i64 a0_2, .slice A0_3 l0_3.length c0_3] 26)).alloc (.cells #[.int .i64 0, .int .i64 0, .int .i64 0, .slice none 0 0] 26) = wa at n1 n2 nB ⊢
  have hg3 : ∃ g3, g3 = wa.heap.size := ⟨_, rfl⟩
  obtain ⟨g3, hg3⟩ := hg3
  have m3 := blk_new wa (.cells #[.int .i64 a0_0, .int .i64 a0_1, .int .i64 a0_2, .slice A0_3 l0_3.length c0_3] 26)
  have m1 := blk_alloc n1 (.cells #[.int .i64 a0_0, .int .i64 a0_1, .int .i64 a0_2, .slice A0_3 l0_3.length c0_3] 26)
  have m2 := blk_alloc n2 (.cells #[.int .i64 a0_0, .int .i64 a0_1, .int .i64 a0_2, .slice A0_3 l0_3.length c0_3] 26)
  have mB := below_alloc nB (.cells #[.int .i64 a0_0, .int .i64 a0_1, .int .i64 a0_2, .slice A0_3 l0_3.length c0_3] 26)
  obtain ⟨z0, z1, z2, z3⟩ := cells4K n1
  go_upto_region 2 with (fail)
  rw [← hg3]
  rw [← hg3] at m3
  have N32 := Aside0.mk (show g2 ≠ g3 by have := blk_lt n2; omega)
  have N31 := Aside0.mk (show g1 ≠ g3 by have := blk_lt n1; omega)
  have G3 := Aside0.mk (show w.heap.size ≤ g3 by have := nB.size; omega)
  clear n1 n2 nB hg3 z0 z1 z2 z3
  generalize wa.alloc (.cells #[.int .i64 a0_0, .int .i64 a0_1, .int .i64 a0_2, .slice A0_3 l0_3.length c0_3] 26) = wb at m1 m2 m3 mB ⊢
  have q3 := blk_put m3 3 (.slice none 0 0) rfl
  have q2 := blk_far m2 (p := ⟨g3, 3, none⟩) N32.out (.slice none 0 0)
  have q1 := blk_far m1 (p := ⟨g3, 3, none⟩) N31.out (.slice none 0 0)
  have qB := below_set (j := 3) (v := .slice none 0 0) mB G3.out
  have hz := blk_frozen m3 3
  obtain ⟨z0, z1, z2, z3⟩ := cells4K m3
  go_upto_region 3 with (fail)
  clear z0 z1 z2 z3 hz m1 m2 m3 mB
  generalize wb.setCell ⟨g3, 3, none⟩ (.slice none 0 0) = wc at q1 q2 q3 qB ⊢
  have B1 := Aside0.mk q1
  have B2 := Aside0.mk q2
  have B3 := Aside0.mk q3
  have HB := Aside0.mk qB
  obtain ⟨z0, z1, z2, z3⟩ := cells4K q3
  obtain ⟨y0, y1, y2, y3⟩ := cells4K q1
  clear q1 q2 q3 qB
  go_upto_region 4 with (first | ((with_reducible refine gate_builtin (b := .append) (xs := #[.tmp 7, .tmp 9]) rfl ?_); at_builtin; refine Kd.R_append_rows (Kd.int .i64) (w0 := w) w.heap.size rfl (.tmp 7) (.tmp 9) 24 3 (.int .i64 0) 8 rfl Try.underlying24 info3 rfl (by decide) (by omega) (.slice none 0 0) ([] : List Int) l0_3 _ _ _ (fun _ => True) (fun _ => False) rfl rfl ?aO ?aR (fun _ _ h => h) (fun _ h => h.elim) ?aF ?aB ?aS ?aL ?_; (case aR => exact Kd.C_below HR0.out HB.out); (case aB => exact HB.out); (case aF => exact (fun _ _ => trivial)); (case aO => exact Kd.R_nil _ _ _ _ _); (case aS => exact (below_size HB.out)); (case aL => have := HL.out; simp; omega); intro v2 w2 ho hb hg hat; rw [List.nil_append] at ho; have n1_ := Aside0.mk (blk_grown B2.out hg (by simp [Value.ownBlock])); have n2_ := blk_grown B3.out hg (by simp [Value.ownBlock]); have n3_ := Aside0.mk hb; obtain ⟨A2, d2, rfl⟩ := Kd.R_slice ho; have n4_ := Aside0.mk ho; have n5_ := blk_frozen n2_ 3; have n6_ := Aside0.mk n2_; obtain ⟨x0, x1, x2, x3⟩ := cells4K n2_; clear ho hb hg hat n2_))
  have q3 := blk_put n6_.out 3 (.slice A2 l0_3.length d2) rfl
  have q2 := blk_far n1_.out (p := ⟨g3, 3, none⟩) N32.out (.slice A2 l0_3.length d2)
  have qB := below_set (j := 3) (v := .slice A2 l0_3.length d2) n3_.out G3.out
  have qo := Kd.R_set n4_.out n6_.out (by decide) 3 (.slice A2 l0_3.length d2)
  clear z0 z1 z2 z3 y0 y1 y2 y3 x0 x1 x2 x3 n1_ n3_ n4_ n5_ n6_ B1 B2 B3 HB
  generalize w2.setCell ⟨g3, 3, none⟩ (.slice A2 l0_3.length d2) = wd at q2 q3 qB qo ⊢
  obtain ⟨z0, z1, z2, z3⟩ := cells4K q3
  obtain ⟨y0, y1, y2, y3⟩ := cells4K q2
  have hz := fun j => blk_frozen q2 j
  have P := Aside0.mk (put4K (a := .int .i64 a0_0) (b := .int .i64 a0_1) (c := .int .i64 a0_2) q2 G2.out qB _ qo)
  clear q2 q3 qB qo
  go_wp2

  exact bodyPost_ret (results_cell_row rfl _ _ g2 26 #[.int .i64 a0_0, .int .i64 a0_1, .int .i64 a0_2, .slice A2 l0_3.length d2] (0, 0) _ rfl P.out.1 Try.underlying26 rfl (by kernel_rfl)) rfl ⟨_, rfl, P.out.2.1, P.out.2.2⟩
/-! end by hand -/

end Go.Proofs.Ythhdfefobblmkaa.P
