/- Functions that the laws reach, told as plain functions, each with a proof that the call computes it; for every input. Written by a program of ours out of the translation. -/
import Derived.Test.YthflfekhanjlnaaPx0
import Derived.Test.YthflfekhanjlnaaPx1
import Derived.Test.YthflfekhanjlnaaPx17
import Derived.Test.YthflfekhanjlnaaPx18
namespace Go.Proofs.Ythflfekhanjlnaa.P
open Go.RowKit Go.Proofs.YthflfekhanjlnaaW.PrintWords Go.Proofs.YthflfekhanjlnaaW.PrintLast Go.Proofs.YthflfekhanjlnaaW.PrintMore
open Go.Proofs.YthflfekhanjlnaaG (bk_ bl_ rk_)
attribute [local go_sem] max2_int min2_int max_two min_two max_three min_three max_four min_four   -- for this text's walks alone
set_option linter.unusedVariables false
set_option linter.unusedSimpArgs false

attribute [local go_sem high] eqA24
@[reducible] def KnaaPx26_0 : Array Bool := #[false, false, false, false, false, false, false, false, false, false, false, false]
@[reducible] def KnaaPx26_1 : Array Bool := #[true, false, false, false, false, false, false, false, false, false, false, false]
@[reducible] def KnaaPx26_2 : Array Bool := #[true, true, false, false, false, false, false, false, false, false, false, false]
@[reducible] def KnaaPx26_3 : Array Bool := #[true, true, true, false, false, false, false, false, false, false, false, false]
@[reducible] def KnaaPx26_4 : Array Bool := #[true, true, true, true, false, false, false, false, false, false, false, false]
@[reducible] def KnaaPx26_5 : Array Bool := #[true, true, true, true, true, false, false, false, false, false, false, false]
@[reducible] def KnaaPx26_6 : Array Bool := #[true, true, true, true, true, true, false, false, false, false, false, false]
@[reducible] def KnaaPx26_7 : Array Bool := #[true, true, true, true, true, true, true, false, false, false, false, false]
@[reducible] def KnaaPx26_8 : Array Bool := #[true, true, true, true, true, true, true, true, false, false, false, false]
@[reducible] def KnaaPx26_9 : Array Bool := #[true, true, true, true, true, true, true, true, true, false, false, false]
@[reducible] def KnaaPx26_10 : Array Bool := #[true, true, true, true, true, true, true, true, true, true, false, false]
@[reducible] def KnaaPx26_11 : Array Bool := #[true, true, true, true, true, true, true, true, true, true, true, false]
@[reducible] def KnaaPx26_12 : Array Bool := #[true, true, true, true, true, true, true, true, true, true, true, true]
@[reducible] def KnaaPx26_13 : Array Bool := #[true, true, true, true, false, true, false, false, false, false, false, false]
@[reducible] def KnaaPx26_14 : Array Bool := #[true, true, true, true, false, true, true, false, false, false, false, false]
@[reducible] def KnaaPx26_15 : Array Bool := #[true, true, true, true, false, true, true, true, false, false, false, false]
@[reducible] def KnaaPx26_16 : Array Bool := #[true, true, true, true, false, true, true, true, true, false, false, false]
@[reducible] def KnaaPx26_17 : Array Bool := #[false, false, false, false, false, false, false, false]
@[reducible] def KnaaPx26_18 : Array Bool := #[true, false, false, false, false, false, false, false]
@[reducible] def KnaaPx26_19 : Array Bool := #[true, true, false, false, false, false, false, false]
@[reducible] def KnaaPx26_20 : Array Bool := #[true, true, true, false, false, false, false, false]
@[reducible] def KnaaPx26_21 : Array Bool := #[true, true, true, true, false, false, false, false]
@[reducible] def KnaaPx26_22 : Array Bool := #[true, true, true, true, false, true, false, false]
@[reducible] def KnaaPx26_23 : Array Bool := #[true, true, true, true, true, true, false, false]
@[reducible] def KnaaPx26_24 : Array Bool := #[true, true, true, true, true, true, true, false]
@[reducible] def KnaaPx26_25 : Array Bool := #[true, true, true, true, true, true, true, true]
@[reducible] def KnaaPx26_26 : Array Bool := #[true, false, true, false, false, false, false, false]
@[reducible] def KnaaPx26_27 : Array Bool := #[true, false, true, true, false, false, false, false]
@[reducible] def KnaaPx26_28 : Array Bool := #[true, false, true, true, true, false, false, false]
@[reducible] def KnaaPx26_29 : Array Bool := #[true, false, true, true, true, true, false, false]
/-! ### rialtoref20_Learn: function 16 -/
mutual
def rialtoref20_Learn.j0 : Nat → List (S30) → Bool → Int → Int → Int → Int → Option ((List (S30)) × Int)
 | 0, _, _, _, _, _, _ => none
 | k + 1, x0, x17, x232000, x232001, x232002, x232003 => if x17 = true then (some (([] : List (S30)), 200)) else (rialtoref20_Learn.l0 k x0 ([] : List (S30)) false 0 x232000 x232001 x232002 x232003)
def rialtoref20_Learn.l0 : Nat → List (S30) → List (S30) → Bool → Int → Int → Int → Int → Int → Option ((List (S30)) × Int)
 | 0, _, _, _, _, _, _, _, _ => none
 | k + 1, x0, x6, x7, x8, x232000, x232001, x232002, x232003 => if x8 < (x0.length : Int) then (if x7 = true then (rialtoref20_Learn.j2 k x0 x6 x7 x8 false x232000 x232001 x232002 x232003) else (if 0 ≤ x8 then ((rialtoref18_Less.f x232000 x232001 ((rd_T30 x0 x8).f0.f0) ((rd_T30 x0 x8).f0.f1)).bind fun t238 => (rialtoref20_Learn.j2 k x0 x6 x7 x8 t238 x232000 x232001 x232002 x232003)) else (none))) else (if x7 = true then (some (x6, 0)) else (if x6.length < 4398046511104 then (some ((x6 ++ [(⟨(⟨x232000, x232001⟩ : S24), x232002, x232003⟩ : S30)]), 0)) else (none)))
def rialtoref20_Learn.j2 : Nat → List (S30) → List (S30) → Bool → Int → Bool → Int → Int → Int → Int → Option ((List (S30)) × Int)
 | 0, _, _, _, _, _, _, _, _, _ => none
 | k + 1, x0, x6, x7, x8, x35, x232000, x232001, x232002, x232003 => if x35 = true then (if x6.length < 4398046511104 then (rialtoref20_Learn.j3 k x0 (x6 ++ [(⟨(⟨x232000, x232001⟩ : S24), x232002, x232003⟩ : S30)]) true x8 x232000 x232001 x232002 x232003) else (none)) else (rialtoref20_Learn.j3 k x0 x6 x7 x8 x232000 x232001 x232002 x232003)
def rialtoref20_Learn.j3 : Nat → List (S30) → List (S30) → Bool → Int → Int → Int → Int → Int → Option ((List (S30)) × Int)
 | 0, _, _, _, _, _, _, _, _ => none
 | k + 1, x0, x6, x7, x8, x232000, x232001, x232002, x232003 => if 0 ≤ x8 then (if x8 < (x0.length : Int) then (if (((rd_T30 x0 x8).f0.f0) == x232000 && (((rd_T30 x0 x8).f0.f1) == x232001)) = true then (if x232003 > ((rd_T30 x0 x8).f2) then (if x6.length < 4398046511104 then (rialtoref20_Learn.l0 k x0 (x6 ++ [(⟨(⟨x232000, x232001⟩ : S24), x232002, x232003⟩ : S30)]) true (wrap64 (x8 + 1)) x232000 x232001 x232002 x232003) else (none)) else (if x6.length < 4398046511104 then (rialtoref20_Learn.l0 k x0 (x6 ++ [(⟨(⟨(rd_T30 x0 x8).f0.f0, (rd_T30 x0 x8).f0.f1⟩ : S24), (rd_T30 x0 x8).f1, (rd_T30 x0 x8).f2⟩ : S30)]) true (wrap64 (x8 + 1)) x232000 x232001 x232002 x232003) else (none))) else (if x6.length < 4398046511104 then (rialtoref20_Learn.l0 k x0 (x6 ++ [(⟨(⟨(rd_T30 x0 x8).f0.f0, (rd_T30 x0 x8).f0.f1⟩ : S24), (rd_T30 x0 x8).f1, (rd_T30 x0 x8).f2⟩ : S30)]) x7 (wrap64 (x8 + 1)) x232000 x232001 x232002 x232003) else (none))) else (none)) else (none)
end
def rialtoref20_Learn.f (k : Nat) (l0 : List (S30)) (a1_0 : Int) (a1_1 : Int) (a1_2 : Int) (a1_3 : Int) : Option ((List (S30)) × Int) := (rialtoref20_Check.f k l0).bind fun t232 => (if t232 = true then ((rialtoref20_Check.f k (([(⟨(⟨a1_0, a1_1⟩ : S24), a1_2, a1_3⟩ : S30)] : List (S30)))).bind fun t236 => (rialtoref20_Learn.j0 k l0 (!t236) a1_0 a1_1 a1_2 a1_3)) else (rialtoref20_Learn.j0 k l0 true a1_0 a1_1 a1_2 a1_3))
theorem rialtoref20_Learn.mono_l : ∀ k, (∀ y0 y1 y2 y3 y4 y5, LeO (rialtoref20_Learn.j0 k y0 y1 y2 y3 y4 y5) (rialtoref20_Learn.j0 (k + 1) y0 y1 y2 y3 y4 y5)) ∧ (∀ y0 y1 y2 y3 y4 y5 y6 y7, LeO (rialtoref20_Learn.l0 k y0 y1 y2 y3 y4 y5 y6 y7) (rialtoref20_Learn.l0 (k + 1) y0 y1 y2 y3 y4 y5 y6 y7)) ∧ (∀ y0 y1 y2 y3 y4 y5 y6 y7 y8, LeO (rialtoref20_Learn.j2 k y0 y1 y2 y3 y4 y5 y6 y7 y8) (rialtoref20_Learn.j2 (k + 1) y0 y1 y2 y3 y4 y5 y6 y7 y8)) ∧ (∀ y0 y1 y2 y3 y4 y5 y6 y7, LeO (rialtoref20_Learn.j3 k y0 y1 y2 y3 y4 y5 y6 y7) (rialtoref20_Learn.j3 (k + 1) y0 y1 y2 y3 y4 y5 y6 y7))
 | 0 => ⟨fun _ _ _ _ _ _ r h => by simp [rialtoref20_Learn.j0] at h, fun _ _ _ _ _ _ _ _ r h => by simp [rialtoref20_Learn.l0] at h, fun _ _ _ _ _ _ _ _ _ r h => by simp [rialtoref20_Learn.j2] at h, fun _ _ _ _ _ _ _ _ r h => by simp [rialtoref20_Learn.j3] at h⟩
 | k + 1 => by
  obtain ⟨ih0, ih1, ih2, ih3⟩ := rialtoref20_Learn.mono_l k
  refine ⟨?_, ?_, ?_, ?_⟩
  ·intro y0 y1 y2 y3 y4 y5
   unfold rialtoref20_Learn.j0
   repeat' first
   | (with_reducible exact ih0 _ _ _ _ _ _)
   | (with_reducible exact ih1 _ _ _ _ _ _ _ _)
   | (with_reducible exact ih2 _ _ _ _ _ _ _ _ _)
   | (with_reducible exact ih3 _ _ _ _ _ _ _ _)
   | (with_reducible exact rialtoref20_Check.mono _ _)
   | (with_reducible exact LeO.refl _)
   | (with_reducible exact LeO.none _)
   | (with_reducible refine LeO.ite ?_ ?_)
   | (with_reducible refine LeO.bind ?_ (fun _ => ?_))
   | exact ih0 _ _ _ _ _ _
   | exact ih1 _ _ _ _ _ _ _ _
   | exact ih2 _ _ _ _ _ _ _ _ _
   | exact ih3 _ _ _ _ _ _ _ _
   | exact rialtoref20_Check.mono _ _
   | exact LeO.none _
   | refine LeO.ite ?_ ?_
   | refine LeO.bind ?_ (fun _ => ?_)
  ·intro y0 y1 y2 y3 y4 y5 y6 y7
   unfold rialtoref20_Learn.l0
   repeat' first
   | (with_reducible exact ih0 _ _ _ _ _ _)
   | (with_reducible exact ih1 _ _ _ _ _ _ _ _)
   | (with_reducible exact ih2 _ _ _ _ _ _ _ _ _)
   | (with_reducible exact ih3 _ _ _ _ _ _ _ _)
   | (with_reducible exact rialtoref20_Check.mono _ _)
   | (with_reducible exact LeO.refl _)
   | (with_reducible exact LeO.none _)
   | (with_reducible refine LeO.ite ?_ ?_)
   | (with_reducible refine LeO.bind ?_ (fun _ => ?_))
   | exact ih0 _ _ _ _ _ _
   | exact ih1 _ _ _ _ _ _ _ _
   | exact ih2 _ _ _ _ _ _ _ _ _
   | exact ih3 _ _ _ _ _ _ _ _
   | exact rialtoref20_Check.mono _ _
   | exact LeO.none _
   | refine LeO.ite ?_ ?_
   | refine LeO.bind ?_ (fun _ => ?_)
  ·intro y0 y1 y2 y3 y4 y5 y6 y7 y8
   unfold rialtoref20_Learn.j2
   repeat' first
   | (with_reducible exact ih0 _ _ _ _ _ _)
   | (with_reducible exact ih1 _ _ _ _ _ _ _ _)
   | (with_reducible exact ih2 _ _ _ _ _ _ _ _ _)
   | (with_reducible exact ih3 _ _ _ _ _ _ _ _)
   | (with_reducible exact rialtoref20_Check.mono _ _)
   | (with_reducible exact LeO.refl _)
   | (with_reducible exact LeO.none _)
   | (with_reducible refine LeO.ite ?_ ?_)
   | (with_reducible refine LeO.bind ?_ (fun _ => ?_))
   | exact ih0 _ _ _ _ _ _
   | exact ih1 _ _ _ _ _ _ _ _
   | exact ih2 _ _ _ _ _ _ _ _ _
   | exact ih3 _ _ _ _ _ _ _ _
   | exact rialtoref20_Check.mono _ _
   | exact LeO.none _
   | refine LeO.ite ?_ ?_
   | refine LeO.bind ?_ (fun _ => ?_)
  ·intro y0 y1 y2 y3 y4 y5 y6 y7
   unfold rialtoref20_Learn.j3
   repeat' first
   | (with_reducible exact ih0 _ _ _ _ _ _)
   | (with_reducible exact ih1 _ _ _ _ _ _ _ _)
   | (with_reducible exact ih2 _ _ _ _ _ _ _ _ _)
   | (with_reducible exact ih3 _ _ _ _ _ _ _ _)
   | (with_reducible exact rialtoref20_Check.mono _ _)
   | (with_reducible exact LeO.refl _)
   | (with_reducible exact LeO.none _)
   | (with_reducible refine LeO.ite ?_ ?_)
   | (with_reducible refine LeO.bind ?_ (fun _ => ?_))
   | exact ih0 _ _ _ _ _ _
   | exact ih1 _ _ _ _ _ _ _ _
   | exact ih2 _ _ _ _ _ _ _ _ _
   | exact ih3 _ _ _ _ _ _ _ _
   | exact rialtoref20_Check.mono _ _
   | exact LeO.none _
   | refine LeO.ite ?_ ?_
   | refine LeO.bind ?_ (fun _ => ?_)
theorem rialtoref20_Learn.mono : ∀ a0 a1 a2 a3 a4 k, LeO (rialtoref20_Learn.f k a0 a1 a2 a3 a4) (rialtoref20_Learn.f (k + 1) a0 a1 a2 a3 a4) := by
 intro a0 a1 a2 a3 a4 k
 obtain ⟨ih0, ih1, ih2, ih3⟩ := rialtoref20_Learn.mono_l k
 unfold rialtoref20_Learn.f
 repeat' first
   | (with_reducible exact ih0 _ _ _ _ _ _)
   | (with_reducible exact ih1 _ _ _ _ _ _ _ _)
   | (with_reducible exact ih2 _ _ _ _ _ _ _ _ _)
   | (with_reducible exact ih3 _ _ _ _ _ _ _ _)
   | (with_reducible exact rialtoref20_Check.mono _ _)
   | (with_reducible exact LeO.refl _)
   | (with_reducible exact LeO.none _)
   | (with_reducible refine LeO.ite ?_ ?_)
   | (with_reducible refine LeO.bind ?_ (fun _ => ?_))
   | exact ih0 _ _ _ _ _ _
   | exact ih1 _ _ _ _ _ _ _ _
   | exact ih2 _ _ _ _ _ _ _ _ _
   | exact ih3 _ _ _ _ _ _ _ _
   | exact rialtoref20_Check.mono _ _
   | exact LeO.none _
   | refine LeO.ite ?_ ?_
   | refine LeO.bind ?_ (fun _ => ?_)
def rialtoref20_Learn.T8 : Bool × List (List Nat × List Nat) := (true, [([], []), ([0], [0]), ([1], [1]), ([2], [2]), ([3, 2], [2, 3]), ([2], [2]), ([2], [2]), ([5, 6, 2], [2, 5, 6]), ([7, 2], [2, 7]), ([8, 2], [2, 8]), ([4, 9, 2, 2], [2, 4, 9]), ([2, 10], [2, 10])])
def rialtoref20_Learn.B8 : List Nat := [0, 1, 3, 7, 15, 7, 7, 103, 231, 487, 1023, 2047]
theorem rialtoref20_Learn.tab8 : rtab .any (opsOf Try.f16 8) = rialtoref20_Learn.T8 := by kernel_rfl
theorem rialtoref20_Learn.bits8 : waitsOk rialtoref20_Learn.T8.2 rialtoref20_Learn.B8 = true := by kernel_rfl
def rialtoref20_Learn.T11 : Bool × List (List Nat × List Nat) := (true, [([], []), ([], []), ([0, 1], [0, 1]), ([2], [2]), ([3], [3]), ([], []), ([5], [5]), ([4, 6], [4, 6])])
def rialtoref20_Learn.B11 : List Nat := [0, 0, 3, 7, 15, 0, 32, 127]
theorem rialtoref20_Learn.tab11 : rtab .any (opsOf Try.f16 11) = rialtoref20_Learn.T11 := by kernel_rfl
theorem rialtoref20_Learn.bits11 : waitsOk rialtoref20_Learn.T11.2 rialtoref20_Learn.B11 = true := by kernel_rfl
def rialtoref20_Learn.T13 : Bool × List (List Nat × List Nat) := (true, [([], []), ([0], [0]), ([], []), ([], []), ([2, 3], [2, 3]), ([4], [4]), ([5], [5]), ([1, 6], [1, 6])])
def rialtoref20_Learn.B13 : List Nat := [0, 1, 0, 0, 12, 28, 60, 127]
theorem rialtoref20_Learn.tab13 : rtab .any (opsOf Try.f16 13) = rialtoref20_Learn.T13 := by kernel_rfl
theorem rialtoref20_Learn.bits13 : waitsOk rialtoref20_Learn.T13.2 rialtoref20_Learn.B13 = true := by kernel_rfl
set_option maxHeartbeats 8000000 in
set_option maxRecDepth 100000 in
theorem rialtoref20_Learn.calls (k : Nat) (A0 : Option Addr) (c0 : Nat) (l0 : List (S30)) (a1_0 : Int) (a1_1 : Int) (a1_2 : Int) (a1_3 : Int) (r1 : List (S30)) (r2 : Int) (w : World) (hr0 : Kd.C k30 w A0 l0.length l0) (hc0 : l0.length ≤ c0) (h : rialtoref20_Learn.f k l0 a1_0 a1_1 a1_2 a1_3 = some (r1, r2)) :
  Calls Try.prog 16 #[.slice A0 l0.length c0, .agg #[.int .i64 a1_0, .int .i64 a1_1, .int .i64 a1_2, .int .i64 a1_3]] w fun e w' => ∃ v0_ : Value, e = .returned (.tuple #[v0_, .int .i64 r2]) ∧ Kd.R k30 30 w' w.heap.size (fun _ => True) v0_ r1 ∧ Below w.heap.size w w' := by
 have hu30 := Try.underlying30
 have hu24 := Try.underlying24
 have HR0 := Aside0.mk hr0
 have HC0 := Aside0.mk hc0
 clear hr0 hc0
 have HB := Aside0.mk (Below.refl w.heap.size w)
 have H : ((rialtoref20_Check.f k l0).bind fun t232 => (if t232 = true then ((rialtoref20_Check.f k (([(⟨(⟨a1_0, a1_1⟩ : S24), a1_2, a1_3⟩ : S30)] : List (S30)))).bind fun t236 => (rialtoref20_Learn.j0 k l0 (!t236) a1_0 a1_1 a1_2 a1_3)) else (rialtoref20_Learn.j0 k l0 true a1_0 a1_1 a1_2 a1_3))) = some (r1, r2) := h
 clear h
 have HC3 := Aside0.mk H
 clear H
 go_enter Try.func16, Try.ntmps16
 go_upto_region 1 with (first | ((with_reducible refine gate_dst (N := 3) rfl ?_); (try (refine gate_guard (by rfl) ?_; dsimp only)); refine box_event ?hg (N := 3) ?hd (cs := #[.int .i64 a1_0, .int .i64 a1_1, .int .i64 a1_2, .int .i64 a1_3]) (t := 30) ?hr ?_; (case hd => rfl); (case hg => rfl); (case hr => first | (go_simp; done) | (go_simp; rfl)); intro gb231 hg w4 hbox hb; have n0_ := Aside0.mk (below_step (by exact bl_ HB.out) hb); have n1_ := Aside0.mk (hbox); have n2_ := Aside0.mk ((by rw [hg]; exact (below_size (by exact bl_ HB.out)) : w.heap.size ≤ gb231)); have n3_ := Aside0.mk ((by rw [hg]; exact (below_size (by exact bl_ HB.out)) : w.heap.size ≤ gb231)); clear HB; have HB := n0_; have BK231 := n1_; have GW231 := n2_; have GE231 := n3_; clear n0_ n1_ n2_ n3_; clear hb hbox hg))
 (try simp only [Act.put, List.setIfInBounds_toArray, List.set_cons_zero, List.set_cons_succ])
 go_cut [17] (fun v17 wc => ∃ (kq : Nat) (x17_2 : Bool), v17 = .bool x17_2 ∧ Aside0 (rialtoref20_Learn.j0 kq l0 x17_2 a1_0 a1_1 a1_2 a1_3 = some (r1, r2)) ∧ Aside0 (kq ≤ k) ∧ Aside0 (wc.heap[gb231]? = some (.cells #[.int .i64 a1_0, .int .i64 a1_1, .int .i64 a1_2, .int .i64 a1_3] 30 (0, 0))) ∧ Aside0 (Below w.heap.size w wc))
 case first =>
  have H := HC3.out
  clear HC3
  replace H := Option.bind_eq_some_iff.mp H
  obtain ⟨t232, A50, H⟩ := H
  replace H : (if t232 = true then ((rialtoref20_Check.f k (([(⟨(⟨a1_0, a1_1⟩ : S24), a1_2, a1_3⟩ : S30)] : List (S30)))).bind fun t236 => (rialtoref20_Learn.j0 k l0 (!t236) a1_0 a1_1 a1_2 a1_3)) else (rialtoref20_Learn.j0 k l0 true a1_0 a1_1 a1_2 a1_3)) = some (r1, r2) := H
  have A5 := Aside0.mk A50
  clear A50
  by_cases c6 : t232 = true
  ·subst c6
   have H1 : ((rialtoref20_Check.f k (([(⟨(⟨a1_0, a1_1⟩ : S24), a1_2, a1_3⟩ : S30)] : List (S30)))).bind fun t236 => (rialtoref20_Learn.j0 k l0 (!t236) a1_0 a1_1 a1_2 a1_3)) = some (r1, r2) := by rw [if_pos rfl] at H; exact H
   clear H
   have H := H1
   clear H1
   obtain ⟨y233, hy233⟩ : ∃ y_ : List (S30), y_ = (([(⟨(⟨a1_0, a1_1⟩ : S24), a1_2, a1_3⟩ : S30)] : List (S30))) := ⟨_, rfl⟩
   replace H : ((rialtoref20_Check.f k y233).bind fun t236 => (rialtoref20_Learn.j0 k l0 (!t236) a1_0 a1_1 a1_2 a1_3)) = some (r1, r2) := by first | (rw [hy233]; with_reducible exact H) | (have H2_ := (Option.bind_some _ _).symm.trans H; rw [hy233]; with_reducible exact H2_) | (have H2_ := (Option.bind_some _ _).symm.trans H; with_reducible exact H2_) | with_reducible exact H | (rw [hy233]; exact H) | exact H
   have Ny233 := Aside0.mk hy233
   clear hy233
   replace H := Option.bind_eq_some_iff.mp H
   obtain ⟨t236, A70, H⟩ := H
   replace H : (rialtoref20_Learn.j0 k l0 (!t236) a1_0 a1_1 a1_2 a1_3) = some (r1, r2) := H
   have A7 := Aside0.mk A70
   clear A70
   have H' := Aside0.mk H
   clear H
   go_wp2_with (first | ((with_reducible refine gate_callee (f := 22) rfl ?_); refine goesL_ (some 10) rfl rfl Try.func22 (by kernel_rfl) rfl #[.slice A0 l0.length c0] rfl (by (try simp only [List.map_toArray, List.map_cons, List.map_nil]); first | done | rfl | (simp only [List.length_drop, List.length_take]; rfl)) ?_; (with_reducible refine (rialtoref20_Check.calls k _ _ l0 true _ ?side1 ?side2 A5.out).mono ?_); (case side1 => repeat (first | exact (Kd.C_below HR0.out HB.out) | (with_reducible refine Kd.C_alloc ?_ _) | (with_reducible refine Kd.C_drewN ?_ _) | (with_reducible refine Kd.C_drew ?_))); (case side2 => exact HC0.out); rintro e w8 ⟨rfl, hb⟩; refine ⟨_, rfl, ?_⟩; have n0_ := Aside0.mk (blk_below (g := gb231) (o := .cells #[.int .i64 a1_0, .int .i64 a1_1, .int .i64 a1_2, .int .i64 a1_3] 30 (0, 0)) (by exact bk_ BK231.out) hb); have n1_ := Aside0.mk (below_step (by repeat (first | (with_reducible first | exact HB.out | apply below_alloc | apply pw_below_drewN | apply below_drew1 | refine below_set ?_ GE231.out) | exact HB.out)) hb); clear BK231; clear HB; have BK231 := n0_; have HB := n1_; clear n0_ n1_; (try clear hb); (try clear hb2); (try clear hk); (try clear hi); have hcz9_0 : w8.cell? ⟨gb231, 0, none⟩ = some (.int .i64 a1_0) := (blk_cell BK231.out 0).trans rfl; have hcz9_1 : w8.cell? ⟨gb231, 1, none⟩ = some (.int .i64 a1_1) := (blk_cell BK231.out 1).trans rfl; have hcz9_2 : w8.cell? ⟨gb231, 2, none⟩ = some (.int .i64 a1_2) := (blk_cell BK231.out 2).trans rfl; have hcz9_3 : w8.cell? ⟨gb231, 3, none⟩ = some (.int .i64 a1_3) := (blk_cell BK231.out 3).trans rfl; have hfz9_0 := blk_frozen BK231.out 0; have hfz9_1 := blk_frozen BK231.out 1; have hfz9_2 := blk_frozen BK231.out 2; have hfz9_3 := blk_frozen BK231.out 3) | ((with_reducible refine gate_dst (N := 14) rfl ?_); (try (refine gate_guard (by rfl) ?_; dsimp only)); refine Kd.R_lit k30 _ 30 ?hg (N := 14) ?hd (xs := ([(⟨(⟨a1_0, a1_1⟩ : S24), a1_2, a1_3⟩ : S30)] : List (S30))) (inner := [.int .i64 a1_0, .int .i64 a1_1, .int .i64 a1_2, .int .i64 a1_3]) (ok := fun _ => True) (okp := fun _ => True) ?hr ?hp (fun _ hk => hk) trivial (Below.refl _ _) (Nat.le_refl _) (by simp) ?_; (case hd => rfl); (case hg => rfl); (case hr => first | (go_simp; done) | (go_simp; rfl)); (case hp => exact (Reps.c4 (show Kd.M k30 _ _ _ (⟨(⟨a1_0, a1_1⟩ : S24), a1_2, a1_3⟩ : S30) [.int .i64 a1_0, .int .i64 a1_1, .int .i64 a1_2, .int .i64 a1_3] from (k30_mkM _ _ _ (⟨(⟨a1_0, a1_1⟩ : S24), a1_2, a1_3⟩ : S30) )) (Reps.none _ _))); intro v234 w10 ho11 hb hg_ hnew_; clear hg_ hnew_; (first | rw [← Ny233.out] at ho11 | (simp only [Int.reduceToNat] at ho11; rw [← Ny233.out] at ho11)); have n0_ := Aside0.mk (Kd.R_lower (Kd.R_newB ho11 (g := gb231) (o := .cells #[.int .i64 a1_0, .int .i64 a1_1, .int .i64 a1_2, .int .i64 a1_3] 30 (0, 0)) (by exact bk_ BK231.out)) (below_size (by repeat (first | (with_reducible first | exact HB.out | apply below_alloc | apply pw_below_drewN | apply below_drew1 | refine below_set ?_ GE231.out) | exact HB.out)))); have n1_ := Aside0.mk (blk_below (g := gb231) (o := .cells #[.int .i64 a1_0, .int .i64 a1_1, .int .i64 a1_2, .int .i64 a1_3] 30 (0, 0)) (by exact bk_ BK231.out) hb); have n2_ := Aside0.mk (below_step (by repeat (first | (with_reducible first | exact HB.out | apply below_alloc | apply pw_below_drewN | apply below_drew1 | refine below_set ?_ GE231.out) | exact HB.out)) hb); clear BK231; clear HB; have HO235 := n0_; have BK231 := n1_; have HB := n2_; clear n0_ n1_ n2_; clear hb ho11; obtain ⟨Ao12, co12, eo12⟩ := Kd.R_slice HO235.out; subst eo12) | (go_at_call 22; (with_reducible refine (rialtoref20_Check.calls k _ _ y233 t236 _ ?side1 ?side2 A7.out).mono ?_); (case side1 => repeat (first | exact (Kd.R_reads' HO235.out).2.2 | (with_reducible refine Kd.C_alloc ?_ _) | (with_reducible refine Kd.C_drewN ?_ _) | (with_reducible refine Kd.C_drew ?_))); (case side2 => exact (Kd.R_reads' HO235.out).2.1); rintro e w13 ⟨rfl, hb⟩; have n0_ := Aside0.mk (Kd.R_below (by exact rk_ HO235.out) hb); have n1_ := Aside0.mk (blk_below (g := gb231) (o := .cells #[.int .i64 a1_0, .int .i64 a1_1, .int .i64 a1_2, .int .i64 a1_3] 30 (0, 0)) (by exact bk_ BK231.out) hb); have n2_ := Aside0.mk (below_step (by repeat (first | (with_reducible first | exact HB.out | apply below_alloc | apply pw_below_drewN | apply below_drew1 | refine below_set ?_ GE231.out) | exact HB.out)) hb); clear HO235; clear BK231; clear HB; have HO235 := n0_; have BK231 := n1_; have HB := n2_; clear n0_ n1_ n2_; (try clear hb); (try clear hb2); (try clear hk); (try clear hi)))
   go_meet
   case rel => exact ⟨_, (!t236), (by first | rfl | (simp; done) | (simp [*]; done)), H', ⟨by first | omega | exact Nat.le_refl _⟩, ⟨by exact bk_ BK231.out⟩, ⟨by repeat (first | (with_reducible first | exact HB.out | apply below_alloc | apply pw_below_drewN | apply below_drew1 | refine below_set ?_ GE231.out) | exact HB.out)⟩⟩
  ·replace c6 := Bool.eq_false_iff.mpr c6
   subst c6
   have H1 : (rialtoref20_Learn.j0 k l0 true a1_0 a1_1 a1_2 a1_3) = some (r1, r2) := by rw [if_neg (show ¬ (false = true) by decide)] at H; exact H
   clear H
   have H := H1
   clear H1
   have H' := Aside0.mk H
   clear H
   go_wp2_with (first | ((with_reducible refine gate_callee (f := 22) rfl ?_); refine goesL_ (some 10) rfl rfl Try.func22 (by kernel_rfl) rfl #[.slice A0 l0.length c0] rfl (by (try simp only [List.map_toArray, List.map_cons, List.map_nil]); first | done | rfl | (simp only [List.length_drop, List.length_take]; rfl)) ?_; (with_reducible refine (rialtoref20_Check.calls k _ _ l0 false _ ?side1 ?side2 A5.out).mono ?_); (case side1 => repeat (first | exact (Kd.C_below HR0.out HB.out) | (with_reducible refine Kd.C_alloc ?_ _) | (with_reducible refine Kd.C_drewN ?_ _) | (with_reducible refine Kd.C_drew ?_))); (case side2 => exact HC0.out); rintro e w14 ⟨rfl, hb⟩; refine ⟨_, rfl, ?_⟩; have n0_ := Aside0.mk (blk_below (g := gb231) (o := .cells #[.int .i64 a1_0, .int .i64 a1_1, .int .i64 a1_2, .int .i64 a1_3] 30 (0, 0)) (by exact bk_ BK231.out) hb); have n1_ := Aside0.mk (below_step (by repeat (first | (with_reducible first | exact HB.out | apply below_alloc | apply pw_below_drewN | apply below_drew1 | refine below_set ?_ GE231.out) | exact HB.out)) hb); clear BK231; clear HB; have BK231 := n0_; have HB := n1_; clear n0_ n1_; (try clear hb); (try clear hb2); (try clear hk); (try clear hi)))
   go_meet
   case rel => exact ⟨_, (true), (by first | rfl | (simp; done) | (simp [*]; done)), H', ⟨by first | omega | exact Nat.le_refl _⟩, ⟨by exact bk_ BK231.out⟩, ⟨by repeat (first | (with_reducible first | exact HB.out | apply below_alloc | apply pw_below_drewN | apply below_drew1 | refine below_set ?_ GE231.out) | exact HB.out)⟩⟩
 case rest =>
  clear HC3
  try clear c1
  try clear c2
  try clear p2
  try clear c4
  try clear c6
  try clear hcz9_0
  try clear hcz9_1
  try clear hcz9_2
  try clear hcz9_3
  try clear hfz9_0
  try clear hfz9_1
  try clear hfz9_2
  try clear hfz9_3
  obtain ⟨kq, x17_2, rfl, HA, HJ2, BK231, HB⟩ := hcut
  cases kq with
  | zero => exact absurd HA.out (by simp [rialtoref20_Learn.j0])
  | succ kj2 =>
   have H := HA.out
   clear HA
   simp only [rialtoref20_Learn.j0] at H
   by_cases c15 : x17_2 = true
   ·subst c15
    have H1 : (some (([] : List (S30)), 200)) = some (r1, r2) := by rw [if_pos rfl] at H; exact H
    clear H
    have H := H1
    clear H1
    simp only [Option.some.injEq, Prod.mk.injEq] at H
    obtain ⟨rfl, rfl⟩ := H
    go_wp2
    go_ret2
    exact ⟨_, by first | rfl | (simp [errW_none, errW_some] <;> rfl) | (simp [*, errW_none, errW_some] <;> rfl), by first | exact Kd.R_nil _ _ _ _ _ | exact Kd.N_nil _ _ _ _ _ | exact Kd.V_nil _ _ _ _ _ | exact Kd.Q_nil _ _ _ _ _ | exact Kd.S_nil _ _ _ _ _, by repeat (first | (with_reducible first | exact HB.out | apply below_alloc | apply pw_below_drewN | apply below_drew1 | refine below_set ?_ GE231.out) | exact HB.out)⟩
   ·replace c15 := Bool.eq_false_iff.mpr c15
    subst c15
    have H1 : (rialtoref20_Learn.l0 kj2 l0 ([] : List (S30)) false 0 a1_0 a1_1 a1_2 a1_3) = some (r1, r2) := by rw [if_neg (show ¬ (false = true) by decide)] at H; exact H
    clear H
    have H := H1
    clear H1
    have H' := Aside0.mk H
    clear H
    go_wp2
    go_loopg [6, 7, 8] kj2 (fun kq v6 v7 v8 w' => ∃ (x6_2 : List (S30)) (x7_2 : Bool) (x8_2 : Int), v7 = .bool x7_2 ∧ v8 = .int .i64 x8_2 ∧ Aside0 (rialtoref20_Learn.l0 kq l0 x6_2 x7_2 x8_2 a1_0 a1_1 a1_2 a1_3 = some (r1, r2)) ∧ Aside0 (kq ≤ kj2) ∧ Aside0 (Kd.R k30 30 w' w.heap.size (fun k_ => k_ ≠ gb231) v6 x6_2) ∧ Aside0 (w'.heap[gb231]? = some (.cells #[.int .i64 a1_0, .int .i64 a1_1, .int .i64 a1_2, .int .i64 a1_3] 30 (0, 0))) ∧ Aside0 (Below w.heap.size w w'))
    case atStart => exact ⟨(([] : List (S30))), (false), (0), (by first | rfl | (simp; done) | (simp [*]; done)), (by first | rfl | (simp; done) | (simp [*]; done)), H', ⟨Nat.le_refl _⟩, ⟨by first | exact Kd.R_nil _ _ _ _ _ | exact Kd.N_nil _ _ _ _ _ | exact Kd.V_nil _ _ _ _ _ | exact Kd.Q_nil _ _ _ _ _ | exact Kd.S_nil _ _ _ _ _⟩, ⟨by exact bk_ BK231.out⟩, ⟨by repeat (first | (with_reducible first | exact HB.out | apply below_alloc | apply pw_below_drewN | apply below_drew1 | refine below_set ?_ GE231.out) | exact HB.out)⟩⟩
    case round =>
     clear H'
     try clear c1
     try clear c2
     try clear p2
     try clear c4
     try clear c6
     try clear c15
     try clear hcz9_0
     try clear hcz9_1
     try clear hcz9_2
     try clear hcz9_3
     try clear hfz9_0
     try clear hfz9_1
     try clear hfz9_2
     try clear hfz9_3
     try clear p2
     obtain ⟨x6_2, x7_2, x8_2, rfl, rfl, HA, HK2, HO_6, BK231, HB⟩ := hrel
     cases gk with
     | zero => exact absurd HA.out (by simp [rialtoref20_Learn.l0])
     | succ k2 =>
      have H := HA.out
      clear HA
      simp only [rialtoref20_Learn.l0] at H
      by_cases c16 : x8_2 < (l0.length : Int)
      ·rw [if_pos c16] at H
       have c16b0 : decide (x8_2 < (l0.length : Int)) = true := decide_eq_true c16
       clear c16
       have HC17 := Aside0.mk H
       clear H
       go_upto_region 8 with (fail)
       go_cut [35] (fun v35 wc => ∃ (kq : Nat) (x35_16 : Bool), v35 = .bool x35_16 ∧ Aside0 (rialtoref20_Learn.j2 kq l0 x6_2 x7_2 x8_2 x35_16 a1_0 a1_1 a1_2 a1_3 = some (r1, r2)) ∧ Aside0 (kq ≤ k2) ∧ Aside0 (Kd.R k30 30 wc w.heap.size (fun k_ => k_ ≠ gb231) u6 x6_2) ∧ Aside0 (wc.heap[gb231]? = some (.cells #[.int .i64 a1_0, .int .i64 a1_1, .int .i64 a1_2, .int .i64 a1_3] 30 (0, 0))) ∧ Aside0 (Below w.heap.size w wc))
       case first =>
        have H := HC17.out
        clear HC17
        by_cases c18 : x7_2 = true
        ·subst c18
         have H1 : (rialtoref20_Learn.j2 k2 l0 x6_2 true x8_2 false a1_0 a1_1 a1_2 a1_3) = some (r1, r2) := by rw [if_pos rfl] at H; exact H
         clear H
         have H := H1
         clear H1
         have H' := Aside0.mk H
         clear H
         try go_wp2
         have n0_ := Aside0.mk (Kd.R_drew HO_6.out)
         have n1_ := Aside0.mk (blk_drew BK231.out)
         have n2_ := Aside0.mk (below_drew1 HB.out)
         clear HO_6
         clear BK231
         clear HB
         have HO_6 := n0_
         have BK231 := n1_
         have HB := n2_
         clear n0_ n1_ n2_
         refine start_ (n := 12) (S := fun w' => True) (ds := []) KnaaPx26_0 (by kernel_rfl) rfl rfl trivial (fun hHeld => ?_); refine with_tabW rialtoref20_Learn.tab8 rialtoref20_Learn.bits8 (fun HT_ HW_ => ?_)
         generalize wr.drew = w19 at HO_6 BK231 HB hHeld ⊢
         refine pure_ (i := 0) (N := some 24) (v := ?_) (a' := ?_) KnaaPx26_1 rfl rfl (any_of HT_.out (by kernel_rfl)) (fun _ _ _ h => h) (Or.inl ⟨by rfl, ?_⟩) ?_ ?_; rotate_left; focus (intro w'; go_simp; with_reducible rfl)
         rotate_left; focus (simp only [Act.put, List.setIfInBounds_toArray, List.set_cons_zero, List.set_cons_succ, i64_w, i32_w]; rfl)
         refine pure_ (i := 1) (N := some 25) (v := ?_) (a' := ?_) KnaaPx26_2 rfl rfl (any_of HT_.out (by kernel_rfl)) (fun _ _ _ h => h) (Or.inl ⟨by rfl, ?_⟩) ?_ ?_; rotate_left; focus (intro w'; go_simp; with_reducible rfl)
         rotate_left; focus (simp only [Act.put, List.setIfInBounds_toArray, List.set_cons_zero, List.set_cons_succ, i64_w, i32_w]; rfl)
         refine pure_ (i := 2) (N := some 26) (v := ?_) (a' := ?_) KnaaPx26_3 rfl rfl (any_of HT_.out (by kernel_rfl)) (fun _ _ _ h => h) (Or.inl ⟨by rfl, ?_⟩) ?_ ?_; rotate_left; focus (intro w'; go_simp; with_reducible rfl)
         rotate_left; focus (simp only [Act.put, List.setIfInBounds_toArray, List.set_cons_zero, List.set_cons_succ, i64_w, i32_w]; rfl)
         refine pure_ (i := 3) (N := some 27) (v := undef) (a' := ?_) KnaaPx26_4 rfl rfl (any_of HT_.out (by kernel_rfl)) (fun _ _ _ h => h) (Or.inr ⟨by rfl, rfl⟩) ?_ ?_; rotate_left; focus (simp only [Act.put, List.setIfInBounds_toArray, List.set_cons_zero, List.set_cons_succ, i64_w, i32_w]; rfl)
         refine pure_ (i := 4) (N := some 28) (v := undef) (a' := ?_) KnaaPx26_5 rfl rfl (any_of HT_.out (by kernel_rfl)) (fun _ _ _ h => h) (Or.inr ⟨by rfl, rfl⟩) ?_ ?_; rotate_left; focus (simp only [Act.put, List.setIfInBounds_toArray, List.set_cons_zero, List.set_cons_succ, i64_w, i32_w]; rfl)
         refine pure_ (i := 5) (N := some 29) (v := undef) (a' := ?_) KnaaPx26_6 rfl rfl (any_of HT_.out (by kernel_rfl)) (fun _ _ _ h => h) (Or.inr ⟨by rfl, rfl⟩) ?_ ?_; rotate_left; focus (simp only [Act.put, List.setIfInBounds_toArray, List.set_cons_zero, List.set_cons_succ, i64_w, i32_w]; rfl)
         refine pure_ (i := 6) (N := some 30) (v := undef) (a' := ?_) KnaaPx26_7 rfl rfl (any_of HT_.out (by kernel_rfl)) (fun _ _ _ h => h) (Or.inr ⟨by rfl, rfl⟩) ?_ ?_; rotate_left; focus (simp only [Act.put, List.setIfInBounds_toArray, List.set_cons_zero, List.set_cons_succ, i64_w, i32_w]; rfl)
         refine pure_ (i := 7) (N := some 31) (v := undef) (a' := ?_) KnaaPx26_8 rfl rfl (any_of HT_.out (by kernel_rfl)) (fun _ _ _ h => h) (Or.inr ⟨by rfl, rfl⟩) ?_ ?_; rotate_left; focus (simp only [Act.put, List.setIfInBounds_toArray, List.set_cons_zero, List.set_cons_succ, i64_w, i32_w]; rfl)
         refine pure_ (i := 8) (N := some 32) (v := undef) (a' := ?_) KnaaPx26_9 rfl rfl (any_of HT_.out (by kernel_rfl)) (fun _ _ _ h => h) (Or.inr ⟨by rfl, rfl⟩) ?_ ?_; rotate_left; focus (simp only [Act.put, List.setIfInBounds_toArray, List.set_cons_zero, List.set_cons_succ, i64_w, i32_w]; rfl)
         refine pure_ (i := 9) (N := some 33) (v := undef) (a' := ?_) KnaaPx26_10 rfl rfl (any_of HT_.out (by kernel_rfl)) (fun _ _ _ h => h) (Or.inr ⟨by rfl, rfl⟩) ?_ ?_; rotate_left; focus (simp only [Act.put, List.setIfInBounds_toArray, List.set_cons_zero, List.set_cons_succ, i64_w, i32_w]; rfl)
         refine pure_ (i := 10) (N := some 34) (v := undef) (a' := ?_) KnaaPx26_11 rfl rfl (any_of HT_.out (by kernel_rfl)) (fun _ _ _ h => h) (Or.inr ⟨by rfl, rfl⟩) ?_ ?_; rotate_left; focus (simp only [Act.put, List.setIfInBounds_toArray, List.set_cons_zero, List.set_cons_succ, i64_w, i32_w]; rfl)
         refine pure_ (i := 11) (N := some 35) (v := ?_) (a' := ?_) KnaaPx26_12 rfl rfl (any_of HT_.out (by kernel_rfl)) (fun _ _ _ h => h) (Or.inl ⟨by rfl, ?_⟩) ?_ ?_; rotate_left; focus (intro w'; go_simp; with_reducible rfl)
         rotate_left; focus (simp only [Act.put, List.setIfInBounds_toArray, List.set_cons_zero, List.set_cons_succ, i64_w, i32_w]; rfl)
         refine done_ (done_of HT_.out (by kernel_rfl)) ?_
         try go_wp2
         go_meet
         case rel => exact ⟨_, (false), (by first | rfl | (simp; done) | (simp [*]; done)), H', ⟨by have := HJ2.out; have := HK2.out; first | omega | exact Nat.le_refl _⟩, ⟨by exact rk_ HO_6.out⟩, ⟨by exact bk_ BK231.out⟩, ⟨by repeat (first | (with_reducible first | exact HB.out | apply below_alloc | apply pw_below_drewN | apply below_drew1 | refine below_set ?_ GE231.out) | exact HB.out)⟩⟩
        ·replace c18 := Bool.eq_false_iff.mpr c18
         subst c18
         have H1 : (if 0 ≤ x8_2 then ((rialtoref18_Less.f a1_0 a1_1 ((rd_T30 l0 x8_2).f0.f0) ((rd_T30 l0 x8_2).f0.f1)).bind fun t238 => (rialtoref20_Learn.j2 k2 l0 x6_2 false x8_2 t238 a1_0 a1_1 a1_2 a1_3)) else (none)) = some (r1, r2) := by rw [if_neg (show ¬ (false = true) by decide)] at H; exact H
         clear H
         have H := H1
         clear H1
         by_cases c20 : 0 ≤ x8_2
         ·rw [if_pos c20] at H
          have c20b0 : decide (0 ≤ x8_2) = true := decide_eq_true c20
          clear c20
          (first | rw [c20b0] | (simp only [i64_w, i32_w]; rw [c20b0]) | skip)
          replace H := Option.bind_eq_some_iff.mp H
          obtain ⟨t238, A210, H⟩ := H
          replace H : (rialtoref20_Learn.j2 k2 l0 x6_2 false x8_2 t238 a1_0 a1_1 a1_2 a1_3) = some (r1, r2) := H
          have A21 := Aside0.mk A210
          clear A210
          have H' := Aside0.mk H
          clear H
          try go_wp2
          have n0_ := Aside0.mk (Kd.R_drew HO_6.out)
          have n1_ := Aside0.mk (blk_drew BK231.out)
          have n2_ := Aside0.mk (below_drew1 HB.out)
          clear HO_6
          clear BK231
          clear HB
          have HO_6 := n0_
          have BK231 := n1_
          have HB := n2_
          clear n0_ n1_ n2_
          have p237 : 0 ≤ (x8_2 : Int) := of_decide_eq_true (by first | (with_reducible assumption) | assumption)
          have q237 : x8_2 < (l0.length : Int) := of_decide_eq_true (by first | (with_reducible assumption) | assumption)
          obtain ⟨ad237, e237, hx237_0, hx237_1, hx237_2, hx237_3⟩ := at_T30 HR0.out x8_2 p237 q237
          have hw237_3 := hx237_3
          have hw237_2 := hx237_2
          have hw237_1 := hx237_1
          have hw237_0 := hx237_0
          cases e237
          replace hx237_0 := (HB.out.cell (World.block_lt_of_cell? w _ hx237_0)).trans hx237_0
          replace hx237_1 := (HB.out.cell (World.block_lt_of_cell? w _ hx237_1)).trans hx237_1
          replace hx237_2 := (HB.out.cell (World.block_lt_of_cell? w _ hx237_2)).trans hx237_2
          replace hx237_3 := (HB.out.cell (World.block_lt_of_cell? w _ hx237_3)).trans hx237_3
          replace p237 := eq_true p237
          replace q237 := eq_true q237
          refine start_ (n := 12) (S := fun w' => w'.cell? ⟨gb231, 0, none⟩ = some (.int .i64 a1_0) ∧ w'.cell? ⟨gb231, 1, none⟩ = some (.int .i64 a1_1) ∧ w'.cell? ⟨gb231, 2, none⟩ = some (.int .i64 a1_2) ∧ w'.cell? ⟨gb231, 3, none⟩ = some (.int .i64 a1_3) ∧ w'.cell? (ad237.add ((x8_2).toNat * 4)) = some (.int .i64 ((rd_T30 l0 x8_2).f0.f0)) ∧ w'.cell? ⟨(ad237.add ((x8_2).toNat * 4)).block, (ad237.add ((x8_2).toNat * 4)).off + 1, none⟩ = some (.int .i64 ((rd_T30 l0 x8_2).f0.f1)) ∧ w'.cell? ⟨(ad237.add ((x8_2).toNat * 4)).block, (ad237.add ((x8_2).toNat * 4)).off + 2, none⟩ = some (.int .i64 ((rd_T30 l0 x8_2).f1)) ∧ w'.cell? ⟨(ad237.add ((x8_2).toNat * 4)).block, (ad237.add ((x8_2).toNat * 4)).off + 3, none⟩ = some (.int .i64 ((rd_T30 l0 x8_2).f2))) (ds := []) KnaaPx26_0 (by kernel_rfl) rfl rfl ⟨(blk_cell BK231.out 0).trans rfl, (blk_cell BK231.out 1).trans rfl, (blk_cell BK231.out 2).trans rfl, (blk_cell BK231.out 3).trans rfl, ((HB.out.cell (World.block_lt_of_cell? w _ hw237_0)).trans hw237_0), ((HB.out.cell (World.block_lt_of_cell? w _ hw237_1)).trans hw237_1), ((HB.out.cell (World.block_lt_of_cell? w _ hw237_2)).trans hw237_2), ((HB.out.cell (World.block_lt_of_cell? w _ hw237_3)).trans hw237_3)⟩ (fun hHeld => ?_); refine with_tabW rialtoref20_Learn.tab8 rialtoref20_Learn.bits8 (fun HT_ HW_ => ?_)
          generalize wr.drew = w22 at HO_6 BK231 HB hx237_0 hx237_1 hx237_2 hx237_3 hHeld ⊢
          refine pure_ (i := 0) (N := some 24) (v := ?_) (a' := ?_) KnaaPx26_1 rfl rfl (any_of HT_.out (by kernel_rfl)) (fun _ _ _ h => h) (Or.inl ⟨by rfl, ?_⟩) ?_ ?_; rotate_left; focus (intro w'; go_simp; with_reducible rfl)
          rotate_left; focus (simp only [Act.put, List.setIfInBounds_toArray, List.set_cons_zero, List.set_cons_succ, i64_w, i32_w]; rfl)
          refine pure_ (i := 1) (N := some 25) (v := ?_) (a' := ?_) KnaaPx26_2 rfl rfl (any_of HT_.out (by kernel_rfl)) (fun _ _ _ h => h) (Or.inl ⟨by rfl, ?_⟩) ?_ ?_; rotate_left; focus (intro w'; go_simp; with_reducible rfl)
          rotate_left; focus (simp only [Act.put, List.setIfInBounds_toArray, List.set_cons_zero, List.set_cons_succ, i64_w, i32_w]; rfl)
          refine pure_ (i := 2) (N := some 26) (v := ?_) (a' := ?_) KnaaPx26_3 rfl rfl (any_of HT_.out (by kernel_rfl)) (fun _ _ _ h => h) (Or.inl ⟨by rfl, ?_⟩) ?_ ?_; rotate_left; focus (intro w'; go_simp; with_reducible rfl)
          rotate_left; focus (simp only [Act.put, List.setIfInBounds_toArray, List.set_cons_zero, List.set_cons_succ, i64_w, i32_w]; rfl)
          refine pure_ (i := 3) (N := some 27) (v := ?_) (a' := ?_) KnaaPx26_4 rfl rfl (any_of HT_.out (by kernel_rfl)) (fun _ _ _ h => h) (Or.inl ⟨by rfl, ?_⟩) ?_ ?_; rotate_left; focus (intro w'; go_simp; with_reducible rfl)
          rotate_left; focus (simp only [Act.put, List.setIfInBounds_toArray, List.set_cons_zero, List.set_cons_succ, i64_w, i32_w]; rfl)
          refine pure_ (i := 5) (N := some 29) (v := ?_) (a' := ?_) KnaaPx26_13 rfl rfl (any_of HT_.out (by kernel_rfl)) (fun _ _ _ h => h) (Or.inl ⟨by rfl, ?_⟩) ?_ ?_; rotate_left; focus (intro w'; go_simp; with_reducible rfl)
          rotate_left; focus (simp only [Act.put, List.setIfInBounds_toArray, List.set_cons_zero, List.set_cons_succ, i64_w, i32_w]; rfl)
          refine pure_ (i := 6) (N := some 30) (v := ?_) (a' := ?_) KnaaPx26_14 rfl rfl (any_of HT_.out (by kernel_rfl)) (fun _ _ _ h => h) (Or.inl ⟨by rfl, ?_⟩) ?_ ?_; rotate_left; focus (intro w'; go_simp; with_reducible rfl)
          rotate_left; focus (simp only [Act.put, List.setIfInBounds_toArray, List.set_cons_zero, List.set_cons_succ, i64_w, i32_w]; rfl)
          refine pure_ (i := 7) (N := some 31) (v := ?_) (a' := ?_) KnaaPx26_15 rfl rfl (any_of HT_.out (by kernel_rfl)) (fun _ _ _ h => h) (Or.inl ⟨by rfl, ?_⟩) ?_ ?_; rotate_left; focus (intro w'; go_simp; with_reducible rfl)
          rotate_left; focus (simp only [Act.put, List.setIfInBounds_toArray, List.set_cons_zero, List.set_cons_succ, i64_w, i32_w]; rfl)
          refine pure_ (i := 8) (N := some 32) (v := ?_) (a' := ?_) KnaaPx26_16 rfl rfl (any_of HT_.out (by kernel_rfl)) (fun _ _ _ h => h) (Or.inl ⟨by rfl, ?_⟩) ?_ ?_; rotate_left; focus (intro w'; go_simp; with_reducible rfl)
          rotate_left; focus (simp only [Act.put, List.setIfInBounds_toArray, List.set_cons_zero, List.set_cons_succ, i64_w, i32_w]; rfl)
          refine take_ (i := 4) (N := some 28) (v := ?_) (a' := ?_) KnaaPx26_9 rfl rfl (take_ofW HT_.out HW_.out (by kernel_rfl)) (fun _ _ _ h => h) (Or.inl ⟨by rfl, ?_⟩) hHeld ?_ ?_; rotate_left; focus (rintro w' ⟨s0, s1, s2, s3, s4, s5, s6, s7⟩; go_simp; with_reducible rfl)
          rotate_left; focus (simp only [Act.put, List.setIfInBounds_toArray, List.set_cons_zero, List.set_cons_succ, i64_w, i32_w]; rfl)
          refine take_ (i := 9) (N := some 33) (v := ?_) (a' := ?_) KnaaPx26_10 rfl rfl (take_ofW HT_.out HW_.out (by kernel_rfl)) (fun _ _ _ h => h) (Or.inl ⟨by rfl, ?_⟩) hHeld ?_ ?_; rotate_left; focus (rintro w' ⟨s0, s1, s2, s3, s4, s5, s6, s7⟩; go_simp; with_reducible rfl)
          rotate_left; focus (simp only [Act.put, List.setIfInBounds_toArray, List.set_cons_zero, List.set_cons_succ, i64_w, i32_w]; rfl)
          refine one_ (i := 10) (N := some 34) KnaaPx26_11 rfl rfl (one_of HT_.out (by kernel_rfl)) (by decide) (fun K hK => ?_)
          refine goes_ Try.func25 (by kernel_rfl) rfl #[.agg #[.int .i64 a1_0, .int .i64 a1_1], .agg #[.int .i64 ((rd_T30 l0 x8_2).f0.f0), .int .i64 ((rd_T30 l0 x8_2).f0.f1)]] (by rfl) rfl rfl (by (try simp only [List.map_toArray, List.map_cons, List.map_nil]); first | done | rfl | (simp only [List.length_drop, List.length_take]; rfl)) ?_
          with_reducible refine (rialtoref18_Less.calls a1_0 a1_1 ((rd_T30 l0 x8_2).f0.f0) ((rd_T30 l0 x8_2).f0.f1) t238 _ A21.out).mono ?_
          rintro e w23 ⟨rfl, hb⟩
          refine ⟨_, rfl, ?_⟩
          have n0_ := Aside0.mk (Kd.R_below (by exact rk_ HO_6.out) hb)
          have n1_ := Aside0.mk (blk_below (g := gb231) (o := .cells #[.int .i64 a1_0, .int .i64 a1_1, .int .i64 a1_2, .int .i64 a1_3] 30 (0, 0)) (by exact bk_ BK231.out) hb)
          have n2_ := Aside0.mk (below_step (by repeat (first | (with_reducible first | exact HB.out | apply below_alloc | apply pw_below_drewN | apply below_drew1 | refine below_set ?_ GE231.out) | exact HB.out)) hb)
          clear HO_6
          clear BK231
          clear HB
          have HO_6 := n0_
          have BK231 := n1_
          have HB := n2_
          clear n0_ n1_ n2_
          (try clear hb)
          (try clear hb2)
          (try clear hk)
          (try clear hi)
          refine hK.out _ _ ⟨(blk_cell BK231.out 0).trans rfl, (blk_cell BK231.out 1).trans rfl, (blk_cell BK231.out 2).trans rfl, (blk_cell BK231.out 3).trans rfl, ((HB.out.cell (World.block_lt_of_cell? w _ hw237_0)).trans hw237_0), ((HB.out.cell (World.block_lt_of_cell? w _ hw237_1)).trans hw237_1), ((HB.out.cell (World.block_lt_of_cell? w _ hw237_2)).trans hw237_2), ((HB.out.cell (World.block_lt_of_cell? w _ hw237_3)).trans hw237_3)⟩ (fun hHeld => ?_)
          clear hK K
          refine norm_ (a' := ?_) ?_ ?_
          rotate_left
          ·show Act.put _ (some 34) _ = _
           simp only [Act.put, List.setIfInBounds_toArray, List.set_cons_zero, List.set_cons_succ, i64_w, i32_w]
           rfl
          refine pure_ (i := 11) (N := some 35) (v := ?_) (a' := ?_) KnaaPx26_12 rfl rfl (any_of HT_.out (by kernel_rfl)) (fun _ _ _ h => h) (Or.inl ⟨by rfl, ?_⟩) ?_ ?_; rotate_left; focus (intro w'; go_simp; with_reducible rfl)
          rotate_left; focus (simp only [Act.put, List.setIfInBounds_toArray, List.set_cons_zero, List.set_cons_succ, i64_w, i32_w]; rfl)
          refine done_ (done_of HT_.out (by kernel_rfl)) ?_
          try go_wp2
          go_meet
          case rel => exact ⟨_, (t238), (by first | rfl | (simp; done) | (simp [*]; done)), H', ⟨by have := HJ2.out; have := HK2.out; first | omega | exact Nat.le_refl _⟩, ⟨by exact rk_ HO_6.out⟩, ⟨by exact bk_ BK231.out⟩, ⟨by repeat (first | (with_reducible first | exact HB.out | apply below_alloc | apply pw_below_drewN | apply below_drew1 | refine below_set ?_ GE231.out) | exact HB.out)⟩⟩
         ·rw [if_neg c20] at H
          exact absurd H (by simp)
       case rest =>
        clear HC17
        try clear c1
        try clear c2
        try clear p2
        try clear q2
        try clear hx2
        try clear c4
        try clear c6
        try clear c15
        try clear c16
        try clear c16b0
        try clear c18
        try clear c20
        try clear c20b0
        try clear c22
        try clear p23
        try clear q23
        try clear hx23
        try clear hcz9_0
        try clear hcz9_1
        try clear hcz9_2
        try clear hcz9_3
        try clear hfz9_0
        try clear hfz9_1
        try clear hfz9_2
        try clear hfz9_3
        try clear hx237_0
        try clear hx237_1
        try clear hx237_2
        try clear hx237_3
        try clear p2
        try clear p237
        try clear q237
        obtain ⟨kq, x35_16, rfl, HA, HJ16, HO_6, BK231, HB⟩ := hcut
        cases kq with
        | zero => exact absurd HA.out (by simp [rialtoref20_Learn.j2])
        | succ kj16 =>
         have H := HA.out
         clear HA
         simp only [rialtoref20_Learn.j2] at H
         have HC24 := Aside0.mk H
         clear H
         go_upto_if 35 with (fail)
         go_cut [6, 7] (fun v6 v7 wc => ∃ (kq : Nat) (x6_23 : List (S30)) (x7_23 : Bool), v7 = .bool x7_23 ∧ Aside0 (rialtoref20_Learn.j3 kq l0 x6_23 x7_23 x8_2 a1_0 a1_1 a1_2 a1_3 = some (r1, r2)) ∧ Aside0 (kq ≤ kj16) ∧ Aside0 (Kd.R k30 30 wc w.heap.size (fun k_ => k_ ≠ gb231) v6 x6_23) ∧ Aside0 (wc.heap[gb231]? = some (.cells #[.int .i64 a1_0, .int .i64 a1_1, .int .i64 a1_2, .int .i64 a1_3] 30 (0, 0))) ∧ Aside0 (Below w.heap.size w wc))
         case first =>
          have H := HC24.out
          clear HC24
          by_cases c25 : x35_16 = true
          ·subst c25
           have H1 : (if x6_2.length < 4398046511104 then (rialtoref20_Learn.j3 kj16 l0 (x6_2 ++ [(⟨(⟨a1_0, a1_1⟩ : S24), a1_2, a1_3⟩ : S30)]) true x8_2 a1_0 a1_1 a1_2 a1_3) else (none)) = some (r1, r2) := by rw [if_pos rfl] at H; exact H
           clear H
           have H := H1
           clear H1
           by_cases c26 : x6_2.length < 4398046511104
           ·rw [if_pos c26] at H
            have LMc26 := Aside0.mk c26
            clear c26
            obtain ⟨y239, hy239⟩ : ∃ y_ : List (S30), y_ = (x6_2 ++ [(⟨(⟨a1_0, a1_1⟩ : S24), a1_2, a1_3⟩ : S30)]) := ⟨_, rfl⟩
            replace H : (rialtoref20_Learn.j3 kj16 l0 y239 true x8_2 a1_0 a1_1 a1_2 a1_3) = some (r1, r2) := by first | (rw [hy239]; with_reducible exact H) | (have H2_ := (Option.bind_some _ _).symm.trans H; rw [hy239]; with_reducible exact H2_) | (have H2_ := (Option.bind_some _ _).symm.trans H; with_reducible exact H2_) | with_reducible exact H | (rw [hy239]; exact H) | exact H
            have Ny239 := Aside0.mk hy239
            clear hy239
            have H' := Aside0.mk H
            clear H
            have hcz27_0 : wc.cell? ⟨gb231, 0, none⟩ = some (.int .i64 a1_0) := (blk_cell BK231.out 0).trans rfl
            have hcz27_1 : wc.cell? ⟨gb231, 1, none⟩ = some (.int .i64 a1_1) := (blk_cell BK231.out 1).trans rfl
            have hcz27_2 : wc.cell? ⟨gb231, 2, none⟩ = some (.int .i64 a1_2) := (blk_cell BK231.out 2).trans rfl
            have hcz27_3 : wc.cell? ⟨gb231, 3, none⟩ = some (.int .i64 a1_3) := (blk_cell BK231.out 3).trans rfl
            have hfz27_0 := blk_frozen BK231.out 0
            have hfz27_1 := blk_frozen BK231.out 1
            have hfz27_2 := blk_frozen BK231.out 2
            have hfz27_3 := blk_frozen BK231.out 3
            go_wp2_with (first | ((with_reducible refine gate_builtin (b := .append) (xs := #[.tmp 36, .tmp 38]) rfl ?_); (try (refine gate_guard (by rfl) ?_; dsimp only)); at_builtin; refine Kd.R_append k30 (w0 := w) w.heap.size rfl (.tmp 36) (.tmp 38) 22 30 (.agg #[(.int .i64 0), (.int .i64 0), (.int .i64 0), (.int .i64 0)]) 32 rfl Try.underlying22 info30 rfl (by decide) (by omega) u6 x6_2 (⟨(⟨a1_0, a1_1⟩ : S24), a1_2, a1_3⟩ : S30) [.int .i64 a1_0, .int .i64 a1_1, .int .i64 a1_2, .int .i64 a1_3] (fun k_ => k_ ≠ gb231) (fun _ => False) rfl rfl ?aP (fun _ hk => hk.elim) ?aF ?aO ?aB ?aS ?aL ?_; (case aP => exact k30_mkM _ _ _ (⟨(⟨a1_0, a1_1⟩ : S24), a1_2, a1_3⟩ : S30)); (case aB => exact (by repeat (first | (with_reducible first | exact HB.out | apply below_alloc | apply pw_below_drewN | apply below_drew1 | refine below_set ?_ GE231.out) | exact HB.out))); (case aF => exact (fun k_ hk => Kd.freshB (g := gb231) (o := .cells #[.int .i64 a1_0, .int .i64 a1_1, .int .i64 a1_2, .int .i64 a1_3] 30 (0, 0)) (by exact bk_ BK231.out) k_ hk)); (case aO => exact (by exact rk_ HO_6.out)); (case aS => exact (below_size (by repeat (first | (with_reducible first | exact HB.out | apply below_alloc | apply pw_below_drewN | apply below_drew1 | refine below_set ?_ GE231.out) | exact HB.out)))); (case aL => have := LMc26.out; omega); intro v240 w28 ho hb hg hat; rw [← Ny239.out] at ho; have n0_ := Aside0.mk (blk_grown (g := gb231) (o := .cells #[.int .i64 a1_0, .int .i64 a1_1, .int .i64 a1_2, .int .i64 a1_3] 30 (0, 0)) (by exact bk_ BK231.out) hg (Kd.R_away HO_6.out (fun _ hk => hk))); have n1_ := Aside0.mk (hb); have n2_ := Aside0.mk (ho); clear BK231; clear HB; clear HO_6; have BK231 := n0_; have HB := n1_; have HO241 := n2_; clear n0_ n1_ n2_; clear ho hb hg hat))
            go_meet
            case rel => exact ⟨_, (y239), (true), (by first | rfl | (simp; done) | (simp [*]; done)), H', ⟨by have := HJ2.out; have := HK2.out; have := HJ16.out; first | omega | exact Nat.le_refl _⟩, ⟨by exact rk_ HO241.out⟩, ⟨by exact bk_ BK231.out⟩, ⟨by repeat (first | (with_reducible first | exact HB.out | apply below_alloc | apply pw_below_drewN | apply below_drew1 | refine below_set ?_ GE231.out) | exact HB.out)⟩⟩
           ·rw [if_neg c26] at H
            exact absurd H (by simp)
          ·replace c25 := Bool.eq_false_iff.mpr c25
           subst c25
           have H1 : (rialtoref20_Learn.j3 kj16 l0 x6_2 x7_2 x8_2 a1_0 a1_1 a1_2 a1_3) = some (r1, r2) := by rw [if_neg (show ¬ (false = true) by decide)] at H; exact H
           clear H
           have H := H1
           clear H1
           have H' := Aside0.mk H
           clear H
           go_wp2
           go_meet
           case rel => exact ⟨_, (x6_2), (x7_2), (by first | rfl | (simp; done) | (simp [*]; done)), H', ⟨by have := HJ2.out; have := HK2.out; have := HJ16.out; first | omega | exact Nat.le_refl _⟩, ⟨by exact rk_ HO_6.out⟩, ⟨by exact bk_ BK231.out⟩, ⟨by repeat (first | (with_reducible first | exact HB.out | apply below_alloc | apply pw_below_drewN | apply below_drew1 | refine below_set ?_ GE231.out) | exact HB.out)⟩⟩
         case rest =>
          clear HC24
          try clear c1
          try clear c2
          try clear p2
          try clear q2
          try clear hx2
          try clear c4
          try clear c6
          try clear c15
          try clear c16
          try clear c16b0
          try clear c18
          try clear c20
          try clear c20b0
          try clear c22
          try clear p23
          try clear q23
          try clear hx23
          try clear c25
          try clear c26
          try clear hcz27_0
          try clear hcz27_1
          try clear hcz27_2
          try clear hcz27_3
          try clear hcz9_0
          try clear hcz9_1
          try clear hcz9_2
          try clear hcz9_3
          try clear hfz27_0
          try clear hfz27_1
          try clear hfz27_2
          try clear hfz27_3
          try clear hfz9_0
          try clear hfz9_1
          try clear hfz9_2
          try clear hfz9_3
          try clear hx237_0
          try clear hx237_1
          try clear hx237_2
          try clear hx237_3
          try clear p2
          try clear p23
          try clear p237
          try clear q2
          try clear q23
          try clear q237
          obtain ⟨kq, x6_23, x7_23, rfl, HA, HJ23, HO_6, BK231, HB⟩ := hcut
          cases kq with
          | zero => exact absurd HA.out (by simp [rialtoref20_Learn.j3])
          | succ kj23 =>
           have H := HA.out
           clear HA
           simp only [rialtoref20_Learn.j3] at H
           by_cases c29 : 0 ≤ x8_2
           ·rw [if_pos c29] at H
            have c29b0 : decide (0 ≤ x8_2) = true := decide_eq_true c29
            clear c29
            by_cases c30 : x8_2 < (l0.length : Int)
            ·rw [if_pos c30] at H
             have c30b0 : decide (x8_2 < (l0.length : Int)) = true := decide_eq_true c30
             clear c30
             by_cases c31 : (((rd_T30 l0 x8_2).f0.f0) == a1_0 && (((rd_T30 l0 x8_2).f0.f1) == a1_1)) = true
             ·rw [if_pos c31] at H
              have c31b0 : (((rd_T30 l0 x8_2).f0.f0) == a1_0 && (((rd_T30 l0 x8_2).f0.f1) == a1_1)) = true := c31
              (try (have c31b1 : decide (((rd_T30 l0 x8_2).f0.f0) = a1_0 && (((rd_T30 l0 x8_2).f0.f1) == a1_1)) = true := by simpa using c31))
              (try (have c31b2 : (((rd_T30 l0 x8_2).f0.f0) == a1_0 && (((rd_T30 l0 x8_2).f0.f1) == a1_1)) = true := by simpa using c31))
              clear c31
              by_cases c32 : a1_3 > ((rd_T30 l0 x8_2).f2)
              ·rw [if_pos c32] at H
               have c32b0 : decide (((rd_T30 l0 x8_2).f2) < a1_3) = true := decide_eq_true c32
               clear c32
               by_cases c33 : x6_23.length < 4398046511104
               ·rw [if_pos c33] at H
                have LMc33 := Aside0.mk c33
                clear c33
                obtain ⟨y244, hy244⟩ : ∃ y_ : List (S30), y_ = (x6_23 ++ [(⟨(⟨a1_0, a1_1⟩ : S24), a1_2, a1_3⟩ : S30)]) := ⟨_, rfl⟩
                replace H : (rialtoref20_Learn.l0 kj23 l0 y244 true (wrap64 (x8_2 + 1)) a1_0 a1_1 a1_2 a1_3) = some (r1, r2) := by first | (rw [hy244]; with_reducible exact H) | (have H2_ := (Option.bind_some _ _).symm.trans H; rw [hy244]; with_reducible exact H2_) | (have H2_ := (Option.bind_some _ _).symm.trans H; with_reducible exact H2_) | with_reducible exact H | (rw [hy244]; exact H) | exact H
                have Ny244 := Aside0.mk hy244
                clear hy244
                have H' := Aside0.mk H
                clear H
                try go_wp2
                have n0_ := Aside0.mk (Kd.R_drew HO_6.out)
                have n1_ := Aside0.mk (blk_drew BK231.out)
                have n2_ := Aside0.mk (below_drew1 HB.out)
                clear HO_6
                clear BK231
                clear HB
                have HO_6 := n0_
                have BK231 := n1_
                have HB := n2_
                clear n0_ n1_ n2_
                have p242 : 0 ≤ (x8_2 : Int) := of_decide_eq_true (by first | (with_reducible assumption) | assumption)
                have q242 : x8_2 < (l0.length : Int) := of_decide_eq_true (by first | (with_reducible assumption) | assumption)
                obtain ⟨ad242, e242, hx242_0, hx242_1, hx242_2, hx242_3⟩ := at_T30 HR0.out x8_2 p242 q242
                have hw242_3 := hx242_3
                have hw242_2 := hx242_2
                have hw242_1 := hx242_1
                have hw242_0 := hx242_0
                cases e242
                replace hx242_0 := (HB.out.cell (World.block_lt_of_cell? w _ hx242_0)).trans hx242_0
                replace hx242_1 := (HB.out.cell (World.block_lt_of_cell? w _ hx242_1)).trans hx242_1
                replace hx242_2 := (HB.out.cell (World.block_lt_of_cell? w _ hx242_2)).trans hx242_2
                replace hx242_3 := (HB.out.cell (World.block_lt_of_cell? w _ hx242_3)).trans hx242_3
                replace p242 := eq_true p242
                replace q242 := eq_true q242
                refine start_ (n := 8) (S := fun w' => w'.cell? ⟨gb231, 0, none⟩ = some (.int .i64 a1_0) ∧ w'.cell? ⟨gb231, 1, none⟩ = some (.int .i64 a1_1) ∧ w'.cell? ⟨gb231, 2, none⟩ = some (.int .i64 a1_2) ∧ w'.cell? ⟨gb231, 3, none⟩ = some (.int .i64 a1_3) ∧ w'.cell? (ad242.add ((x8_2).toNat * 4)) = some (.int .i64 ((rd_T30 l0 x8_2).f0.f0)) ∧ w'.cell? ⟨(ad242.add ((x8_2).toNat * 4)).block, (ad242.add ((x8_2).toNat * 4)).off + 1, none⟩ = some (.int .i64 ((rd_T30 l0 x8_2).f0.f1)) ∧ w'.cell? ⟨(ad242.add ((x8_2).toNat * 4)).block, (ad242.add ((x8_2).toNat * 4)).off + 2, none⟩ = some (.int .i64 ((rd_T30 l0 x8_2).f1)) ∧ w'.cell? ⟨(ad242.add ((x8_2).toNat * 4)).block, (ad242.add ((x8_2).toNat * 4)).off + 3, none⟩ = some (.int .i64 ((rd_T30 l0 x8_2).f2))) (ds := []) KnaaPx26_17 (by kernel_rfl) rfl rfl ⟨(blk_cell BK231.out 0).trans rfl, (blk_cell BK231.out 1).trans rfl, (blk_cell BK231.out 2).trans rfl, (blk_cell BK231.out 3).trans rfl, ((HB.out.cell (World.block_lt_of_cell? w _ hw242_0)).trans hw242_0), ((HB.out.cell (World.block_lt_of_cell? w _ hw242_1)).trans hw242_1), ((HB.out.cell (World.block_lt_of_cell? w _ hw242_2)).trans hw242_2), ((HB.out.cell (World.block_lt_of_cell? w _ hw242_3)).trans hw242_3)⟩ (fun hHeld => ?_); refine with_tabW rialtoref20_Learn.tab11 rialtoref20_Learn.bits11 (fun HT_ HW_ => ?_)
                generalize wc.drew = w34 at HO_6 BK231 HB hx242_0 hx242_1 hx242_2 hx242_3 hHeld ⊢
                refine pure_ (i := 0) (N := some 40) (v := ?_) (a' := ?_) KnaaPx26_18 rfl rfl (any_of HT_.out (by kernel_rfl)) (fun _ _ _ h => h) (Or.inl ⟨by rfl, ?_⟩) ?_ ?_; rotate_left; focus (intro w'; go_simp; with_reducible rfl)
                rotate_left; focus (simp only [Act.put, List.setIfInBounds_toArray, List.set_cons_zero, List.set_cons_succ, i64_w, i32_w]; rfl)
                refine pure_ (i := 1) (N := some 41) (v := ?_) (a' := ?_) KnaaPx26_19 rfl rfl (any_of HT_.out (by kernel_rfl)) (fun _ _ _ h => h) (Or.inl ⟨by rfl, ?_⟩) ?_ ?_; rotate_left; focus (intro w'; go_simp; with_reducible rfl)
                rotate_left; focus (simp only [Act.put, List.setIfInBounds_toArray, List.set_cons_zero, List.set_cons_succ, i64_w, i32_w]; rfl)
                refine pure_ (i := 2) (N := some 42) (v := ?_) (a' := ?_) KnaaPx26_20 rfl rfl (any_of HT_.out (by kernel_rfl)) (fun _ _ _ h => h) (Or.inl ⟨by rfl, ?_⟩) ?_ ?_; rotate_left; focus (intro w'; go_simp; with_reducible rfl)
                rotate_left; focus (simp only [Act.put, List.setIfInBounds_toArray, List.set_cons_zero, List.set_cons_succ, i64_w, i32_w]; rfl)
                refine pure_ (i := 3) (N := some 43) (v := ?_) (a' := ?_) KnaaPx26_21 rfl rfl (any_of HT_.out (by kernel_rfl)) (fun _ _ _ h => h) (Or.inl ⟨by rfl, ?_⟩) ?_ ?_; rotate_left; focus (intro w'; go_simp; with_reducible rfl)
                rotate_left; focus (simp only [Act.put, List.setIfInBounds_toArray, List.set_cons_zero, List.set_cons_succ, i64_w, i32_w]; rfl)
                refine pure_ (i := 5) (N := some 45) (v := ?_) (a' := ?_) KnaaPx26_22 rfl rfl (any_of HT_.out (by kernel_rfl)) (fun _ _ _ h => h) (Or.inl ⟨by rfl, ?_⟩) ?_ ?_; rotate_left; focus (intro w'; go_simp; with_reducible rfl)
                rotate_left; focus (simp only [Act.put, List.setIfInBounds_toArray, List.set_cons_zero, List.set_cons_succ, i64_w, i32_w]; rfl)
                refine take_ (i := 4) (N := some 44) (v := ?_) (a' := ?_) KnaaPx26_23 rfl rfl (take_ofW HT_.out HW_.out (by kernel_rfl)) (fun _ _ _ h => h) (Or.inl ⟨by rfl, ?_⟩) hHeld ?_ ?_; rotate_left; focus (rintro w' ⟨s0, s1, s2, s3, s4, s5, s6, s7⟩; go_simp; with_reducible rfl)
                rotate_left; focus (simp only [Act.put, List.setIfInBounds_toArray, List.set_cons_zero, List.set_cons_succ, i64_w, i32_w]; rfl)
                refine take_ (i := 6) (N := some 46) (v := ?_) (a' := ?_) KnaaPx26_24 rfl rfl (take_ofW HT_.out HW_.out (by kernel_rfl)) (fun _ _ _ h => h) (Or.inl ⟨by rfl, ?_⟩) hHeld ?_ ?_; rotate_left; focus (rintro w' ⟨s0, s1, s2, s3, s4, s5, s6, s7⟩; go_simp; with_reducible rfl)
                rotate_left; focus (simp only [Act.put, List.setIfInBounds_toArray, List.set_cons_zero, List.set_cons_succ, i64_w, i32_w]; rfl)
                refine pure_ (i := 7) (N := some 47) (v := ?_) (a' := ?_) KnaaPx26_25 rfl rfl (any_of HT_.out (by kernel_rfl)) (fun _ _ _ h => h) (Or.inl ⟨by rfl, ?_⟩) ?_ ?_; rotate_left; focus (intro w'; go_simp; with_reducible rfl)
                rotate_left; focus (simp only [Act.put, List.setIfInBounds_toArray, List.set_cons_zero, List.set_cons_succ, i64_w, i32_w]; rfl)
                refine done_ (done_of HT_.out (by kernel_rfl)) ?_
                try go_wp2
                have n0_ := Aside0.mk (Kd.R_drew HO_6.out)
                have n1_ := Aside0.mk (blk_drew BK231.out)
                have n2_ := Aside0.mk (below_drew1 HB.out)
                clear HO_6
                clear BK231
                clear HB
                have HO_6 := n0_
                have BK231 := n1_
                have HB := n2_
                clear n0_ n1_ n2_
                have p243 : 0 ≤ (x8_2 : Int) := of_decide_eq_true (by first | (with_reducible assumption) | assumption)
                have q243 : x8_2 < (l0.length : Int) := of_decide_eq_true (by first | (with_reducible assumption) | assumption)
                obtain ⟨ad243, e243, hx243_0, hx243_1, hx243_2, hx243_3⟩ := at_T30 HR0.out x8_2 p243 q243
                have hw243_3 := hx243_3
                have hw243_2 := hx243_2
                have hw243_1 := hx243_1
                have hw243_0 := hx243_0
                obtain rfl : ad242 = ad243 := (by injection e243)
                replace hx243_0 := (HB.out.cell (World.block_lt_of_cell? w _ hx243_0)).trans hx243_0
                replace hx243_1 := (HB.out.cell (World.block_lt_of_cell? w _ hx243_1)).trans hx243_1
                replace hx243_2 := (HB.out.cell (World.block_lt_of_cell? w _ hx243_2)).trans hx243_2
                replace hx243_3 := (HB.out.cell (World.block_lt_of_cell? w _ hx243_3)).trans hx243_3
                replace p243 := eq_true p243
                replace q243 := eq_true q243
                refine start_ (n := 8) (S := fun w' => w'.cell? ⟨gb231, 0, none⟩ = some (.int .i64 a1_0) ∧ w'.cell? ⟨gb231, 1, none⟩ = some (.int .i64 a1_1) ∧ w'.cell? ⟨gb231, 2, none⟩ = some (.int .i64 a1_2) ∧ w'.cell? ⟨gb231, 3, none⟩ = some (.int .i64 a1_3) ∧ w'.cell? (ad242.add ((x8_2).toNat * 4)) = some (.int .i64 ((rd_T30 l0 x8_2).f0.f0)) ∧ w'.cell? ⟨(ad242.add ((x8_2).toNat * 4)).block, (ad242.add ((x8_2).toNat * 4)).off + 1, none⟩ = some (.int .i64 ((rd_T30 l0 x8_2).f0.f1)) ∧ w'.cell? ⟨(ad242.add ((x8_2).toNat * 4)).block, (ad242.add ((x8_2).toNat * 4)).off + 2, none⟩ = some (.int .i64 ((rd_T30 l0 x8_2).f1)) ∧ w'.cell? ⟨(ad242.add ((x8_2).toNat * 4)).block, (ad242.add ((x8_2).toNat * 4)).off + 3, none⟩ = some (.int .i64 ((rd_T30 l0 x8_2).f2))) (ds := []) KnaaPx26_17 (by kernel_rfl) rfl rfl ⟨(blk_cell BK231.out 0).trans rfl, (blk_cell BK231.out 1).trans rfl, (blk_cell BK231.out 2).trans rfl, (blk_cell BK231.out 3).trans rfl, ((HB.out.cell (World.block_lt_of_cell? w _ hw243_0)).trans hw243_0), ((HB.out.cell (World.block_lt_of_cell? w _ hw243_1)).trans hw243_1), ((HB.out.cell (World.block_lt_of_cell? w _ hw243_2)).trans hw243_2), ((HB.out.cell (World.block_lt_of_cell? w _ hw243_3)).trans hw243_3)⟩ (fun hHeld => ?_); refine with_tabW rialtoref20_Learn.tab13 rialtoref20_Learn.bits13 (fun HT_ HW_ => ?_)
                generalize w34.drew = w35 at HO_6 BK231 HB hx243_0 hx243_1 hx243_2 hx243_3 hHeld ⊢
                refine pure_ (i := 0) (N := some 48) (v := ?_) (a' := ?_) KnaaPx26_18 rfl rfl (any_of HT_.out (by kernel_rfl)) (fun _ _ _ h => h) (Or.inl ⟨by rfl, ?_⟩) ?_ ?_; rotate_left; focus (intro w'; go_simp; with_reducible rfl)
                rotate_left; focus (simp only [Act.put, List.setIfInBounds_toArray, List.set_cons_zero, List.set_cons_succ, i64_w, i32_w]; rfl)
                refine pure_ (i := 2) (N := some 50) (v := ?_) (a' := ?_) KnaaPx26_26 rfl rfl (any_of HT_.out (by kernel_rfl)) (fun _ _ _ h => h) (Or.inl ⟨by rfl, ?_⟩) ?_ ?_; rotate_left; focus (intro w'; go_simp; with_reducible rfl)
                rotate_left; focus (simp only [Act.put, List.setIfInBounds_toArray, List.set_cons_zero, List.set_cons_succ, i64_w, i32_w]; rfl)
                refine pure_ (i := 3) (N := some 51) (v := ?_) (a' := ?_) KnaaPx26_27 rfl rfl (any_of HT_.out (by kernel_rfl)) (fun _ _ _ h => h) (Or.inl ⟨by rfl, ?_⟩) ?_ ?_; rotate_left; focus (intro w'; go_simp; with_reducible rfl)
                rotate_left; focus (simp only [Act.put, List.setIfInBounds_toArray, List.set_cons_zero, List.set_cons_succ, i64_w, i32_w]; rfl)
                refine pure_ (i := 4) (N := some 52) (v := ?_) (a' := ?_) KnaaPx26_28 rfl rfl (any_of HT_.out (by kernel_rfl)) (fun _ _ _ h => h) (Or.inl ⟨by rfl, ?_⟩) ?_ ?_; rotate_left; focus (intro w'; go_simp; with_reducible rfl)
                rotate_left; focus (simp only [Act.put, List.setIfInBounds_toArray, List.set_cons_zero, List.set_cons_succ, i64_w, i32_w]; rfl)
                refine pure_ (i := 5) (N := some 53) (v := ?_) (a' := ?_) KnaaPx26_29 rfl rfl (any_of HT_.out (by kernel_rfl)) (fun _ _ _ h => h) (Or.inl ⟨by rfl, ?_⟩) ?_ ?_; rotate_left; focus (intro w'; go_simp; with_reducible rfl)
                rotate_left; focus (simp only [Act.put, List.setIfInBounds_toArray, List.set_cons_zero, List.set_cons_succ, i64_w, i32_w]; rfl)
                refine take_ (i := 1) (N := some 49) (v := ?_) (a' := ?_) KnaaPx26_23 rfl rfl (take_ofW HT_.out HW_.out (by kernel_rfl)) (fun _ _ _ h => h) (Or.inl ⟨by rfl, ?_⟩) hHeld ?_ ?_; rotate_left; focus (rintro w' ⟨s0, s1, s2, s3, s4, s5, s6, s7⟩; go_simp; with_reducible rfl)
                rotate_left; focus (simp only [Act.put, List.setIfInBounds_toArray, List.set_cons_zero, List.set_cons_succ, i64_w, i32_w]; rfl)
                refine take_ (i := 6) (N := some 54) (v := ?_) (a' := ?_) KnaaPx26_24 rfl rfl (take_ofW HT_.out HW_.out (by kernel_rfl)) (fun _ _ _ h => h) (Or.inl ⟨by rfl, ?_⟩) hHeld ?_ ?_; rotate_left; focus (rintro w' ⟨s0, s1, s2, s3, s4, s5, s6, s7⟩; go_simp; with_reducible rfl)
                rotate_left; focus (simp only [Act.put, List.setIfInBounds_toArray, List.set_cons_zero, List.set_cons_succ, i64_w, i32_w]; rfl)
                refine pure_ (i := 7) (N := some 55) (v := ?_) (a' := ?_) KnaaPx26_25 rfl rfl (any_of HT_.out (by kernel_rfl)) (fun _ _ _ h => h) (Or.inl ⟨by rfl, ?_⟩) ?_ ?_; rotate_left; focus (intro w'; go_simp; with_reducible rfl)
                rotate_left; focus (simp only [Act.put, List.setIfInBounds_toArray, List.set_cons_zero, List.set_cons_succ, i64_w, i32_w]; rfl)
                refine done_ (done_of HT_.out (by kernel_rfl)) ?_
                have hcz36_0 : w35.cell? ⟨gb231, 0, none⟩ = some (.int .i64 a1_0) := (blk_cell BK231.out 0).trans rfl
                have hcz36_1 : w35.cell? ⟨gb231, 1, none⟩ = some (.int .i64 a1_1) := (blk_cell BK231.out 1).trans rfl
                have hcz36_2 : w35.cell? ⟨gb231, 2, none⟩ = some (.int .i64 a1_2) := (blk_cell BK231.out 2).trans rfl
                have hcz36_3 : w35.cell? ⟨gb231, 3, none⟩ = some (.int .i64 a1_3) := (blk_cell BK231.out 3).trans rfl
                have hfz36_0 := blk_frozen BK231.out 0
                have hfz36_1 := blk_frozen BK231.out 1
                have hfz36_2 := blk_frozen BK231.out 2
                have hfz36_3 := blk_frozen BK231.out 3
                try go_wp2_with (first | ((with_reducible refine gate_builtin (b := .append) (xs := #[.tmp 56, .tmp 58]) rfl ?_); (try (refine gate_guard (by rfl) ?_; dsimp only)); at_builtin; refine Kd.R_append k30 (w0 := w) w.heap.size rfl (.tmp 56) (.tmp 58) 22 30 (.agg #[(.int .i64 0), (.int .i64 0), (.int .i64 0), (.int .i64 0)]) 32 rfl Try.underlying22 info30 rfl (by decide) (by omega) u6 x6_23 (⟨(⟨a1_0, a1_1⟩ : S24), a1_2, a1_3⟩ : S30) [.int .i64 a1_0, .int .i64 a1_1, .int .i64 a1_2, .int .i64 a1_3] (fun k_ => k_ ≠ gb231) (fun _ => False) rfl rfl ?aP (fun _ hk => hk.elim) ?aF ?aO ?aB ?aS ?aL ?_; (case aP => exact k30_mkM _ _ _ (⟨(⟨a1_0, a1_1⟩ : S24), a1_2, a1_3⟩ : S30)); (case aB => exact (by repeat (first | (with_reducible first | exact HB.out | apply below_alloc | apply pw_below_drewN | apply below_drew1 | refine below_set ?_ GE231.out) | exact HB.out))); (case aF => exact (fun k_ hk => Kd.freshB (g := gb231) (o := .cells #[.int .i64 a1_0, .int .i64 a1_1, .int .i64 a1_2, .int .i64 a1_3] 30 (0, 0)) (by exact bk_ BK231.out) k_ hk)); (case aO => exact (by exact rk_ HO_6.out)); (case aS => exact (below_size (by repeat (first | (with_reducible first | exact HB.out | apply below_alloc | apply pw_below_drewN | apply below_drew1 | refine below_set ?_ GE231.out) | exact HB.out)))); (case aL => have := LMc33.out; omega); intro v245 w37 ho hb hg hat; rw [← Ny244.out] at ho; have n0_ := Aside0.mk (blk_grown (g := gb231) (o := .cells #[.int .i64 a1_0, .int .i64 a1_1, .int .i64 a1_2, .int .i64 a1_3] 30 (0, 0)) (by exact bk_ BK231.out) hg (Kd.R_away HO_6.out (fun _ hk => hk))); have n1_ := Aside0.mk (hb); have n2_ := Aside0.mk (ho); clear BK231; clear HB; clear HO_6; have BK231 := n0_; have HB := n1_; have HO246 := n2_; clear n0_ n1_ n2_; clear ho hb hg hat))
                go_roundg kj23
                case measure => have := HJ2.out; have := HK2.out; have := HJ16.out; have := HJ23.out; omega
                case rel => exact ⟨(y244), (true), (wrap64 (x8_2 + 1)), (by first | rfl | (simp; done) | (simp [*]; done)), (by first | rfl | (simp; done) | (simp [*]; done)), H', ⟨by have := HJ2.out; have := HK2.out; have := HJ16.out; have := HJ23.out; omega⟩, ⟨by exact rk_ HO246.out⟩, ⟨by exact bk_ BK231.out⟩, ⟨by repeat (first | (with_reducible first | exact HB.out | apply below_alloc | apply pw_below_drewN | apply below_drew1 | refine below_set ?_ GE231.out) | exact HB.out)⟩⟩
               ·rw [if_neg c33] at H
                exact absurd H (by simp)
              ·rw [if_neg c32] at H
               have c32b0 : decide (((rd_T30 l0 x8_2).f2) < a1_3) = false := decide_eq_false c32
               clear c32
               by_cases c38 : x6_23.length < 4398046511104
               ·rw [if_pos c38] at H
                have LMc38 := Aside0.mk c38
                clear c38
                obtain ⟨y248, hy248⟩ : ∃ y_ : List (S30), y_ = (x6_23 ++ [(⟨(⟨(rd_T30 l0 x8_2).f0.f0, (rd_T30 l0 x8_2).f0.f1⟩ : S24), (rd_T30 l0 x8_2).f1, (rd_T30 l0 x8_2).f2⟩ : S30)]) := ⟨_, rfl⟩
                replace H : (rialtoref20_Learn.l0 kj23 l0 y248 true (wrap64 (x8_2 + 1)) a1_0 a1_1 a1_2 a1_3) = some (r1, r2) := by first | (rw [hy248]; with_reducible exact H) | (have H2_ := (Option.bind_some _ _).symm.trans H; rw [hy248]; with_reducible exact H2_) | (have H2_ := (Option.bind_some _ _).symm.trans H; with_reducible exact H2_) | with_reducible exact H | (rw [hy248]; exact H) | exact H
                have Ny248 := Aside0.mk hy248
                clear hy248
                have H' := Aside0.mk H
                clear H
                try go_wp2
                have n0_ := Aside0.mk (Kd.R_drew HO_6.out)
                have n1_ := Aside0.mk (blk_drew BK231.out)
                have n2_ := Aside0.mk (below_drew1 HB.out)
                clear HO_6
                clear BK231
                clear HB
                have HO_6 := n0_
                have BK231 := n1_
                have HB := n2_
                clear n0_ n1_ n2_
                have p242 : 0 ≤ (x8_2 : Int) := of_decide_eq_true (by first | (with_reducible assumption) | assumption)
                have q242 : x8_2 < (l0.length : Int) := of_decide_eq_true (by first | (with_reducible assumption) | assumption)
                obtain ⟨ad242, e242, hx242_0, hx242_1, hx242_2, hx242_3⟩ := at_T30 HR0.out x8_2 p242 q242
                have hw242_3 := hx242_3
                have hw242_2 := hx242_2
                have hw242_1 := hx242_1
                have hw242_0 := hx242_0
                cases e242
                replace hx242_0 := (HB.out.cell (World.block_lt_of_cell? w _ hx242_0)).trans hx242_0
                replace hx242_1 := (HB.out.cell (World.block_lt_of_cell? w _ hx242_1)).trans hx242_1
                replace hx242_2 := (HB.out.cell (World.block_lt_of_cell? w _ hx242_2)).trans hx242_2
                replace hx242_3 := (HB.out.cell (World.block_lt_of_cell? w _ hx242_3)).trans hx242_3
                replace p242 := eq_true p242
                replace q242 := eq_true q242
                refine start_ (n := 8) (S := fun w' => w'.cell? ⟨gb231, 0, none⟩ = some (.int .i64 a1_0) ∧ w'.cell? ⟨gb231, 1, none⟩ = some (.int .i64 a1_1) ∧ w'.cell? ⟨gb231, 2, none⟩ = some (.int .i64 a1_2) ∧ w'.cell? ⟨gb231, 3, none⟩ = some (.int .i64 a1_3) ∧ w'.cell? (ad242.add ((x8_2).toNat * 4)) = some (.int .i64 ((rd_T30 l0 x8_2).f0.f0)) ∧ w'.cell? ⟨(ad242.add ((x8_2).toNat * 4)).block, (ad242.add ((x8_2).toNat * 4)).off + 1, none⟩ = some (.int .i64 ((rd_T30 l0 x8_2).f0.f1)) ∧ w'.cell? ⟨(ad242.add ((x8_2).toNat * 4)).block, (ad242.add ((x8_2).toNat * 4)).off + 2, none⟩ = some (.int .i64 ((rd_T30 l0 x8_2).f1)) ∧ w'.cell? ⟨(ad242.add ((x8_2).toNat * 4)).block, (ad242.add ((x8_2).toNat * 4)).off + 3, none⟩ = some (.int .i64 ((rd_T30 l0 x8_2).f2))) (ds := []) KnaaPx26_17 (by kernel_rfl) rfl rfl ⟨(blk_cell BK231.out 0).trans rfl, (blk_cell BK231.out 1).trans rfl, (blk_cell BK231.out 2).trans rfl, (blk_cell BK231.out 3).trans rfl, ((HB.out.cell (World.block_lt_of_cell? w _ hw242_0)).trans hw242_0), ((HB.out.cell (World.block_lt_of_cell? w _ hw242_1)).trans hw242_1), ((HB.out.cell (World.block_lt_of_cell? w _ hw242_2)).trans hw242_2), ((HB.out.cell (World.block_lt_of_cell? w _ hw242_3)).trans hw242_3)⟩ (fun hHeld => ?_); refine with_tabW rialtoref20_Learn.tab11 rialtoref20_Learn.bits11 (fun HT_ HW_ => ?_)
                generalize wc.drew = w39 at HO_6 BK231 HB hx242_0 hx242_1 hx242_2 hx242_3 hHeld ⊢
                refine pure_ (i := 0) (N := some 40) (v := ?_) (a' := ?_) KnaaPx26_18 rfl rfl (any_of HT_.out (by kernel_rfl)) (fun _ _ _ h => h) (Or.inl ⟨by rfl, ?_⟩) ?_ ?_; rotate_left; focus (intro w'; go_simp; with_reducible rfl)
                rotate_left; focus (simp only [Act.put, List.setIfInBounds_toArray, List.set_cons_zero, List.set_cons_succ, i64_w, i32_w]; rfl)
                refine pure_ (i := 1) (N := some 41) (v := ?_) (a' := ?_) KnaaPx26_19 rfl rfl (any_of HT_.out (by kernel_rfl)) (fun _ _ _ h => h) (Or.inl ⟨by rfl, ?_⟩) ?_ ?_; rotate_left; focus (intro w'; go_simp; with_reducible rfl)
                rotate_left; focus (simp only [Act.put, List.setIfInBounds_toArray, List.set_cons_zero, List.set_cons_succ, i64_w, i32_w]; rfl)
                refine pure_ (i := 2) (N := some 42) (v := ?_) (a' := ?_) KnaaPx26_20 rfl rfl (any_of HT_.out (by kernel_rfl)) (fun _ _ _ h => h) (Or.inl ⟨by rfl, ?_⟩) ?_ ?_; rotate_left; focus (intro w'; go_simp; with_reducible rfl)
                rotate_left; focus (simp only [Act.put, List.setIfInBounds_toArray, List.set_cons_zero, List.set_cons_succ, i64_w, i32_w]; rfl)
                refine pure_ (i := 3) (N := some 43) (v := ?_) (a' := ?_) KnaaPx26_21 rfl rfl (any_of HT_.out (by kernel_rfl)) (fun _ _ _ h => h) (Or.inl ⟨by rfl, ?_⟩) ?_ ?_; rotate_left; focus (intro w'; go_simp; with_reducible rfl)
                rotate_left; focus (simp only [Act.put, List.setIfInBounds_toArray, List.set_cons_zero, List.set_cons_succ, i64_w, i32_w]; rfl)
                refine pure_ (i := 5) (N := some 45) (v := ?_) (a' := ?_) KnaaPx26_22 rfl rfl (any_of HT_.out (by kernel_rfl)) (fun _ _ _ h => h) (Or.inl ⟨by rfl, ?_⟩) ?_ ?_; rotate_left; focus (intro w'; go_simp; with_reducible rfl)
                rotate_left; focus (simp only [Act.put, List.setIfInBounds_toArray, List.set_cons_zero, List.set_cons_succ, i64_w, i32_w]; rfl)
                refine take_ (i := 4) (N := some 44) (v := ?_) (a' := ?_) KnaaPx26_23 rfl rfl (take_ofW HT_.out HW_.out (by kernel_rfl)) (fun _ _ _ h => h) (Or.inl ⟨by rfl, ?_⟩) hHeld ?_ ?_; rotate_left; focus (rintro w' ⟨s0, s1, s2, s3, s4, s5, s6, s7⟩; go_simp; with_reducible rfl)
                rotate_left; focus (simp only [Act.put, List.setIfInBounds_toArray, List.set_cons_zero, List.set_cons_succ, i64_w, i32_w]; rfl)
                refine take_ (i := 6) (N := some 46) (v := ?_) (a' := ?_) KnaaPx26_24 rfl rfl (take_ofW HT_.out HW_.out (by kernel_rfl)) (fun _ _ _ h => h) (Or.inl ⟨by rfl, ?_⟩) hHeld ?_ ?_; rotate_left; focus (rintro w' ⟨s0, s1, s2, s3, s4, s5, s6, s7⟩; go_simp; with_reducible rfl)
                rotate_left; focus (simp only [Act.put, List.setIfInBounds_toArray, List.set_cons_zero, List.set_cons_succ, i64_w, i32_w]; rfl)
                refine pure_ (i := 7) (N := some 47) (v := ?_) (a' := ?_) KnaaPx26_25 rfl rfl (any_of HT_.out (by kernel_rfl)) (fun _ _ _ h => h) (Or.inl ⟨by rfl, ?_⟩) ?_ ?_; rotate_left; focus (intro w'; go_simp; with_reducible rfl)
                rotate_left; focus (simp only [Act.put, List.setIfInBounds_toArray, List.set_cons_zero, List.set_cons_succ, i64_w, i32_w]; rfl)
                refine done_ (done_of HT_.out (by kernel_rfl)) ?_
                try go_wp2
                have n0_ := Aside0.mk (Kd.R_drew HO_6.out)
                have n1_ := Aside0.mk (blk_drew BK231.out)
                have n2_ := Aside0.mk (below_drew1 HB.out)
                clear HO_6
                clear BK231
                clear HB
                have HO_6 := n0_
                have BK231 := n1_
                have HB := n2_
                clear n0_ n1_ n2_
                have p243 : 0 ≤ (x8_2 : Int) := of_decide_eq_true (by first | (with_reducible assumption) | assumption)
                have q243 : x8_2 < (l0.length : Int) := of_decide_eq_true (by first | (with_reducible assumption) | assumption)
                obtain ⟨ad243, e243, hx243_0, hx243_1, hx243_2, hx243_3⟩ := at_T30 HR0.out x8_2 p243 q243
                have hw243_3 := hx243_3
                have hw243_2 := hx243_2
                have hw243_1 := hx243_1
                have hw243_0 := hx243_0
                obtain rfl : ad242 = ad243 := (by injection e243)
                replace hx243_0 := (HB.out.cell (World.block_lt_of_cell? w _ hx243_0)).trans hx243_0
                replace hx243_1 := (HB.out.cell (World.block_lt_of_cell? w _ hx243_1)).trans hx243_1
                replace hx243_2 := (HB.out.cell (World.block_lt_of_cell? w _ hx243_2)).trans hx243_2
                replace hx243_3 := (HB.out.cell (World.block_lt_of_cell? w _ hx243_3)).trans hx243_3
                replace p243 := eq_true p243
                replace q243 := eq_true q243
                refine start_ (n := 8) (S := fun w' => w'.cell? ⟨gb231, 0, none⟩ = some (.int .i64 a1_0) ∧ w'.cell? ⟨gb231, 1, none⟩ = some (.int .i64 a1_1) ∧ w'.cell? ⟨gb231, 2, none⟩ = some (.int .i64 a1_2) ∧ w'.cell? ⟨gb231, 3, none⟩ = some (.int .i64 a1_3) ∧ w'.cell? (ad242.add ((x8_2).toNat * 4)) = some (.int .i64 ((rd_T30 l0 x8_2).f0.f0)) ∧ w'.cell? ⟨(ad242.add ((x8_2).toNat * 4)).block, (ad242.add ((x8_2).toNat * 4)).off + 1, none⟩ = some (.int .i64 ((rd_T30 l0 x8_2).f0.f1)) ∧ w'.cell? ⟨(ad242.add ((x8_2).toNat * 4)).block, (ad242.add ((x8_2).toNat * 4)).off + 2, none⟩ = some (.int .i64 ((rd_T30 l0 x8_2).f1)) ∧ w'.cell? ⟨(ad242.add ((x8_2).toNat * 4)).block, (ad242.add ((x8_2).toNat * 4)).off + 3, none⟩ = some (.int .i64 ((rd_T30 l0 x8_2).f2))) (ds := []) KnaaPx26_17 (by kernel_rfl) rfl rfl ⟨(blk_cell BK231.out 0).trans rfl, (blk_cell BK231.out 1).trans rfl, (blk_cell BK231.out 2).trans rfl, (blk_cell BK231.out 3).trans rfl, ((HB.out.cell (World.block_lt_of_cell? w _ hw243_0)).trans hw243_0), ((HB.out.cell (World.block_lt_of_cell? w _ hw243_1)).trans hw243_1), ((HB.out.cell (World.block_lt_of_cell? w _ hw243_2)).trans hw243_2), ((HB.out.cell (World.block_lt_of_cell? w _ hw243_3)).trans hw243_3)⟩ (fun hHeld => ?_); refine with_tabW rialtoref20_Learn.tab13 rialtoref20_Learn.bits13 (fun HT_ HW_ => ?_)
                generalize w39.drew = w40 at HO_6 BK231 HB hx243_0 hx243_1 hx243_2 hx243_3 hHeld ⊢
                refine pure_ (i := 0) (N := some 48) (v := ?_) (a' := ?_) KnaaPx26_18 rfl rfl (any_of HT_.out (by kernel_rfl)) (fun _ _ _ h => h) (Or.inl ⟨by rfl, ?_⟩) ?_ ?_; rotate_left; focus (intro w'; go_simp; with_reducible rfl)
                rotate_left; focus (simp only [Act.put, List.setIfInBounds_toArray, List.set_cons_zero, List.set_cons_succ, i64_w, i32_w]; rfl)
                refine pure_ (i := 2) (N := some 50) (v := ?_) (a' := ?_) KnaaPx26_26 rfl rfl (any_of HT_.out (by kernel_rfl)) (fun _ _ _ h => h) (Or.inl ⟨by rfl, ?_⟩) ?_ ?_; rotate_left; focus (intro w'; go_simp; with_reducible rfl)
                rotate_left; focus (simp only [Act.put, List.setIfInBounds_toArray, List.set_cons_zero, List.set_cons_succ, i64_w, i32_w]; rfl)
                refine pure_ (i := 3) (N := some 51) (v := ?_) (a' := ?_) KnaaPx26_27 rfl rfl (any_of HT_.out (by kernel_rfl)) (fun _ _ _ h => h) (Or.inl ⟨by rfl, ?_⟩) ?_ ?_; rotate_left; focus (intro w'; go_simp; with_reducible rfl)
                rotate_left; focus (simp only [Act.put, List.setIfInBounds_toArray, List.set_cons_zero, List.set_cons_succ, i64_w, i32_w]; rfl)
                refine pure_ (i := 4) (N := some 52) (v := ?_) (a' := ?_) KnaaPx26_28 rfl rfl (any_of HT_.out (by kernel_rfl)) (fun _ _ _ h => h) (Or.inl ⟨by rfl, ?_⟩) ?_ ?_; rotate_left; focus (intro w'; go_simp; with_reducible rfl)
                rotate_left; focus (simp only [Act.put, List.setIfInBounds_toArray, List.set_cons_zero, List.set_cons_succ, i64_w, i32_w]; rfl)
                refine pure_ (i := 5) (N := some 53) (v := ?_) (a' := ?_) KnaaPx26_29 rfl rfl (any_of HT_.out (by kernel_rfl)) (fun _ _ _ h => h) (Or.inl ⟨by rfl, ?_⟩) ?_ ?_; rotate_left; focus (intro w'; go_simp; with_reducible rfl)
                rotate_left; focus (simp only [Act.put, List.setIfInBounds_toArray, List.set_cons_zero, List.set_cons_succ, i64_w, i32_w]; rfl)
                refine take_ (i := 1) (N := some 49) (v := ?_) (a' := ?_) KnaaPx26_23 rfl rfl (take_ofW HT_.out HW_.out (by kernel_rfl)) (fun _ _ _ h => h) (Or.inl ⟨by rfl, ?_⟩) hHeld ?_ ?_; rotate_left; focus (rintro w' ⟨s0, s1, s2, s3, s4, s5, s6, s7⟩; go_simp; with_reducible rfl)
                rotate_left; focus (simp only [Act.put, List.setIfInBounds_toArray, List.set_cons_zero, List.set_cons_succ, i64_w, i32_w]; rfl)
                refine take_ (i := 6) (N := some 54) (v := ?_) (a' := ?_) KnaaPx26_24 rfl rfl (take_ofW HT_.out HW_.out (by kernel_rfl)) (fun _ _ _ h => h) (Or.inl ⟨by rfl, ?_⟩) hHeld ?_ ?_; rotate_left; focus (rintro w' ⟨s0, s1, s2, s3, s4, s5, s6, s7⟩; go_simp; with_reducible rfl)
                rotate_left; focus (simp only [Act.put, List.setIfInBounds_toArray, List.set_cons_zero, List.set_cons_succ, i64_w, i32_w]; rfl)
                refine pure_ (i := 7) (N := some 55) (v := ?_) (a' := ?_) KnaaPx26_25 rfl rfl (any_of HT_.out (by kernel_rfl)) (fun _ _ _ h => h) (Or.inl ⟨by rfl, ?_⟩) ?_ ?_; rotate_left; focus (intro w'; go_simp; with_reducible rfl)
                rotate_left; focus (simp only [Act.put, List.setIfInBounds_toArray, List.set_cons_zero, List.set_cons_succ, i64_w, i32_w]; rfl)
                refine done_ (done_of HT_.out (by kernel_rfl)) ?_
                have p247 : 0 ≤ (x8_2 : Int) := of_decide_eq_true (by first | (with_reducible assumption) | assumption)
                have q247 : x8_2 < (l0.length : Int) := of_decide_eq_true (by first | (with_reducible assumption) | assumption)
                obtain ⟨ad247, e247, hx247_0, hx247_1, hx247_2, hx247_3⟩ := at_T30 HR0.out x8_2 p247 q247
                obtain rfl : ad242 = ad247 := (by injection e247)
                replace hx247_0 := (HB.out.cell (World.block_lt_of_cell? w _ hx247_0)).trans hx247_0
                replace hx247_1 := (HB.out.cell (World.block_lt_of_cell? w _ hx247_1)).trans hx247_1
                replace hx247_2 := (HB.out.cell (World.block_lt_of_cell? w _ hx247_2)).trans hx247_2
                replace hx247_3 := (HB.out.cell (World.block_lt_of_cell? w _ hx247_3)).trans hx247_3
                replace p247 := eq_true p247
                replace q247 := eq_true q247
                try go_wp2_with (first | ((with_reducible refine gate_builtin (b := .append) (xs := #[.tmp 60, .tmp 65]) rfl ?_); (try (refine gate_guard (by rfl) ?_; dsimp only)); at_builtin; refine Kd.R_append k30 (w0 := w) w.heap.size rfl (.tmp 60) (.tmp 65) 22 30 (.agg #[(.int .i64 0), (.int .i64 0), (.int .i64 0), (.int .i64 0)]) 32 rfl Try.underlying22 info30 rfl (by decide) (by omega) u6 x6_23 (⟨(⟨(rd_T30 l0 x8_2).f0.f0, (rd_T30 l0 x8_2).f0.f1⟩ : S24), (rd_T30 l0 x8_2).f1, (rd_T30 l0 x8_2).f2⟩ : S30) [.int .i64 ((rd_T30 l0 x8_2).f0.f0), .int .i64 ((rd_T30 l0 x8_2).f0.f1), .int .i64 ((rd_T30 l0 x8_2).f1), .int .i64 ((rd_T30 l0 x8_2).f2)] (fun k_ => k_ ≠ gb231) (fun _ => False) rfl rfl ?aP (fun _ hk => hk.elim) ?aF ?aO ?aB ?aS ?aL ?_; (case aP => exact k30_mkM _ _ _ (⟨(⟨(rd_T30 l0 x8_2).f0.f0, (rd_T30 l0 x8_2).f0.f1⟩ : S24), (rd_T30 l0 x8_2).f1, (rd_T30 l0 x8_2).f2⟩ : S30)); (case aB => exact (by repeat (first | (with_reducible first | exact HB.out | apply below_alloc | apply pw_below_drewN | apply below_drew1 | refine below_set ?_ GE231.out) | exact HB.out))); (case aF => exact (fun k_ hk => Kd.freshB (g := gb231) (o := .cells #[.int .i64 a1_0, .int .i64 a1_1, .int .i64 a1_2, .int .i64 a1_3] 30 (0, 0)) (by exact bk_ BK231.out) k_ hk)); (case aO => exact (by exact rk_ HO_6.out)); (case aS => exact (below_size (by repeat (first | (with_reducible first | exact HB.out | apply below_alloc | apply pw_below_drewN | apply below_drew1 | refine below_set ?_ GE231.out) | exact HB.out)))); (case aL => have := LMc38.out; omega); intro v249 w41 ho hb hg hat; rw [← Ny248.out] at ho; have n0_ := Aside0.mk (blk_grown (g := gb231) (o := .cells #[.int .i64 a1_0, .int .i64 a1_1, .int .i64 a1_2, .int .i64 a1_3] 30 (0, 0)) (by exact bk_ BK231.out) hg (Kd.R_away HO_6.out (fun _ hk => hk))); have n1_ := Aside0.mk (hb); have n2_ := Aside0.mk (ho); clear BK231; clear HB; clear HO_6; have BK231 := n0_; have HB := n1_; have HO250 := n2_; clear n0_ n1_ n2_; clear ho hb hg hat))
                go_roundg kj23
                case measure => have := HJ2.out; have := HK2.out; have := HJ16.out; have := HJ23.out; omega
                case rel => exact ⟨(y248), (true), (wrap64 (x8_2 + 1)), (by first | rfl | (simp; done) | (simp [*]; done)), (by first | rfl | (simp; done) | (simp [*]; done)), H', ⟨by have := HJ2.out; have := HK2.out; have := HJ16.out; have := HJ23.out; omega⟩, ⟨by exact rk_ HO250.out⟩, ⟨by exact bk_ BK231.out⟩, ⟨by repeat (first | (with_reducible first | exact HB.out | apply below_alloc | apply pw_below_drewN | apply below_drew1 | refine below_set ?_ GE231.out) | exact HB.out)⟩⟩
               ·rw [if_neg c38] at H
                exact absurd H (by simp)
             ·rw [if_neg c31] at H
              have c31b0 : (((rd_T30 l0 x8_2).f0.f0) == a1_0 && (((rd_T30 l0 x8_2).f0.f1) == a1_1)) = false := by simpa using c31
              (try (have c31b1 : decide (((rd_T30 l0 x8_2).f0.f0) = a1_0 && (((rd_T30 l0 x8_2).f0.f1) == a1_1)) = false := by simpa using c31))
              (try (have c31b2 : (((rd_T30 l0 x8_2).f0.f0) == a1_0 && (((rd_T30 l0 x8_2).f0.f1) == a1_1)) = false := by simpa using c31))
              (try (have c31b3 : ¬ (((rd_T30 l0 x8_2).f0.f0) = a1_0 && (((rd_T30 l0 x8_2).f0.f1) == a1_1)) := by simpa using c31))
              clear c31
              by_cases c42 : x6_23.length < 4398046511104
              ·rw [if_pos c42] at H
               have LMc42 := Aside0.mk c42
               clear c42
               obtain ⟨y252, hy252⟩ : ∃ y_ : List (S30), y_ = (x6_23 ++ [(⟨(⟨(rd_T30 l0 x8_2).f0.f0, (rd_T30 l0 x8_2).f0.f1⟩ : S24), (rd_T30 l0 x8_2).f1, (rd_T30 l0 x8_2).f2⟩ : S30)]) := ⟨_, rfl⟩
               replace H : (rialtoref20_Learn.l0 kj23 l0 y252 x7_23 (wrap64 (x8_2 + 1)) a1_0 a1_1 a1_2 a1_3) = some (r1, r2) := by first | (rw [hy252]; with_reducible exact H) | (have H2_ := (Option.bind_some _ _).symm.trans H; rw [hy252]; with_reducible exact H2_) | (have H2_ := (Option.bind_some _ _).symm.trans H; with_reducible exact H2_) | with_reducible exact H | (rw [hy252]; exact H) | exact H
               have Ny252 := Aside0.mk hy252
               clear hy252
               have H' := Aside0.mk H
               clear H
               try go_wp2
               have n0_ := Aside0.mk (Kd.R_drew HO_6.out)
               have n1_ := Aside0.mk (blk_drew BK231.out)
               have n2_ := Aside0.mk (below_drew1 HB.out)
               clear HO_6
               clear BK231
               clear HB
               have HO_6 := n0_
               have BK231 := n1_
               have HB := n2_
               clear n0_ n1_ n2_
               have p242 : 0 ≤ (x8_2 : Int) := of_decide_eq_true (by first | (with_reducible assumption) | assumption)
               have q242 : x8_2 < (l0.length : Int) := of_decide_eq_true (by first | (with_reducible assumption) | assumption)
               obtain ⟨ad242, e242, hx242_0, hx242_1, hx242_2, hx242_3⟩ := at_T30 HR0.out x8_2 p242 q242
               have hw242_3 := hx242_3
               have hw242_2 := hx242_2
               have hw242_1 := hx242_1
               have hw242_0 := hx242_0
               cases e242
               replace hx242_0 := (HB.out.cell (World.block_lt_of_cell? w _ hx242_0)).trans hx242_0
               replace hx242_1 := (HB.out.cell (World.block_lt_of_cell? w _ hx242_1)).trans hx242_1
               replace hx242_2 := (HB.out.cell (World.block_lt_of_cell? w _ hx242_2)).trans hx242_2
               replace hx242_3 := (HB.out.cell (World.block_lt_of_cell? w _ hx242_3)).trans hx242_3
               replace p242 := eq_true p242
               replace q242 := eq_true q242
               refine start_ (n := 8) (S := fun w' => w'.cell? ⟨gb231, 0, none⟩ = some (.int .i64 a1_0) ∧ w'.cell? ⟨gb231, 1, none⟩ = some (.int .i64 a1_1) ∧ w'.cell? ⟨gb231, 2, none⟩ = some (.int .i64 a1_2) ∧ w'.cell? ⟨gb231, 3, none⟩ = some (.int .i64 a1_3) ∧ w'.cell? (ad242.add ((x8_2).toNat * 4)) = some (.int .i64 ((rd_T30 l0 x8_2).f0.f0)) ∧ w'.cell? ⟨(ad242.add ((x8_2).toNat * 4)).block, (ad242.add ((x8_2).toNat * 4)).off + 1, none⟩ = some (.int .i64 ((rd_T30 l0 x8_2).f0.f1)) ∧ w'.cell? ⟨(ad242.add ((x8_2).toNat * 4)).block, (ad242.add ((x8_2).toNat * 4)).off + 2, none⟩ = some (.int .i64 ((rd_T30 l0 x8_2).f1)) ∧ w'.cell? ⟨(ad242.add ((x8_2).toNat * 4)).block, (ad242.add ((x8_2).toNat * 4)).off + 3, none⟩ = some (.int .i64 ((rd_T30 l0 x8_2).f2))) (ds := []) KnaaPx26_17 (by kernel_rfl) rfl rfl ⟨(blk_cell BK231.out 0).trans rfl, (blk_cell BK231.out 1).trans rfl, (blk_cell BK231.out 2).trans rfl, (blk_cell BK231.out 3).trans rfl, ((HB.out.cell (World.block_lt_of_cell? w _ hw242_0)).trans hw242_0), ((HB.out.cell (World.block_lt_of_cell? w _ hw242_1)).trans hw242_1), ((HB.out.cell (World.block_lt_of_cell? w _ hw242_2)).trans hw242_2), ((HB.out.cell (World.block_lt_of_cell? w _ hw242_3)).trans hw242_3)⟩ (fun hHeld => ?_); refine with_tabW rialtoref20_Learn.tab11 rialtoref20_Learn.bits11 (fun HT_ HW_ => ?_)
               generalize wc.drew = w43 at HO_6 BK231 HB hx242_0 hx242_1 hx242_2 hx242_3 hHeld ⊢
               refine pure_ (i := 0) (N := some 40) (v := ?_) (a' := ?_) KnaaPx26_18 rfl rfl (any_of HT_.out (by kernel_rfl)) (fun _ _ _ h => h) (Or.inl ⟨by rfl, ?_⟩) ?_ ?_; rotate_left; focus (intro w'; go_simp; with_reducible rfl)
               rotate_left; focus (simp only [Act.put, List.setIfInBounds_toArray, List.set_cons_zero, List.set_cons_succ, i64_w, i32_w]; rfl)
               refine pure_ (i := 1) (N := some 41) (v := ?_) (a' := ?_) KnaaPx26_19 rfl rfl (any_of HT_.out (by kernel_rfl)) (fun _ _ _ h => h) (Or.inl ⟨by rfl, ?_⟩) ?_ ?_; rotate_left; focus (intro w'; go_simp; with_reducible rfl)
               rotate_left; focus (simp only [Act.put, List.setIfInBounds_toArray, List.set_cons_zero, List.set_cons_succ, i64_w, i32_w]; rfl)
               refine pure_ (i := 2) (N := some 42) (v := ?_) (a' := ?_) KnaaPx26_20 rfl rfl (any_of HT_.out (by kernel_rfl)) (fun _ _ _ h => h) (Or.inl ⟨by rfl, ?_⟩) ?_ ?_; rotate_left; focus (intro w'; go_simp; with_reducible rfl)
               rotate_left; focus (simp only [Act.put, List.setIfInBounds_toArray, List.set_cons_zero, List.set_cons_succ, i64_w, i32_w]; rfl)
               refine pure_ (i := 3) (N := some 43) (v := ?_) (a' := ?_) KnaaPx26_21 rfl rfl (any_of HT_.out (by kernel_rfl)) (fun _ _ _ h => h) (Or.inl ⟨by rfl, ?_⟩) ?_ ?_; rotate_left; focus (intro w'; go_simp; with_reducible rfl)
               rotate_left; focus (simp only [Act.put, List.setIfInBounds_toArray, List.set_cons_zero, List.set_cons_succ, i64_w, i32_w]; rfl)
               refine pure_ (i := 5) (N := some 45) (v := ?_) (a' := ?_) KnaaPx26_22 rfl rfl (any_of HT_.out (by kernel_rfl)) (fun _ _ _ h => h) (Or.inl ⟨by rfl, ?_⟩) ?_ ?_; rotate_left; focus (intro w'; go_simp; with_reducible rfl)
               rotate_left; focus (simp only [Act.put, List.setIfInBounds_toArray, List.set_cons_zero, List.set_cons_succ, i64_w, i32_w]; rfl)
               refine take_ (i := 4) (N := some 44) (v := ?_) (a' := ?_) KnaaPx26_23 rfl rfl (take_ofW HT_.out HW_.out (by kernel_rfl)) (fun _ _ _ h => h) (Or.inl ⟨by rfl, ?_⟩) hHeld ?_ ?_; rotate_left; focus (rintro w' ⟨s0, s1, s2, s3, s4, s5, s6, s7⟩; go_simp; with_reducible rfl)
               rotate_left; focus (simp only [Act.put, List.setIfInBounds_toArray, List.set_cons_zero, List.set_cons_succ, i64_w, i32_w]; rfl)
               refine take_ (i := 6) (N := some 46) (v := ?_) (a' := ?_) KnaaPx26_24 rfl rfl (take_ofW HT_.out HW_.out (by kernel_rfl)) (fun _ _ _ h => h) (Or.inl ⟨by rfl, ?_⟩) hHeld ?_ ?_; rotate_left; focus (rintro w' ⟨s0, s1, s2, s3, s4, s5, s6, s7⟩; go_simp; with_reducible rfl)
               rotate_left; focus (simp only [Act.put, List.setIfInBounds_toArray, List.set_cons_zero, List.set_cons_succ, i64_w, i32_w]; rfl)
               refine pure_ (i := 7) (N := some 47) (v := ?_) (a' := ?_) KnaaPx26_25 rfl rfl (any_of HT_.out (by kernel_rfl)) (fun _ _ _ h => h) (Or.inl ⟨by rfl, ?_⟩) ?_ ?_; rotate_left; focus (intro w'; go_simp; with_reducible rfl)
               rotate_left; focus (simp only [Act.put, List.setIfInBounds_toArray, List.set_cons_zero, List.set_cons_succ, i64_w, i32_w]; rfl)
               refine done_ (done_of HT_.out (by kernel_rfl)) ?_
               have p251 : 0 ≤ (x8_2 : Int) := of_decide_eq_true (by first | (with_reducible assumption) | assumption)
               have q251 : x8_2 < (l0.length : Int) := of_decide_eq_true (by first | (with_reducible assumption) | assumption)
               obtain ⟨ad251, e251, hx251_0, hx251_1, hx251_2, hx251_3⟩ := at_T30 HR0.out x8_2 p251 q251
               obtain rfl : ad242 = ad251 := (by injection e251)
               replace hx251_0 := (HB.out.cell (World.block_lt_of_cell? w _ hx251_0)).trans hx251_0
               replace hx251_1 := (HB.out.cell (World.block_lt_of_cell? w _ hx251_1)).trans hx251_1
               replace hx251_2 := (HB.out.cell (World.block_lt_of_cell? w _ hx251_2)).trans hx251_2
               replace hx251_3 := (HB.out.cell (World.block_lt_of_cell? w _ hx251_3)).trans hx251_3
               replace p251 := eq_true p251
               replace q251 := eq_true q251
               try go_wp2_with (first | ((with_reducible refine gate_builtin (b := .append) (xs := #[.tmp 60, .tmp 65]) rfl ?_); (try (refine gate_guard (by rfl) ?_; dsimp only)); at_builtin; refine Kd.R_append k30 (w0 := w) w.heap.size rfl (.tmp 60) (.tmp 65) 22 30 (.agg #[(.int .i64 0), (.int .i64 0), (.int .i64 0), (.int .i64 0)]) 32 rfl Try.underlying22 info30 rfl (by decide) (by omega) u6 x6_23 (⟨(⟨(rd_T30 l0 x8_2).f0.f0, (rd_T30 l0 x8_2).f0.f1⟩ : S24), (rd_T30 l0 x8_2).f1, (rd_T30 l0 x8_2).f2⟩ : S30) [.int .i64 ((rd_T30 l0 x8_2).f0.f0), .int .i64 ((rd_T30 l0 x8_2).f0.f1), .int .i64 ((rd_T30 l0 x8_2).f1), .int .i64 ((rd_T30 l0 x8_2).f2)] (fun k_ => k_ ≠ gb231) (fun _ => False) rfl rfl ?aP (fun _ hk => hk.elim) ?aF ?aO ?aB ?aS ?aL ?_; (case aP => exact k30_mkM _ _ _ (⟨(⟨(rd_T30 l0 x8_2).f0.f0, (rd_T30 l0 x8_2).f0.f1⟩ : S24), (rd_T30 l0 x8_2).f1, (rd_T30 l0 x8_2).f2⟩ : S30)); (case aB => exact (by repeat (first | (with_reducible first | exact HB.out | apply below_alloc | apply pw_below_drewN | apply below_drew1 | refine below_set ?_ GE231.out) | exact HB.out))); (case aF => exact (fun k_ hk => Kd.freshB (g := gb231) (o := .cells #[.int .i64 a1_0, .int .i64 a1_1, .int .i64 a1_2, .int .i64 a1_3] 30 (0, 0)) (by exact bk_ BK231.out) k_ hk)); (case aO => exact (by exact rk_ HO_6.out)); (case aS => exact (below_size (by repeat (first | (with_reducible first | exact HB.out | apply below_alloc | apply pw_below_drewN | apply below_drew1 | refine below_set ?_ GE231.out) | exact HB.out)))); (case aL => have := LMc42.out; omega); intro v253 w44 ho hb hg hat; rw [← Ny252.out] at ho; have n0_ := Aside0.mk (blk_grown (g := gb231) (o := .cells #[.int .i64 a1_0, .int .i64 a1_1, .int .i64 a1_2, .int .i64 a1_3] 30 (0, 0)) (by exact bk_ BK231.out) hg (Kd.R_away HO_6.out (fun _ hk => hk))); have n1_ := Aside0.mk (hb); have n2_ := Aside0.mk (ho); clear BK231; clear HB; clear HO_6; have BK231 := n0_; have HB := n1_; have HO254 := n2_; clear n0_ n1_ n2_; clear ho hb hg hat))
               go_roundg kj23
               case measure => have := HJ2.out; have := HK2.out; have := HJ16.out; have := HJ23.out; omega
               case rel => exact ⟨(y252), (x7_23), (wrap64 (x8_2 + 1)), (by first | rfl | (simp; done) | (simp [*]; done)), (by first | rfl | (simp; done) | (simp [*]; done)), H', ⟨by have := HJ2.out; have := HK2.out; have := HJ16.out; have := HJ23.out; omega⟩, ⟨by exact rk_ HO254.out⟩, ⟨by exact bk_ BK231.out⟩, ⟨by repeat (first | (with_reducible first | exact HB.out | apply below_alloc | apply pw_below_drewN | apply below_drew1 | refine below_set ?_ GE231.out) | exact HB.out)⟩⟩
              ·rw [if_neg c42] at H
               exact absurd H (by simp)
            ·rw [if_neg c30] at H
             exact absurd H (by simp)
           ·rw [if_neg c29] at H
            exact absurd H (by simp)
      ·rw [if_neg c16] at H
       have c16b0 : decide (x8_2 < (l0.length : Int)) = false := decide_eq_false c16
       clear c16
       by_cases c45 : x7_2 = true
       ·subst c45
        have H1 : (some (x6_2, 0)) = some (r1, r2) := by rw [if_pos rfl] at H; exact H
        clear H
        have H := H1
        clear H1
        simp only [Option.some.injEq, Prod.mk.injEq] at H
        obtain ⟨rfl, rfl⟩ := H
        go_wp2
        go_ret2
        exact ⟨_, by first | rfl | (simp [errW_none, errW_some] <;> rfl) | (simp [*, errW_none, errW_some] <;> rfl), by (with_reducible repeat (first | apply Kd.R_alloc | apply Kd.R_drewN | apply Kd.R_drew)); exact Kd.R_mono HO_6.out (fun _ hk => trivial), by repeat (first | (with_reducible first | exact HB.out | apply below_alloc | apply pw_below_drewN | apply below_drew1 | refine below_set ?_ GE231.out) | exact HB.out)⟩
       ·replace c45 := Bool.eq_false_iff.mpr c45
        subst c45
        have H1 : (if x6_2.length < 4398046511104 then (some ((x6_2 ++ [(⟨(⟨a1_0, a1_1⟩ : S24), a1_2, a1_3⟩ : S30)]), 0)) else (none)) = some (r1, r2) := by rw [if_neg (show ¬ (false = true) by decide)] at H; exact H
        clear H
        have H := H1
        clear H1
        by_cases c46 : x6_2.length < 4398046511104
        ·rw [if_pos c46] at H
         have LMc46 := Aside0.mk c46
         clear c46
         obtain ⟨y255, hy255⟩ : ∃ y_ : List (S30), y_ = (x6_2 ++ [(⟨(⟨a1_0, a1_1⟩ : S24), a1_2, a1_3⟩ : S30)]) := ⟨_, rfl⟩
         replace H : (some (y255, 0)) = some (r1, r2) := by first | (rw [hy255]; with_reducible exact H) | (have H2_ := (Option.bind_some _ _).symm.trans H; rw [hy255]; with_reducible exact H2_) | (have H2_ := (Option.bind_some _ _).symm.trans H; with_reducible exact H2_) | with_reducible exact H | (rw [hy255]; exact H) | exact H
         have Ny255 := Aside0.mk hy255
         clear hy255
         simp only [Option.some.injEq, Prod.mk.injEq] at H
         obtain ⟨rfl, rfl⟩ := H
         have hcz47_0 : wr.cell? ⟨gb231, 0, none⟩ = some (.int .i64 a1_0) := (blk_cell BK231.out 0).trans rfl
         have hcz47_1 : wr.cell? ⟨gb231, 1, none⟩ = some (.int .i64 a1_1) := (blk_cell BK231.out 1).trans rfl
         have hcz47_2 : wr.cell? ⟨gb231, 2, none⟩ = some (.int .i64 a1_2) := (blk_cell BK231.out 2).trans rfl
         have hcz47_3 : wr.cell? ⟨gb231, 3, none⟩ = some (.int .i64 a1_3) := (blk_cell BK231.out 3).trans rfl
         have hfz47_0 := blk_frozen BK231.out 0
         have hfz47_1 := blk_frozen BK231.out 1
         have hfz47_2 := blk_frozen BK231.out 2
         have hfz47_3 := blk_frozen BK231.out 3
         go_wp2_with (first | ((with_reducible refine gate_builtin (b := .append) (xs := #[.tmp 69, .tmp 71]) rfl ?_); (try (refine gate_guard (by rfl) ?_; dsimp only)); at_builtin; refine Kd.R_append k30 (w0 := w) w.heap.size rfl (.tmp 69) (.tmp 71) 22 30 (.agg #[(.int .i64 0), (.int .i64 0), (.int .i64 0), (.int .i64 0)]) 32 rfl Try.underlying22 info30 rfl (by decide) (by omega) u6 x6_2 (⟨(⟨a1_0, a1_1⟩ : S24), a1_2, a1_3⟩ : S30) [.int .i64 a1_0, .int .i64 a1_1, .int .i64 a1_2, .int .i64 a1_3] (fun k_ => k_ ≠ gb231) (fun _ => False) rfl rfl ?aP (fun _ hk => hk.elim) ?aF ?aO ?aB ?aS ?aL ?_; (case aP => exact k30_mkM _ _ _ (⟨(⟨a1_0, a1_1⟩ : S24), a1_2, a1_3⟩ : S30)); (case aB => exact (by repeat (first | (with_reducible first | exact HB.out | apply below_alloc | apply pw_below_drewN | apply below_drew1 | refine below_set ?_ GE231.out) | exact HB.out))); (case aF => exact (fun k_ hk => Kd.freshB (g := gb231) (o := .cells #[.int .i64 a1_0, .int .i64 a1_1, .int .i64 a1_2, .int .i64 a1_3] 30 (0, 0)) (by exact bk_ BK231.out) k_ hk)); (case aO => exact (by exact rk_ HO_6.out)); (case aS => exact (below_size (by repeat (first | (with_reducible first | exact HB.out | apply below_alloc | apply pw_below_drewN | apply below_drew1 | refine below_set ?_ GE231.out) | exact HB.out)))); (case aL => have := LMc46.out; omega); intro v256 w48 ho hb hg hat; rw [← Ny255.out] at ho; have n0_ := Aside0.mk (blk_grown (g := gb231) (o := .cells #[.int .i64 a1_0, .int .i64 a1_1, .int .i64 a1_2, .int .i64 a1_3] 30 (0, 0)) (by exact bk_ BK231.out) hg (Kd.R_away HO_6.out (fun _ hk => hk))); have n1_ := Aside0.mk (hb); have n2_ := Aside0.mk (ho); clear BK231; clear HB; clear HO_6; have BK231 := n0_; have HB := n1_; have HO257 := n2_; clear n0_ n1_ n2_; clear ho hb hg hat))
         go_ret2
         exact ⟨_, by first | rfl | (simp [errW_none, errW_some] <;> rfl) | (simp [*, errW_none, errW_some] <;> rfl), by (with_reducible repeat (first | apply Kd.R_alloc | apply Kd.R_drewN | apply Kd.R_drew)); exact Kd.R_mono HO257.out (fun _ hk => trivial), by repeat (first | (with_reducible first | exact HB.out | apply below_alloc | apply pw_below_drewN | apply below_drew1 | refine below_set ?_ GE231.out) | exact HB.out)⟩
        ·rw [if_neg c46] at H
         exact absurd H (by simp)

end Go.Proofs.Ythflfekhanjlnaa.P
