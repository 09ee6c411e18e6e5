/- Functions that the laws reach, told as plain functions, each with a proof that the call computes it; for every input. Written by a program of ours out of the translation. -/
import Derived.Lib.QuietBelow
import Derived.Test.YthhdfefobblmkaaPx0
import Derived.Test.YthhdfefobblmkaaPx3
import Derived.Test.YthhdfefobblmkaaPx4
import Derived.Test.YthhdfefobblmkaaPx12
import Derived.Test.YthhdfefobblmkaaPx13
import Derived.Test.YthhdfefobblmkaaPx19
import Derived.Test.YthhdfefobblmkaaPx20
import Derived.Test.YthhdfefobblmkaaPx21
import Derived.Test.YthhdfefobblmkaaPx30
namespace Go.Proofs.Ythhdfefobblmkaa.P
open Go.RowKit Go.Proofs.YthhdfefobblmkaaW.PrintWords Go.Proofs.YthhdfefobblmkaaW.PrintLast Go.Proofs.YthhdfefobblmkaaW.PrintMore
open Go.Proofs.YthhdfefobblmkaaG (bk_ bl_ rk_)
attribute [local go_sem] max2_int min2_int max_two min_two max_three min_three max_four min_four   -- for this text's walks alone
set_option linter.unusedVariables false
set_option linter.unusedSimpArgs false

/-! ### rialtolaw07_TermGrants: function 3 -/
/-! by hand -/
open Go.Proofs.YthhdfefobblmkaaG
def rialtolaw07_TermGrants.f (k : Nat) (b0 : Int) (b1 : Int) (b2 : Int) (l0 : List Int) (q0 : Int) (q1 : Int) (q2 : Int) (q3 : Int) (s0 : Int) (s1 : Int) : Option Bool :=
  (rialtoref07_Copy.f b0 b1 b2 l0).bind fun o => (term_Grant.f k o.1 o.2.1 o.2.2.1 o.2.2.2 q0 q1 q2 q3 s0 s1).bind fun x => (rialtoref07_Grant.f k b0 b1 b2 l0 q0 q1 q2 q3 s0 s1).bind fun y =>
    (rialtolaw07_spoil.f k x.1 x.2.1 x.2.2.1 x.2.2.2.1).bind fun sx =>
      (rialtoref07_Same.f k x.1 x.2.1 x.2.2.1 x.2.2.2.1 y.1 y.2.1 y.2.2.1 y.2.2.2.1).bind fun d1 => if d1 = true then if x.2.2.2.2 = y.2.2.2.2 then (rialtoref07_Same.f k o.1 o.2.1 o.2.2.1 o.2.2.2 b0 b1 b2 l0).bind fun d3 => if d3 = true then
        (term_Less.f q2 q3 s0 s1).bind fun m1 => if rialtoref07_Less.f q2 q3 s0 s1 = some m1 then (term_Less.f s0 s1 q2 q3).bind fun m2 => if rialtoref07_Less.f s0 s1 q2 q3 = some m2 then (rialtolaw07_live.f k).bind fun d4 => if d4 = true then some true else none else none else none else none else none else none
theorem rialtolaw07_TermGrants.mono : ∀ a0 a1 a2 a3 a4 a5 a6 a7 a8 a9 k, LeO (rialtolaw07_TermGrants.f k a0 a1 a2 a3 a4 a5 a6 a7 a8 a9) (rialtolaw07_TermGrants.f (k + 1) a0 a1 a2 a3 a4 a5 a6 a7 a8 a9) := by
  intro a0 a1 a2 a3 a4 a5 a6 a7 a8 a9 k
  unfold rialtolaw07_TermGrants.f
  refine LeO.bind (LeO.refl _) (fun o => LeO.bind (term_Grant.mono _ _ _ _ _ _ _ _ _ _ _) (fun x => LeO.bind (rialtoref07_Grant.mono _ _ _ _ _ _ _ _ _ _ _) (fun y => LeO.bind (rialtolaw07_spoil.mono _ _ _ _ _) (fun sx => ?_))))
  exact LeO.bind (rialtoref07_Same.mono _ _ _ _ _ _ _ _ _) (fun _ => LeO.ite (LeO.ite (LeO.bind (rialtoref07_Same.mono _ _ _ _ _ _ _ _ _) (fun _ => LeO.ite (LeO.bind (LeO.refl _) (fun _ => LeO.ite (LeO.bind (LeO.refl _) (fun _ => LeO.ite (LeO.bind (rialtolaw07_live.mono _) (fun _ => LeO.refl _)) (LeO.refl _))) (LeO.refl _))) (LeO.refl _))) (LeO.refl _)) (LeO.refl _))
theorem cellsG4 {w : World} {g : Nat} {t : TypeId} {a0 a1 a2 a3 : Value} (h : w.heap[g]? = some (.cells #[a0, a1, a2, a3] t (0, 0))) : w.cell? ⟨g, 0, none⟩ = some a0 ∧ w.cell? ⟨g, 1, none⟩ = some a1 ∧ w.cell? ⟨g, 2, none⟩ = some a2 ∧ w.cell? ⟨g, 3, none⟩ = some a3 := ⟨(blk_cell h 0).trans rfl, (blk_cell h 1).trans rfl, (blk_cell h 2).trans rfl, (blk_cell h 3).trans rfl⟩
theorem cellsG2 {w : World} {g : Nat} {t : TypeId} {a0 a1 : Value} (h : w.heap[g]? = some (.cells #[a0, a1] t (0, 0))) : w.cell? ⟨g, 0, none⟩ = some a0 ∧ w.cell? ⟨g, 1, none⟩ = some a1 := ⟨(blk_cell h 0).trans rfl, (blk_cell h 1).trans rfl⟩
set_option maxHeartbeats 8000000 in
set_option maxRecDepth 100000 in
theorem rialtolaw07_TermGrants.calls (k : Nat) (b0 : Int) (b1 : Int) (b2 : Int) (A0 : Option Addr) (c0 : Nat) (l0 : List Int) (q0 : Int) (q1 : Int) (q2 : Int) (q3 : Int) (s0 : Int) (s1 : Int) (r : Bool) (w : World) (hr0 : Kd.C (Kd.int .i64) w A0 l0.length l0) (hc0 : l0.length ≤ c0) (h : rialtolaw07_TermGrants.f k b0 b1 b2 l0 q0 q1 q2 q3 s0 s1 = some r) :
    Calls Try.prog 3 #[.agg #[.int .i64 b0, .int .i64 b1, .int .i64 b2, .slice A0 l0.length c0], .agg #[.int .i64 q0, .int .i64 q1, .int .i64 q2, .int .i64 q3], .agg #[.int .i64 s0, .int .i64 s1]] w fun e w' => e = .returned (.bool r) ∧ Below w.heap.size w w' := by
  have hu26 := Try.underlying26
  have L0 := Aside0.mk hc0
  unfold rialtolaw07_TermGrants.f at h
  obtain ⟨⟨o0, o1, o2, ol⟩, e1, H1⟩ := Option.bind_eq_some_iff.1 h
  obtain ⟨⟨x0, x1, x2, xl, xb, xe⟩, e2, H2⟩ := Option.bind_eq_some_iff.1 H1
  obtain ⟨⟨y0, y1, y2, yl, yb, ye⟩, e3, H3⟩ := Option.bind_eq_some_iff.1 H2
  obtain ⟨sx, e6, H7⟩ := Option.bind_eq_some_iff.1 H3
  simp only at e1 e2 e3 e6 H7
  obtain ⟨p1, d1, H8⟩ := Option.bind_eq_some_iff.1 H7
  split at H8
  rotate_left
  · cases H8
  next f1 =>
  split at H8
  rotate_left
  · cases H8
  next g1 =>
  obtain ⟨p3, d3, H9⟩ := Option.bind_eq_some_iff.1 H8
  split at H9
  rotate_left
  · cases H9
  next f3 =>
  obtain ⟨m1, j1, H10⟩ := Option.bind_eq_some_iff.1 H9
  split at H10
  rotate_left
  · cases H10
  next i1 =>
  obtain ⟨m2, j2, H11⟩ := Option.bind_eq_some_iff.1 H10
  split at H11
  rotate_left
  · cases H11
  next i2 =>
  obtain ⟨p4, d4, H12⟩ := Option.bind_eq_some_iff.1 H11
  split at H12
  rotate_left
  · cases H12
  next f4 =>
  subst f1 f3 f4
  simp only [Prod.mk.injEq] at g1
  obtain ⟨rfl, rfl⟩ := g1
  obtain rfl := Option.some.inj H12
  have E1 := Aside0.mk e1
  have E2 := Aside0.mk e2
  have E3 := Aside0.mk e3
  have E6 := Aside0.mk e6
  have D1 := Aside0.mk d1
  have D3 := Aside0.mk d3
  have D4 := Aside0.mk d4
  have J1 := Aside0.mk j1
  have J2 := Aside0.mk j2
  have I1 := Aside0.mk i1
  have I2 := Aside0.mk i2
  clear h H1 H2 H3 H7 H8 H9 H10 H11 H12 e1 e2 e3 e6 d1 d3 d4 j1 j2 i1 i2 hc0
  have C0 := Aside0.mk (hr0)
  clear hr0
  have B := Aside0.mk (Below.refl w.heap.size w)
  have n_C0 := Aside0.mk (Kd.C_below C0.out (below_alloc (Below.refl _ _) (.cells #[.int .i64 b0, .int .i64 b1, .int .i64 b2, .slice A0 l0.length c0] 26)))
  have n_B := Aside0.mk (below_alloc B.out (.cells #[.int .i64 b0, .int .i64 b1, .int .i64 b2, .slice A0 l0.length c0] 26))
  clear C0 B
  have C0 := n_C0
  have B := n_B
  clear n_C0 n_B
  have b3 := Aside0.mk (blk_new w (.cells #[.int .i64 b0, .int .i64 b1, .int .i64 b2, .slice A0 l0.length c0] 26))
  have n_C0 := Aside0.mk (Kd.C_below C0.out (below_alloc (Below.refl _ _) (.cells #[.int .i64 q0, .int .i64 q1, .int .i64 q2, .int .i64 q3] 30)))
  have n_B := Aside0.mk (below_alloc B.out (.cells #[.int .i64 q0, .int .i64 q1, .int .i64 q2, .int .i64 q3] 30))
  have n_b3 := Aside0.mk (blk_alloc b3.out (.cells #[.int .i64 q0, .int .i64 q1, .int .i64 q2, .int .i64 q3] 30))
  clear C0 B b3
  have C0 := n_C0
  have B := n_B
  have b3 := n_b3
  clear n_C0 n_B n_b3
  have b4 := Aside0.mk (blk_new (w.alloc (.cells #[.int .i64 b0, .int .i64 b1, .int .i64 b2, .slice A0 l0.length c0] 26)) (.cells #[.int .i64 q0, .int .i64 q1, .int .i64 q2, .int .i64 q3] 30))
  have n_C0 := Aside0.mk (Kd.C_below C0.out (below_alloc (Below.refl _ _) (.cells #[.int .i64 s0, .int .i64 s1] 28)))
  have n_B := Aside0.mk (below_alloc B.out (.cells #[.int .i64 s0, .int .i64 s1] 28))
  have n_b3 := Aside0.mk (blk_alloc b3.out (.cells #[.int .i64 s0, .int .i64 s1] 28))
  have n_b4 := Aside0.mk (blk_alloc b4.out (.cells #[.int .i64 s0, .int .i64 s1] 28))
  clear C0 B b3 b4
  have C0 := n_C0
  have B := n_B
  have b3 := n_b3
  have b4 := n_b4
  clear n_C0 n_B n_b3 n_b4
  have b5 := Aside0.mk (blk_new ((w.alloc (.cells #[.int .i64 b0, .int .i64 b1, .int .i64 b2, .slice A0 l0.length c0] 26)).alloc (.cells #[.int .i64 q0, .int .i64 q1, .int .i64 q2, .int .i64 q3] 30)) (.cells #[.int .i64 s0, .int .i64 s1] 28))
  obtain ⟨z1, z2, z3, z4⟩ := cellsG4 b3.out
  go_enter Try.func3, Try.ntmps3
  go_wp2_with fail
  clear z1 z2 z3 z4
  obtain ⟨g3, hg3⟩ : ∃ g_, g_ = w.heap.size := ⟨_, rfl⟩
  obtain ⟨g4, hg4⟩ : ∃ g_, g_ = w.heap.size + 1 := ⟨_, rfl⟩
  obtain ⟨g5, hg5⟩ : ∃ g_, g_ = w.heap.size + 1 + 1 := ⟨_, rfl⟩
  have n3 := b3.out
  have n4 := b4.out
  have n5 := b5.out
  rw [World.size_alloc, ← hg4] at n4
  rw [World.size_alloc, World.size_alloc, ← hg5] at n5
  rw [← hg3] at n3
  rw [← hg5, ← hg4, ← hg3]
  clear b3 b4 b5 hg3 hg4 hg5
  have b3 := Aside0.mk n3
  have b4 := Aside0.mk n4
  have b5 := Aside0.mk n5
  clear n3 n4 n5
  generalize ((w.alloc (.cells #[.int .i64 b0, .int .i64 b1, .int .i64 b2, .slice A0 l0.length c0] 26)).alloc (.cells #[.int .i64 q0, .int .i64 q1, .int .i64 q2, .int .i64 q3] 30)).alloc (.cells #[.int .i64 s0, .int .i64 s1] 28) = wa at b3 b4 b5 C0 B ⊢
  refine (rialtoref07_Copy.calls b0 b1 b2 A0 c0 l0 o0 o1 o2 ol _ C0.out L0.out E1.out).mono ?_
  rintro e w1 ⟨v, rfl, ho, hb⟩
  have n_C0 := Aside0.mk (Kd.C_below C0.out hb)
  have n_B := Aside0.mk (below_step B.out hb)
  have n_b3 := Aside0.mk (blk_below b3.out hb)
  have n_b4 := Aside0.mk (blk_below b4.out hb)
  have n_b5 := Aside0.mk (blk_below b5.out hb)
  clear C0 B b3 b4 b5
  have C0 := n_C0
  have B := n_B
  have b3 := n_b3
  have b4 := n_b4
  have b5 := n_b5
  clear n_C0 n_B n_b3 n_b4 n_b5
  obtain ⟨Ao, co, rfl, Lo_, hCo⟩ := Kd.R_reads ho
  have Lo := Aside0.mk Lo_
  clear Lo_
  have Co := Aside0.mk (hCo)
  clear ho hb hCo
  have n_C0 := Aside0.mk (Kd.C_below C0.out (below_alloc (Below.refl _ _) (.cells #[.int .i64 o0, .int .i64 o1, .int .i64 o2, .slice Ao ol.length co] 26)))
  have n_B := Aside0.mk (below_alloc B.out (.cells #[.int .i64 o0, .int .i64 o1, .int .i64 o2, .slice Ao ol.length co] 26))
  have n_b3 := Aside0.mk (blk_alloc b3.out (.cells #[.int .i64 o0, .int .i64 o1, .int .i64 o2, .slice Ao ol.length co] 26))
  have n_b4 := Aside0.mk (blk_alloc b4.out (.cells #[.int .i64 o0, .int .i64 o1, .int .i64 o2, .slice Ao ol.length co] 26))
  have n_b5 := Aside0.mk (blk_alloc b5.out (.cells #[.int .i64 o0, .int .i64 o1, .int .i64 o2, .slice Ao ol.length co] 26))
  have n_Co := Aside0.mk (Kd.C_below Co.out (below_alloc (Below.refl _ _) (.cells #[.int .i64 o0, .int .i64 o1, .int .i64 o2, .slice Ao ol.length co] 26)))
  clear C0 B b3 b4 b5 Co
  have C0 := n_C0
  have B := n_B
  have b3 := n_b3
  have b4 := n_b4
  have b5 := n_b5
  have Co := n_Co
  clear n_C0 n_B n_b3 n_b4 n_b5 n_Co
  have b7 := Aside0.mk (blk_new w1 (.cells #[.int .i64 o0, .int .i64 o1, .int .i64 o2, .slice Ao ol.length co] 26))
  obtain ⟨z5, z6, z7, z8⟩ := cellsG4 b7.out
  obtain ⟨z9, z10, z11, z12⟩ := cellsG4 b4.out
  obtain ⟨z13, z14⟩ := cellsG2 b5.out
  go_wp2_with fail
  clear z5 z6 z7 z8 z9 z10 z11 z12 z13 z14
  obtain ⟨g7, hg7⟩ : ∃ g_, g_ = w1.heap.size := ⟨_, rfl⟩
  have n_b7 := b7.out
  clear b7
  rw [← hg7] at n_b7
  rw [← hg7]
  have b7 := Aside0.mk n_b7
  clear n_b7 hg7
  generalize w1.alloc (.cells #[.int .i64 o0, .int .i64 o1, .int .i64 o2, .slice Ao ol.length co] 26) = wB at C0 B b3 b4 b5 Co b7 ⊢
  have SB := B
  have S3 := b3
  have S7 := b7
  have SC0 := C0
  have SCo := Co
  refine (term_Grant.calls k o0 o1 o2 Ao co ol q0 q1 q2 q3 s0 s1 x0 x1 x2 xl xb xe _ Co.out Lo.out E2.out).mono ?_
  rintro e w2 ⟨v, rfl, ho, hb⟩
  have n_C0 := Aside0.mk (Kd.C_below C0.out hb)
  have n_B := Aside0.mk (below_step B.out hb)
  have n_b3 := Aside0.mk (blk_below b3.out hb)
  have n_b4 := Aside0.mk (blk_below b4.out hb)
  have n_b5 := Aside0.mk (blk_below b5.out hb)
  have n_Co := Aside0.mk (Kd.C_below Co.out hb)
  have n_b7 := Aside0.mk (blk_below b7.out hb)
  clear C0 B b3 b4 b5 Co b7
  have C0 := n_C0
  have B := n_B
  have b3 := n_b3
  have b4 := n_b4
  have b5 := n_b5
  have Co := n_Co
  have b7 := n_b7
  clear n_C0 n_B n_b3 n_b4 n_b5 n_Co n_b7
  obtain ⟨Ax, cx, rfl, Lx_, hCx⟩ := Kd.R_reads ho
  have Lx := Aside0.mk Lx_
  clear Lx_
  have Cx := Aside0.mk (hCx)
  have Rx := Aside0.mk (ho)
  have BXx := Aside0.mk (hb)
  clear ho hb hCx
  have n_C0 := Aside0.mk (Kd.C_below C0.out (below_alloc (Below.refl _ _) (.cells #[.int .i64 x0, .int .i64 x1, .int .i64 x2, .slice Ax xl.length cx] 26)))
  have n_B := Aside0.mk (below_alloc B.out (.cells #[.int .i64 x0, .int .i64 x1, .int .i64 x2, .slice Ax xl.length cx] 26))
  have n_b3 := Aside0.mk (blk_alloc b3.out (.cells #[.int .i64 x0, .int .i64 x1, .int .i64 x2, .slice Ax xl.length cx] 26))
  have n_b4 := Aside0.mk (blk_alloc b4.out (.cells #[.int .i64 x0, .int .i64 x1, .int .i64 x2, .slice Ax xl.length cx] 26))
  have n_b5 := Aside0.mk (blk_alloc b5.out (.cells #[.int .i64 x0, .int .i64 x1, .int .i64 x2, .slice Ax xl.length cx] 26))
  have n_Co := Aside0.mk (Kd.C_below Co.out (below_alloc (Below.refl _ _) (.cells #[.int .i64 x0, .int .i64 x1, .int .i64 x2, .slice Ax xl.length cx] 26)))
  have n_b7 := Aside0.mk (blk_alloc b7.out (.cells #[.int .i64 x0, .int .i64 x1, .int .i64 x2, .slice Ax xl.length cx] 26))
  have n_Cx := Aside0.mk (Kd.C_below Cx.out (below_alloc (Below.refl _ _) (.cells #[.int .i64 x0, .int .i64 x1, .int .i64 x2, .slice Ax xl.length cx] 26)))
  have n_Rx := Aside0.mk (Kd.R_alloc Rx.out (.cells #[.int .i64 x0, .int .i64 x1, .int .i64 x2, .slice Ax xl.length cx] 26))
  have n_BXx := Aside0.mk (below_alloc BXx.out (.cells #[.int .i64 x0, .int .i64 x1, .int .i64 x2, .slice Ax xl.length cx] 26))
  clear C0 B b3 b4 b5 Co b7 Cx Rx BXx
  have C0 := n_C0
  have B := n_B
  have b3 := n_b3
  have b4 := n_b4
  have b5 := n_b5
  have Co := n_Co
  have b7 := n_b7
  have Cx := n_Cx
  have Rx := n_Rx
  have BXx := n_BXx
  clear n_C0 n_B n_b3 n_b4 n_b5 n_Co n_b7 n_Cx n_Rx n_BXx
  have b8 := Aside0.mk (blk_new w2 (.cells #[.int .i64 x0, .int .i64 x1, .int .i64 x2, .slice Ax xl.length cx] 26))
  obtain ⟨z15, z16, z17, z18⟩ := cellsG4 b3.out
  obtain ⟨z19, z20, z21, z22⟩ := cellsG4 b4.out
  obtain ⟨z23, z24⟩ := cellsG2 b5.out
  go_wp2_with fail
  clear z15 z16 z17 z18 z19 z20 z21 z22 z23 z24
  obtain ⟨g8, hg8⟩ : ∃ g_, g_ = w2.heap.size := ⟨_, rfl⟩
  have n_b8 := b8.out
  clear b8
  rw [← hg8] at n_b8
  rw [← hg8]
  have b8 := Aside0.mk n_b8
  clear n_b8 hg8
  generalize w2.alloc (.cells #[.int .i64 x0, .int .i64 x1, .int .i64 x2, .slice Ax xl.length cx] 26) = wc at C0 B b3 b4 b5 Co b7 Cx Rx BXx b8 ⊢
  refine (rialtoref07_Grant.calls k b0 b1 b2 A0 c0 l0 q0 q1 q2 q3 s0 s1 y0 y1 y2 yl _ _ _ C0.out L0.out E3.out).mono ?_
  rintro e w3 ⟨v, rfl, ho, hb⟩
  have n_C0 := Aside0.mk (Kd.C_below C0.out hb)
  have n_B := Aside0.mk (below_step B.out hb)
  have n_b3 := Aside0.mk (blk_below b3.out hb)
  have n_b4 := Aside0.mk (blk_below b4.out hb)
  have n_b5 := Aside0.mk (blk_below b5.out hb)
  have n_Co := Aside0.mk (Kd.C_below Co.out hb)
  have n_b7 := Aside0.mk (blk_below b7.out hb)
  have n_Cx := Aside0.mk (Kd.C_below Cx.out hb)
  have n_Rx := Aside0.mk (Kd.R_below Rx.out hb)
  have n_BXx := Aside0.mk (below_step BXx.out hb)
  have n_b8 := Aside0.mk (blk_below b8.out hb)
  clear C0 B b3 b4 b5 Co b7 Cx Rx BXx b8
  have C0 := n_C0
  have B := n_B
  have b3 := n_b3
  have b4 := n_b4
  have b5 := n_b5
  have Co := n_Co
  have b7 := n_b7
  have Cx := n_Cx
  have Rx := n_Rx
  have BXx := n_BXx
  have b8 := n_b8
  clear n_C0 n_B n_b3 n_b4 n_b5 n_Co n_b7 n_Cx n_Rx n_BXx n_b8
  obtain ⟨Ay, cy, rfl, Ly_, hCy⟩ := Kd.R_reads ho
  have Ly := Aside0.mk Ly_
  clear Ly_
  have Cy := Aside0.mk (hCy)
  clear ho hb hCy
  have n_C0 := Aside0.mk (Kd.C_below C0.out (below_alloc (Below.refl _ _) (.cells #[.int .i64 y0, .int .i64 y1, .int .i64 y2, .slice Ay yl.length cy] 26)))
  have n_B := Aside0.mk (below_alloc B.out (.cells #[.int .i64 y0, .int .i64 y1, .int .i64 y2, .slice Ay yl.length cy] 26))
  have n_b3 := Aside0.mk (blk_alloc b3.out (.cells #[.int .i64 y0, .int .i64 y1, .int .i64 y2, .slice Ay yl.length cy] 26))
  have n_b4 := Aside0.mk (blk_alloc b4.out (.cells #[.int .i64 y0, .int .i64 y1, .int .i64 y2, .slice Ay yl.length cy] 26))
  have n_b5 := Aside0.mk (blk_alloc b5.out (.cells #[.int .i64 y0, .int .i64 y1, .int .i64 y2, .slice Ay yl.length cy] 26))
  have n_Co := Aside0.mk (Kd.C_below Co.out (below_alloc (Below.refl _ _) (.cells #[.int .i64 y0, .int .i64 y1, .int .i64 y2, .slice Ay yl.length cy] 26)))
  have n_b7 := Aside0.mk (blk_alloc b7.out (.cells #[.int .i64 y0, .int .i64 y1, .int .i64 y2, .slice Ay yl.length cy] 26))
  have n_Cx := Aside0.mk (Kd.C_below Cx.out (below_alloc (Below.refl _ _) (.cells #[.int .i64 y0, .int .i64 y1, .int .i64 y2, .slice Ay yl.length cy] 26)))
  have n_Rx := Aside0.mk (Kd.R_alloc Rx.out (.cells #[.int .i64 y0, .int .i64 y1, .int .i64 y2, .slice Ay yl.length cy] 26))
  have n_BXx := Aside0.mk (below_alloc BXx.out (.cells #[.int .i64 y0, .int .i64 y1, .int .i64 y2, .slice Ay yl.length cy] 26))
  have n_b8 := Aside0.mk (blk_alloc b8.out (.cells #[.int .i64 y0, .int .i64 y1, .int .i64 y2, .slice Ay yl.length cy] 26))
  have n_Cy := Aside0.mk (Kd.C_below Cy.out (below_alloc (Below.refl _ _) (.cells #[.int .i64 y0, .int .i64 y1, .int .i64 y2, .slice Ay yl.length cy] 26)))
  clear C0 B b3 b4 b5 Co b7 Cx Rx BXx b8 Cy
  have C0 := n_C0
  have B := n_B
  have b3 := n_b3
  have b4 := n_b4
  have b5 := n_b5
  have Co := n_Co
  have b7 := n_b7
  have Cx := n_Cx
  have Rx := n_Rx
  have BXx := n_BXx
  have b8 := n_b8
  have Cy := n_Cy
  clear n_C0 n_B n_b3 n_b4 n_b5 n_Co n_b7 n_Cx n_Rx n_BXx n_b8 n_Cy
  have b11 := Aside0.mk (blk_new w3 (.cells #[.int .i64 y0, .int .i64 y1, .int .i64 y2, .slice Ay yl.length cy] 26))
  go_upto_region 4 with (fail)
  obtain ⟨g11, hg11⟩ : ∃ g_, g_ = w3.heap.size := ⟨_, rfl⟩
  have n_b11 := b11.out
  clear b11
  rw [← hg11] at n_b11
  rw [← hg11]
  have b11 := Aside0.mk n_b11
  clear n_b11 hg11
  generalize w3.alloc (.cells #[.int .i64 y0, .int .i64 y1, .int .i64 y2, .slice Ay yl.length cy] 26) = we at C0 B b3 b4 b5 Co b7 Cx Rx BXx b8 Cy b11 ⊢
  obtain ⟨z30, z31, z32, z33⟩ := cellsG4 b3.out
  obtain ⟨z40, z41, z42, z43⟩ := cellsG4 b4.out
  obtain ⟨z50, z51⟩ := cellsG2 b5.out
  obtain ⟨z70, z71, z72, z73⟩ := cellsG4 b7.out
  obtain ⟨z80, z81, z82, z83⟩ := cellsG4 b8.out
  obtain ⟨z90, z91, z92, z93⟩ := cellsG4 b11.out
  have k30 := cell_regrown z30
  have k31 := cell_regrown z31
  have k32 := cell_regrown z32
  have k33 := cell_regrown z33
  have k42 := cell_regrown z42
  have k43 := cell_regrown z43
  have k50 := cell_regrown z50
  have k51 := cell_regrown z51
  have k70 := cell_regrown z70
  have k71 := cell_regrown z71
  have k72 := cell_regrown z72
  have k73 := cell_regrown z73
  have k80 := cell_regrown z80
  have k81 := cell_regrown z81
  have k82 := cell_regrown z82
  have k83 := cell_regrown z83
  have k90 := cell_regrown z90
  have k91 := cell_regrown z91
  have k92 := cell_regrown z92
  have k93 := cell_regrown z93
  clear z30 z31 z32 z33 z40 z41 z42 z43 z50 z51 z70 z71 z72 z73 z80 z81 z82 z83 z90 z91 z92 z93
  have S1 := Aside0.mk (fun d os => Calls.regrown_of (rialtoref07_Same.calls k x0 x1 x2 Ax cx xl y0 y1 y2 Ay cy yl true _ (Kd.C_below Cx.out (below_regrown we d os)) Lx.out (Kd.C_below Cy.out (below_regrown we d os)) Ly.out D1.out))
  have S2 := Aside0.mk (fun d os => Calls.regrown_of (rialtoref07_Same.calls k o0 o1 o2 Ao co ol b0 b1 b2 A0 c0 l0 true _ (Kd.C_below Co.out (below_regrown we d os)) Lo.out (Kd.C_below C0.out (below_regrown we d os)) L0.out D3.out))
  have S3_ := Aside0.mk (fun d os => Calls.regrown_of (term_Less.calls q2 q3 s0 s1 m1 (Go.Sort.grow (redrawn we d) os) J1.out))
  have S4 := Aside0.mk (fun d os => Calls.regrown_of (rialtoref07_Less.calls q2 q3 s0 s1 m1 (Go.Sort.grow (redrawn we d) os) I1.out))
  have S5 := Aside0.mk (fun d os => Calls.regrown_of (term_Less.calls s0 s1 q2 q3 m2 (Go.Sort.grow (redrawn we d) os) J2.out))
  have S6 := Aside0.mk (fun d os => Calls.regrown_of (rialtoref07_Less.calls s0 s1 q2 q3 m2 (Go.Sort.grow (redrawn we d) os) I2.out))
  refine wp_region_quiet_below (by kernel_rfl) (by kernel_rfl) ?_
  repeat (quiet_step (with_reducible first | exact S1.out _ _ | exact S2.out _ _ | exact S3_.out _ _ | exact S4.out _ _ | exact S5.out _ _ | exact S6.out _ _))
  refine wpQuiet_nil ?_
  rintro wf ⟨⟨dq, osq⟩, hwf⟩
  have hb := below_regrown we dq osq
  rw [← hwf] at hb
  clear hwf k30 k31 k32 k33 k42 k43 k50 k51 k70 k71 k72 k73 k80 k81 k82 k83 k90 k91 k92 k93 S1 S2 S3_ S4 S5 S6
  
  have n_C0 := Aside0.mk (Kd.C_below C0.out hb)
  have n_B := Aside0.mk (below_step B.out hb)
  have n_b3 := Aside0.mk (blk_below b3.out hb)
  have n_b4 := Aside0.mk (blk_below b4.out hb)
  have n_b5 := Aside0.mk (blk_below b5.out hb)
  have n_Co := Aside0.mk (Kd.C_below Co.out hb)
  have n_b7 := Aside0.mk (blk_below b7.out hb)
  have n_Cx := Aside0.mk (Kd.C_below Cx.out hb)
  have n_Rx := Aside0.mk (Kd.R_below Rx.out hb)
  have n_BXx := Aside0.mk (below_step BXx.out hb)
  have n_b8 := Aside0.mk (blk_below b8.out hb)
  have n_Cy := Aside0.mk (Kd.C_below Cy.out hb)
  have n_b11 := Aside0.mk (blk_below b11.out hb)
  clear C0 B b3 b4 b5 Co b7 Cx Rx BXx b8 Cy b11
  have C0 := n_C0
  have B := n_B
  have b3 := n_b3
  have b4 := n_b4
  have b5 := n_b5
  have Co := n_Co
  have b7 := n_b7
  have Cx := n_Cx
  have Rx := n_Rx
  have BXx := n_BXx
  have b8 := n_b8
  have Cy := n_Cy
  have b11 := n_b11
  clear n_C0 n_B n_b3 n_b4 n_b5 n_Co n_b7 n_Cx n_Rx n_BXx n_b8 n_Cy n_b11
  clear hb
  obtain ⟨z25, z26, z27, z28⟩ := cellsG4 b8.out
  go_wp2_with fail
  clear z25 z26 z27 z28
  refine (rialtolaw07_spoil.calls k x0 x1 x2 _ _ xl sx wB _ BXx.out (Kd.R_tight rfl Rx.out) E6.out).mono ?_
  rintro e w10 ⟨rfl, _, hb, _⟩
  clear C0 B b3 b4 b5 Co b7 Cx Rx BXx b8 Cy b11
  have B := Aside0.mk (below_step SB.out hb)
  have b3 := Aside0.mk (blk_below S3.out hb)
  have b7 := Aside0.mk (blk_below S7.out hb)
  have C0 := Aside0.mk (Kd.C_below SC0.out hb)
  have Co := Aside0.mk (Kd.C_below SCo.out hb)
  clear hb SB S3 S7 SC0 SCo
  obtain ⟨z29, z30, z31, z32⟩ := cellsG4 b7.out
  obtain ⟨z33, z34, z35, z36⟩ := cellsG4 b3.out
  go_wp2_with fail
  clear z29 z30 z31 z32 z33 z34 z35 z36
  refine (rialtoref07_Same.calls k o0 o1 o2 Ao co ol b0 b1 b2 A0 c0 l0 true _ Co.out Lo.out C0.out L0.out D3.out).mono ?_
  rintro e w11 ⟨rfl, hb⟩
  have n_B := Aside0.mk (below_step B.out hb)
  have n_b3 := Aside0.mk (blk_below b3.out hb)
  have n_b7 := Aside0.mk (blk_below b7.out hb)
  have n_C0 := Aside0.mk (Kd.C_below C0.out hb)
  have n_Co := Aside0.mk (Kd.C_below Co.out hb)
  clear B b3 b7 C0 Co
  have B := n_B
  have b3 := n_b3
  have b7 := n_b7
  have C0 := n_C0
  have Co := n_Co
  clear n_B n_b3 n_b7 n_C0 n_Co
  clear hb
  go_wp2_with fail
  refine (rialtolaw07_live.calls k true _ D4.out).mono ?_
  rintro e w12 ⟨rfl, hb⟩
  have n_B := Aside0.mk (below_step B.out hb)
  have n_b3 := Aside0.mk (blk_below b3.out hb)
  have n_b7 := Aside0.mk (blk_below b7.out hb)
  have n_C0 := Aside0.mk (Kd.C_below C0.out hb)
  have n_Co := Aside0.mk (Kd.C_below Co.out hb)
  clear B b3 b7 C0 Co
  have B := n_B
  have b3 := n_b3
  have b7 := n_b7
  have C0 := n_C0
  have Co := n_Co
  clear n_B n_b3 n_b7 n_C0 n_Co
  clear hb
  go_wp2
  go_ret
  exact ⟨rfl, B.out⟩
/-! end by hand -/

open Go.Proofs.YthhdfefobblmkaaG
def B23_TermGrants (x : S23) : Prop := ((Lit.int .i64 x.f0).wf = true) ∧ ((Lit.int .i64 x.f1).wf = true)
theorem opens23_TermGrants : Opens Try.prog k23 23 B23_TermGrants := opens_struct (g := fun y => (⟨y.1, y.2⟩ : S23)) Try.underlying23 (by kernel_rfl) (fun _ => rfl) (opensL_cons rfl (by kernel_rfl) (opens_int Try.underlying3) (opensL_one rfl (by kernel_rfl) (opens_int Try.underlying3)))
def B26_TermGrants (x : S26) : Prop := (B23_TermGrants x.f0) ∧ ((Lit.int .i64 x.f1).wf = true) ∧ ((x.f2.length * 8 ≤ 140737488351232 ∧ x.f2.length ≤ 9223372036854775807 ∧ ∀ y_ ∈ x.f2, (Lit.int .i64 y_).wf = true))
theorem opens26_TermGrants : Opens Try.prog k26 26 B26_TermGrants := opens_struct (g := fun y => (⟨y.1, y.2.1, y.2.2⟩ : S26)) Try.underlying26 (by kernel_rfl) (fun _ => rfl) (opensL_cons rfl (by kernel_rfl) opens23_TermGrants (opensL_cons rfl (by kernel_rfl) (opens_int Try.underlying3) (opensL_one rfl (by kernel_rfl) (opens_slice Try.underlying24 (by kernel_rfl) (by kernel_rfl) (opens_int Try.underlying3)))))
def B28_TermGrants (x : S28) : Prop := ((Lit.int .i64 x.f0).wf = true) ∧ ((Lit.int .i64 x.f1).wf = true)
theorem opens28_TermGrants : Opens Try.prog k28 28 B28_TermGrants := opens_struct (g := fun y => (⟨y.1, y.2⟩ : S28)) Try.underlying28 (by kernel_rfl) (fun _ => rfl) (opensL_cons rfl (by kernel_rfl) (opens_int Try.underlying3) (opensL_one rfl (by kernel_rfl) (opens_int Try.underlying3)))
def B30_TermGrants (x : S30) : Prop := ((Lit.int .i64 x.f0).wf = true) ∧ ((Lit.int .i64 x.f1).wf = true) ∧ (B28_TermGrants x.f2)
theorem opens30_TermGrants : Opens Try.prog k30 30 B30_TermGrants := opens_struct (g := fun y => (⟨y.1, y.2.1, y.2.2⟩ : S30)) Try.underlying30 (by kernel_rfl) (fun _ => rfl) (opensL_cons rfl (by kernel_rfl) (opens_int Try.underlying3) (opensL_cons rfl (by kernel_rfl) (opens_int Try.underlying3) (opensL_one rfl (by kernel_rfl) opens28_TermGrants)))
/-- THE PURE STATEMENT of rialtolaw07_TermGrants. -/
def rialtolaw07_TermGrants.Pure : Prop := ∀ (x0 : S26) (x1 : S30) (x2 : S28), (B26_TermGrants x0) → (B30_TermGrants x1) → (B28_TermGrants x2) → ∃ k, rialtolaw07_TermGrants.f k x0.f0.f0 x0.f0.f1 x0.f1 x0.f2 x1.f0 x1.f1 x1.f2.f0 x1.f2.f1 x2.f0 x2.f1 = some true

end Go.Proofs.Ythhdfefobblmkaa.P
