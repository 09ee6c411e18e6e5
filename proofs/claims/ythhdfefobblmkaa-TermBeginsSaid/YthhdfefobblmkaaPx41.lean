/- Functions that the laws reach, told as plain functions, each with a proof that the call computes it; for every input. Written by a program of ours out of the translation. -/
import Derived.Test.YthhdfefobblmkaaPx0
import Derived.Test.YthhdfefobblmkaaPx3
import Derived.Test.YthhdfefobblmkaaPx20
import Derived.Test.YthhdfefobblmkaaPx21
import Derived.Test.YthhdfefobblmkaaPx29
import Derived.Test.YthhdfefobblmkaaPx30
import Derived.Test.YthhdfefobblmkaaPx38
import Derived.Test.YthhdfefobblmkaaPx39
import Derived.Test.YthhdfefobblmkaaPx40
namespace Go.Proofs.Ythhdfefobblmkaa.P
open Go.RowKit Go.Proofs.YthhdfefobblmkaaW.PrintWords Go.Proofs.YthhdfefobblmkaaW.PrintLast Go.Proofs.YthhdfefobblmkaaW.PrintMore
open Go.Proofs.YthhdfefobblmkaaG (bk_ bl_ rk_)
attribute [local go_sem] max2_int min2_int max_two min_two max_three min_three max_four min_four   -- for this text's walks alone
set_option linter.unusedVariables false
set_option linter.unusedSimpArgs false

/-! ### rialtolaw07_TermBegins: function 7 -/
/-! by hand -/
open Go.Proofs.YthhdfefobblmkaaG
def rialtolaw07_TermBegins.f (k : Nat) (b0 : Int) (b1 : Int) (b2 : Int) (l0 : List Int) (me : Int) (n : Int) : Option Bool :=
  (rialtoref07_Copy.f b0 b1 b2 l0).bind fun o => (term_Begin.f k o.1 o.2.1 o.2.2.1 o.2.2.2 me n).bind fun x => (rialtoref07_Begin.f k b0 b1 b2 l0 me n).bind fun y =>
    (term_Hear.f k o.1 o.2.1 o.2.2.1 o.2.2.2 n).bind fun u => (rialtoref07_Hear.f k b0 b1 b2 l0 n).bind fun v => (rialtolaw07_spoil.f k x.1 x.2.1 x.2.2.1 x.2.2.2.1).bind fun sx => (rialtolaw07_spoil.f k u.1 u.2.1 u.2.2.1 u.2.2.2.1).bind fun su =>
      (rialtoref07_Same.f k x.1 x.2.1 x.2.2.1 x.2.2.2.1 y.1 y.2.1 y.2.2.1 y.2.2.2.1).bind fun d1 => if d1 = true then if x.2.2.2.2 = y.2.2.2.2 then (rialtoref07_Same.f k u.1 u.2.1 u.2.2.1 u.2.2.2.1 v.1 v.2.1 v.2.2.1 v.2.2.2.1).bind fun d2 => if d2 = true then if u.2.2.2.2 = v.2.2.2.2 then (rialtoref07_Same.f k o.1 o.2.1 o.2.2.1 o.2.2.2 b0 b1 b2 l0).bind fun d3 => if d3 = true then (rialtolaw07_live.f k).bind fun d4 => if d4 = true then some true else none else none else none else none else none else none
theorem rialtolaw07_TermBegins.mono : ∀ a0 a1 a2 a3 a4 a5 k, LeO (rialtolaw07_TermBegins.f k a0 a1 a2 a3 a4 a5) (rialtolaw07_TermBegins.f (k + 1) a0 a1 a2 a3 a4 a5) := by
  intro a0 a1 a2 a3 a4 a5 k
  unfold rialtolaw07_TermBegins.f
  refine LeO.bind (LeO.refl _) (fun o => LeO.bind (term_Begin.mono _ _ _ _ _ _ _) (fun x => LeO.bind (rialtoref07_Begin.mono _ _ _ _ _ _ _) (fun y => LeO.bind (term_Hear.mono _ _ _ _ _ _) (fun u => LeO.bind (rialtoref07_Hear.mono _ _ _ _ _ _) (fun v => LeO.bind (rialtolaw07_spoil.mono _ _ _ _ _) (fun sx => LeO.bind (rialtolaw07_spoil.mono _ _ _ _ _) (fun su => ?_)))))))
  exact LeO.bind (rialtoref07_Same.mono _ _ _ _ _ _ _ _ _) (fun _ => LeO.ite (LeO.ite (LeO.bind (rialtoref07_Same.mono _ _ _ _ _ _ _ _ _) (fun _ => LeO.ite (LeO.ite (LeO.bind (rialtoref07_Same.mono _ _ _ _ _ _ _ _ _) (fun _ => LeO.ite (LeO.bind (rialtolaw07_live.mono _) (fun _ => LeO.refl _)) (LeO.refl _))) (LeO.refl _)) (LeO.refl _))) (LeO.refl _)) (LeO.refl _))
theorem cellsN4 {w : World} {g : Nat} {t : TypeId} {a0 a1 a2 a3 : Value} (h : w.heap[g]? = some (.cells #[a0, a1, a2, a3] t (0, 0))) : w.cell? ⟨g, 0, none⟩ = some a0 ∧ w.cell? ⟨g, 1, none⟩ = some a1 ∧ w.cell? ⟨g, 2, none⟩ = some a2 ∧ w.cell? ⟨g, 3, none⟩ = some a3 := ⟨(blk_cell h 0).trans rfl, (blk_cell h 1).trans rfl, (blk_cell h 2).trans rfl, (blk_cell h 3).trans rfl⟩
set_option maxHeartbeats 4000000 in
set_option maxRecDepth 100000 in
theorem rialtolaw07_TermBegins.calls (k : Nat) (b0 : Int) (b1 : Int) (b2 : Int) (A0 : Option Addr) (c0 : Nat) (l0 : List Int) (me : Int) (n : Int) (r : Bool) (w : World) (hr0 : Kd.C (Kd.int .i64) w A0 l0.length l0) (hc0 : l0.length ≤ c0) (h : rialtolaw07_TermBegins.f k b0 b1 b2 l0 me n = some r) :
    Calls Try.prog 7 #[.agg #[.int .i64 b0, .int .i64 b1, .int .i64 b2, .slice A0 l0.length c0], .int .i64 me, .int .i64 n] w fun e w' => e = .returned (.bool r) ∧ Below w.heap.size w w' := by
  have hu26 := Try.underlying26
  have L0 := Aside0.mk hc0
  unfold rialtolaw07_TermBegins.f at h
  obtain ⟨⟨o0, o1, o2, ol⟩, e1, H1⟩ := Option.bind_eq_some_iff.1 h
  obtain ⟨⟨x0, x1, x2, xl, xe⟩, e2, H2⟩ := Option.bind_eq_some_iff.1 H1
  obtain ⟨⟨y0, y1, y2, yl, ye⟩, e3, H3⟩ := Option.bind_eq_some_iff.1 H2
  obtain ⟨⟨u0, u1, u2, ul, ue⟩, e4, H4⟩ := Option.bind_eq_some_iff.1 H3
  obtain ⟨⟨v0, v1, v2, vl, ve⟩, e5, H5⟩ := Option.bind_eq_some_iff.1 H4
  obtain ⟨sx, e6, H6⟩ := Option.bind_eq_some_iff.1 H5
  obtain ⟨su, e7, H7⟩ := Option.bind_eq_some_iff.1 H6
  simp only at e1 e2 e3 e4 e5 e6 e7 H7
  obtain ⟨q1, d1, H8⟩ := Option.bind_eq_some_iff.1 H7
  split at H8
  rotate_left
  · cases H8
  next f1 =>
  split at H8
  rotate_left
  · cases H8
  next g1 =>
  obtain ⟨q2, d2, H9⟩ := Option.bind_eq_some_iff.1 H8
  split at H9
  rotate_left
  · cases H9
  next f2 =>
  split at H9
  rotate_left
  · cases H9
  next g2 =>
  obtain ⟨q3, d3, H10⟩ := Option.bind_eq_some_iff.1 H9
  split at H10
  rotate_left
  · cases H10
  next f3 =>
  obtain ⟨q4, d4, H11⟩ := Option.bind_eq_some_iff.1 H10
  split at H11
  rotate_left
  · cases H11
  next f4 =>
  subst f1 f2 f3 f4
  subst g1 g2
  obtain rfl := Option.some.inj H11
  have E1 := Aside0.mk e1
  have E2 := Aside0.mk e2
  have E3 := Aside0.mk e3
  have E4 := Aside0.mk e4
  have E5 := Aside0.mk e5
  have E6 := Aside0.mk e6
  have E7 := Aside0.mk e7
  have D1 := Aside0.mk d1
  have D2 := Aside0.mk d2
  have D3 := Aside0.mk d3
  have D4 := Aside0.mk d4
  clear h H1 H2 H3 H4 H5 H6 H7 H8 H9 H10 H11 e1 e2 e3 e4 e5 e6 e7 d1 d2 d3 d4 hc0
  have C0 := Aside0.mk (hr0)
  clear hr0
  have B := Aside0.mk (Below.refl w.heap.size w)
  have n_C0 := Aside0.mk (Kd.C_below C0.out (below_alloc (Below.refl _ _) (.cells #[.int .i64 b0, .int .i64 b1, .int .i64 b2, .slice A0 l0.length c0] 26)))
  have n_B := Aside0.mk (below_alloc B.out (.cells #[.int .i64 b0, .int .i64 b1, .int .i64 b2, .slice A0 l0.length c0] 26))
  clear C0 B
  have C0 := n_C0
  have B := n_B
  clear n_C0 n_B
  have b3 := Aside0.mk (blk_new w (.cells #[.int .i64 b0, .int .i64 b1, .int .i64 b2, .slice A0 l0.length c0] 26))
  obtain ⟨z1, z2, z3, z4⟩ := cellsN4 b3.out
  go_enter Try.func7, Try.ntmps7
  go_wp2_with fail
  clear z1 z2 z3 z4
  obtain ⟨g3, hg3⟩ : ∃ g_, g_ = w.heap.size := ⟨_, rfl⟩
  have n_b3 := b3.out
  clear b3
  rw [← hg3] at n_b3
  rw [← hg3]
  have b3 := Aside0.mk n_b3
  clear n_b3 hg3
  generalize w.alloc (.cells #[.int .i64 b0, .int .i64 b1, .int .i64 b2, .slice A0 l0.length c0] 26) = wa at C0 B b3 ⊢
  refine (rialtoref07_Copy.calls b0 b1 b2 A0 c0 l0 o0 o1 o2 ol _ C0.out L0.out E1.out).mono ?_
  rintro e w1 ⟨v, rfl, ho, hb⟩
  have n_C0 := Aside0.mk (Kd.C_below C0.out hb)
  have n_B := Aside0.mk (below_step B.out hb)
  have n_b3 := Aside0.mk (blk_below b3.out hb)
  clear C0 B b3
  have C0 := n_C0
  have B := n_B
  have b3 := n_b3
  clear n_C0 n_B n_b3
  obtain ⟨Ao, co, rfl, Lo_, hCo⟩ := Kd.R_reads ho
  have Lo := Aside0.mk Lo_
  clear Lo_
  have Co := Aside0.mk (hCo)
  clear ho hb hCo
  have n_C0 := Aside0.mk (Kd.C_below C0.out (below_alloc (Below.refl _ _) (.cells #[.int .i64 o0, .int .i64 o1, .int .i64 o2, .slice Ao ol.length co] 26)))
  have n_B := Aside0.mk (below_alloc B.out (.cells #[.int .i64 o0, .int .i64 o1, .int .i64 o2, .slice Ao ol.length co] 26))
  have n_b3 := Aside0.mk (blk_alloc b3.out (.cells #[.int .i64 o0, .int .i64 o1, .int .i64 o2, .slice Ao ol.length co] 26))
  have n_Co := Aside0.mk (Kd.C_below Co.out (below_alloc (Below.refl _ _) (.cells #[.int .i64 o0, .int .i64 o1, .int .i64 o2, .slice Ao ol.length co] 26)))
  clear C0 B b3 Co
  have C0 := n_C0
  have B := n_B
  have b3 := n_b3
  have Co := n_Co
  clear n_C0 n_B n_b3 n_Co
  have b7 := Aside0.mk (blk_new w1 (.cells #[.int .i64 o0, .int .i64 o1, .int .i64 o2, .slice Ao ol.length co] 26))
  obtain ⟨z5, z6, z7, z8⟩ := cellsN4 b7.out
  go_wp2_with fail
  clear z5 z6 z7 z8
  obtain ⟨g7, hg7⟩ : ∃ g_, g_ = w1.heap.size := ⟨_, rfl⟩
  have n_b7 := b7.out
  clear b7
  rw [← hg7] at n_b7
  rw [← hg7]
  have b7 := Aside0.mk n_b7
  clear n_b7 hg7
  generalize w1.alloc (.cells #[.int .i64 o0, .int .i64 o1, .int .i64 o2, .slice Ao ol.length co] 26) = wB at C0 B b3 Co b7 ⊢
  have SB := B
  have S3 := b3
  have S7 := b7
  have SC0 := C0
  have SCo := Co
  refine (term_Begin.calls k o0 o1 o2 Ao co ol me n x0 x1 x2 xl xe _ Co.out Lo.out E2.out).mono ?_
  rintro e w2 ⟨v, rfl, ho, hb⟩
  have n_C0 := Aside0.mk (Kd.C_below C0.out hb)
  have n_B := Aside0.mk (below_step B.out hb)
  have n_b3 := Aside0.mk (blk_below b3.out hb)
  have n_Co := Aside0.mk (Kd.C_below Co.out hb)
  have n_b7 := Aside0.mk (blk_below b7.out hb)
  clear C0 B b3 Co b7
  have C0 := n_C0
  have B := n_B
  have b3 := n_b3
  have Co := n_Co
  have b7 := n_b7
  clear n_C0 n_B n_b3 n_Co n_b7
  obtain ⟨Ax, cx, rfl, Lx_, hCx⟩ := Kd.R_reads ho
  have Lx := Aside0.mk Lx_
  clear Lx_
  have Cx := Aside0.mk (hCx)
  have Rx := Aside0.mk (ho)
  have BXx := Aside0.mk (hb)
  clear ho hb hCx
  have n_C0 := Aside0.mk (Kd.C_below C0.out (below_alloc (Below.refl _ _) (.cells #[.int .i64 x0, .int .i64 x1, .int .i64 x2, .slice Ax xl.length cx] 26)))
  have n_B := Aside0.mk (below_alloc B.out (.cells #[.int .i64 x0, .int .i64 x1, .int .i64 x2, .slice Ax xl.length cx] 26))
  have n_b3 := Aside0.mk (blk_alloc b3.out (.cells #[.int .i64 x0, .int .i64 x1, .int .i64 x2, .slice Ax xl.length cx] 26))
  have n_Co := Aside0.mk (Kd.C_below Co.out (below_alloc (Below.refl _ _) (.cells #[.int .i64 x0, .int .i64 x1, .int .i64 x2, .slice Ax xl.length cx] 26)))
  have n_b7 := Aside0.mk (blk_alloc b7.out (.cells #[.int .i64 x0, .int .i64 x1, .int .i64 x2, .slice Ax xl.length cx] 26))
  have n_Cx := Aside0.mk (Kd.C_below Cx.out (below_alloc (Below.refl _ _) (.cells #[.int .i64 x0, .int .i64 x1, .int .i64 x2, .slice Ax xl.length cx] 26)))
  have n_Rx := Aside0.mk (Kd.R_alloc Rx.out (.cells #[.int .i64 x0, .int .i64 x1, .int .i64 x2, .slice Ax xl.length cx] 26))
  have n_BXx := Aside0.mk (below_alloc BXx.out (.cells #[.int .i64 x0, .int .i64 x1, .int .i64 x2, .slice Ax xl.length cx] 26))
  clear C0 B b3 Co b7 Cx Rx BXx
  have C0 := n_C0
  have B := n_B
  have b3 := n_b3
  have Co := n_Co
  have b7 := n_b7
  have Cx := n_Cx
  have Rx := n_Rx
  have BXx := n_BXx
  clear n_C0 n_B n_b3 n_Co n_b7 n_Cx n_Rx n_BXx
  have b8 := Aside0.mk (blk_new w2 (.cells #[.int .i64 x0, .int .i64 x1, .int .i64 x2, .slice Ax xl.length cx] 26))
  obtain ⟨z9, z10, z11, z12⟩ := cellsN4 b3.out
  obtain ⟨z13, z14, z15, z16⟩ := cellsN4 b8.out
  go_wp2_with fail
  clear z9 z10 z11 z12 z13 z14 z15 z16
  obtain ⟨g8, hg8⟩ : ∃ g_, g_ = w2.heap.size := ⟨_, rfl⟩
  have n_b8 := b8.out
  clear b8
  rw [← hg8] at n_b8
  rw [← hg8]
  have b8 := Aside0.mk n_b8
  clear n_b8 hg8
  generalize w2.alloc (.cells #[.int .i64 x0, .int .i64 x1, .int .i64 x2, .slice Ax xl.length cx] 26) = wc at C0 B b3 Co b7 Cx Rx BXx b8 ⊢
  refine (rialtoref07_Begin.calls k b0 b1 b2 A0 c0 l0 me n y0 y1 y2 yl _ _ C0.out L0.out E3.out).mono ?_
  rintro e w3 ⟨v, rfl, ho, hb⟩
  have n_C0 := Aside0.mk (Kd.C_below C0.out hb)
  have n_B := Aside0.mk (below_step B.out hb)
  have n_b3 := Aside0.mk (blk_below b3.out hb)
  have n_Co := Aside0.mk (Kd.C_below Co.out hb)
  have n_b7 := Aside0.mk (blk_below b7.out hb)
  have n_Cx := Aside0.mk (Kd.C_below Cx.out hb)
  have n_Rx := Aside0.mk (Kd.R_below Rx.out hb)
  have n_BXx := Aside0.mk (below_step BXx.out hb)
  have n_b8 := Aside0.mk (blk_below b8.out hb)
  clear C0 B b3 Co b7 Cx Rx BXx b8
  have C0 := n_C0
  have B := n_B
  have b3 := n_b3
  have Co := n_Co
  have b7 := n_b7
  have Cx := n_Cx
  have Rx := n_Rx
  have BXx := n_BXx
  have b8 := n_b8
  clear n_C0 n_B n_b3 n_Co n_b7 n_Cx n_Rx n_BXx n_b8
  obtain ⟨Ay, cy, rfl, Ly_, hCy⟩ := Kd.R_reads ho
  have Ly := Aside0.mk Ly_
  clear Ly_
  have Cy := Aside0.mk (hCy)
  clear ho hb hCy
  have n_C0 := Aside0.mk (Kd.C_below C0.out (below_alloc (Below.refl _ _) (.cells #[.int .i64 y0, .int .i64 y1, .int .i64 y2, .slice Ay yl.length cy] 26)))
  have n_B := Aside0.mk (below_alloc B.out (.cells #[.int .i64 y0, .int .i64 y1, .int .i64 y2, .slice Ay yl.length cy] 26))
  have n_b3 := Aside0.mk (blk_alloc b3.out (.cells #[.int .i64 y0, .int .i64 y1, .int .i64 y2, .slice Ay yl.length cy] 26))
  have n_Co := Aside0.mk (Kd.C_below Co.out (below_alloc (Below.refl _ _) (.cells #[.int .i64 y0, .int .i64 y1, .int .i64 y2, .slice Ay yl.length cy] 26)))
  have n_b7 := Aside0.mk (blk_alloc b7.out (.cells #[.int .i64 y0, .int .i64 y1, .int .i64 y2, .slice Ay yl.length cy] 26))
  have n_Cx := Aside0.mk (Kd.C_below Cx.out (below_alloc (Below.refl _ _) (.cells #[.int .i64 y0, .int .i64 y1, .int .i64 y2, .slice Ay yl.length cy] 26)))
  have n_Rx := Aside0.mk (Kd.R_alloc Rx.out (.cells #[.int .i64 y0, .int .i64 y1, .int .i64 y2, .slice Ay yl.length cy] 26))
  have n_BXx := Aside0.mk (below_alloc BXx.out (.cells #[.int .i64 y0, .int .i64 y1, .int .i64 y2, .slice Ay yl.length cy] 26))
  have n_b8 := Aside0.mk (blk_alloc b8.out (.cells #[.int .i64 y0, .int .i64 y1, .int .i64 y2, .slice Ay yl.length cy] 26))
  have n_Cy := Aside0.mk (Kd.C_below Cy.out (below_alloc (Below.refl _ _) (.cells #[.int .i64 y0, .int .i64 y1, .int .i64 y2, .slice Ay yl.length cy] 26)))
  clear C0 B b3 Co b7 Cx Rx BXx b8 Cy
  have C0 := n_C0
  have B := n_B
  have b3 := n_b3
  have Co := n_Co
  have b7 := n_b7
  have Cx := n_Cx
  have Rx := n_Rx
  have BXx := n_BXx
  have b8 := n_b8
  have Cy := n_Cy
  clear n_C0 n_B n_b3 n_Co n_b7 n_Cx n_Rx n_BXx n_b8 n_Cy
  have b10 := Aside0.mk (blk_new w3 (.cells #[.int .i64 y0, .int .i64 y1, .int .i64 y2, .slice Ay yl.length cy] 26))
  obtain ⟨z17, z18, z19, z20⟩ := cellsN4 b7.out
  obtain ⟨z21, z22, z23, z24⟩ := cellsN4 b10.out
  go_wp2_with fail
  clear z17 z18 z19 z20 z21 z22 z23 z24
  obtain ⟨g10, hg10⟩ : ∃ g_, g_ = w3.heap.size := ⟨_, rfl⟩
  have n_b10 := b10.out
  clear b10
  rw [← hg10] at n_b10
  rw [← hg10]
  have b10 := Aside0.mk n_b10
  clear n_b10 hg10
  generalize w3.alloc (.cells #[.int .i64 y0, .int .i64 y1, .int .i64 y2, .slice Ay yl.length cy] 26) = wU at C0 B b3 Co b7 Cx Rx BXx b8 Cy b10 ⊢
  have XLT := Aside0.mk (show ∀ k_, (Value.slice Ax xl.length cx).ownBlock = some k_ → k_ < wU.heap.size from fun k_ => Kd.R_lt Rx.out k_)
  have HWU := Aside0.mk BXx.out.size
  refine (term_Hear.calls k o0 o1 o2 Ao co ol n u0 u1 u2 ul ue _ Co.out Lo.out E4.out).mono ?_
  rintro e w4 ⟨v, rfl, ho, hb⟩
  have n_C0 := Aside0.mk (Kd.C_below C0.out hb)
  have n_B := Aside0.mk (below_step B.out hb)
  have n_b3 := Aside0.mk (blk_below b3.out hb)
  have n_Co := Aside0.mk (Kd.C_below Co.out hb)
  have n_b7 := Aside0.mk (blk_below b7.out hb)
  have n_Cx := Aside0.mk (Kd.C_below Cx.out hb)
  have n_Rx := Aside0.mk (Kd.R_below Rx.out hb)
  have n_BXx := Aside0.mk (below_step BXx.out hb)
  have n_b8 := Aside0.mk (blk_below b8.out hb)
  have n_Cy := Aside0.mk (Kd.C_below Cy.out hb)
  have n_b10 := Aside0.mk (blk_below b10.out hb)
  clear C0 B b3 Co b7 Cx Rx BXx b8 Cy b10
  have C0 := n_C0
  have B := n_B
  have b3 := n_b3
  have Co := n_Co
  have b7 := n_b7
  have Cx := n_Cx
  have Rx := n_Rx
  have BXx := n_BXx
  have b8 := n_b8
  have Cy := n_Cy
  have b10 := n_b10
  clear n_C0 n_B n_b3 n_Co n_b7 n_Cx n_Rx n_BXx n_b8 n_Cy n_b10
  obtain ⟨Au, cu, rfl, Lu_, hCu⟩ := Kd.R_reads ho
  have Lu := Aside0.mk Lu_
  clear Lu_
  have Cu := Aside0.mk (hCu)
  have Ru := Aside0.mk (ho)
  have BXu := Aside0.mk (hb)
  clear ho hb hCu
  have n_C0 := Aside0.mk (Kd.C_below C0.out (below_alloc (Below.refl _ _) (.cells #[.int .i64 u0, .int .i64 u1, .int .i64 u2, .slice Au ul.length cu] 26)))
  have n_B := Aside0.mk (below_alloc B.out (.cells #[.int .i64 u0, .int .i64 u1, .int .i64 u2, .slice Au ul.length cu] 26))
  have n_b3 := Aside0.mk (blk_alloc b3.out (.cells #[.int .i64 u0, .int .i64 u1, .int .i64 u2, .slice Au ul.length cu] 26))
  have n_Co := Aside0.mk (Kd.C_below Co.out (below_alloc (Below.refl _ _) (.cells #[.int .i64 u0, .int .i64 u1, .int .i64 u2, .slice Au ul.length cu] 26)))
  have n_b7 := Aside0.mk (blk_alloc b7.out (.cells #[.int .i64 u0, .int .i64 u1, .int .i64 u2, .slice Au ul.length cu] 26))
  have n_Cx := Aside0.mk (Kd.C_below Cx.out (below_alloc (Below.refl _ _) (.cells #[.int .i64 u0, .int .i64 u1, .int .i64 u2, .slice Au ul.length cu] 26)))
  have n_Rx := Aside0.mk (Kd.R_alloc Rx.out (.cells #[.int .i64 u0, .int .i64 u1, .int .i64 u2, .slice Au ul.length cu] 26))
  have n_BXx := Aside0.mk (below_alloc BXx.out (.cells #[.int .i64 u0, .int .i64 u1, .int .i64 u2, .slice Au ul.length cu] 26))
  have n_b8 := Aside0.mk (blk_alloc b8.out (.cells #[.int .i64 u0, .int .i64 u1, .int .i64 u2, .slice Au ul.length cu] 26))
  have n_Cy := Aside0.mk (Kd.C_below Cy.out (below_alloc (Below.refl _ _) (.cells #[.int .i64 u0, .int .i64 u1, .int .i64 u2, .slice Au ul.length cu] 26)))
  have n_b10 := Aside0.mk (blk_alloc b10.out (.cells #[.int .i64 u0, .int .i64 u1, .int .i64 u2, .slice Au ul.length cu] 26))
  have n_Cu := Aside0.mk (Kd.C_below Cu.out (below_alloc (Below.refl _ _) (.cells #[.int .i64 u0, .int .i64 u1, .int .i64 u2, .slice Au ul.length cu] 26)))
  have n_Ru := Aside0.mk (Kd.R_alloc Ru.out (.cells #[.int .i64 u0, .int .i64 u1, .int .i64 u2, .slice Au ul.length cu] 26))
  have n_BXu := Aside0.mk (below_alloc BXu.out (.cells #[.int .i64 u0, .int .i64 u1, .int .i64 u2, .slice Au ul.length cu] 26))
  clear C0 B b3 Co b7 Cx Rx BXx b8 Cy b10 Cu Ru BXu
  have C0 := n_C0
  have B := n_B
  have b3 := n_b3
  have Co := n_Co
  have b7 := n_b7
  have Cx := n_Cx
  have Rx := n_Rx
  have BXx := n_BXx
  have b8 := n_b8
  have Cy := n_Cy
  have b10 := n_b10
  have Cu := n_Cu
  have Ru := n_Ru
  have BXu := n_BXu
  clear n_C0 n_B n_b3 n_Co n_b7 n_Cx n_Rx n_BXx n_b8 n_Cy n_b10 n_Cu n_Ru n_BXu
  have b12 := Aside0.mk (blk_new w4 (.cells #[.int .i64 u0, .int .i64 u1, .int .i64 u2, .slice Au ul.length cu] 26))
  obtain ⟨z25, z26, z27, z28⟩ := cellsN4 b3.out
  obtain ⟨z29, z30, z31, z32⟩ := cellsN4 b12.out
  go_wp2_with fail
  clear z25 z26 z27 z28 z29 z30 z31 z32
  obtain ⟨g12, hg12⟩ : ∃ g_, g_ = w4.heap.size := ⟨_, rfl⟩
  have n_b12 := b12.out
  clear b12
  rw [← hg12] at n_b12
  rw [← hg12]
  have b12 := Aside0.mk n_b12
  clear n_b12 hg12
  generalize w4.alloc (.cells #[.int .i64 u0, .int .i64 u1, .int .i64 u2, .slice Au ul.length cu] 26) = wd at C0 B b3 Co b7 Cx Rx BXx b8 Cy b10 Cu Ru BXu b12 ⊢
  refine (rialtoref07_Hear.calls k b0 b1 b2 A0 c0 l0 n v0 v1 v2 vl _ _ C0.out L0.out E5.out).mono ?_
  rintro e w5 ⟨v, rfl, ho, hb⟩
  have n_C0 := Aside0.mk (Kd.C_below C0.out hb)
  have n_B := Aside0.mk (below_step B.out hb)
  have n_b3 := Aside0.mk (blk_below b3.out hb)
  have n_Co := Aside0.mk (Kd.C_below Co.out hb)
  have n_b7 := Aside0.mk (blk_below b7.out hb)
  have n_Cx := Aside0.mk (Kd.C_below Cx.out hb)
  have n_Rx := Aside0.mk (Kd.R_below Rx.out hb)
  have n_BXx := Aside0.mk (below_step BXx.out hb)
  have n_b8 := Aside0.mk (blk_below b8.out hb)
  have n_Cy := Aside0.mk (Kd.C_below Cy.out hb)
  have n_b10 := Aside0.mk (blk_below b10.out hb)
  have n_Cu := Aside0.mk (Kd.C_below Cu.out hb)
  have n_Ru := Aside0.mk (Kd.R_below Ru.out hb)
  have n_BXu := Aside0.mk (below_step BXu.out hb)
  have n_b12 := Aside0.mk (blk_below b12.out hb)
  clear C0 B b3 Co b7 Cx Rx BXx b8 Cy b10 Cu Ru BXu b12
  have C0 := n_C0
  have B := n_B
  have b3 := n_b3
  have Co := n_Co
  have b7 := n_b7
  have Cx := n_Cx
  have Rx := n_Rx
  have BXx := n_BXx
  have b8 := n_b8
  have Cy := n_Cy
  have b10 := n_b10
  have Cu := n_Cu
  have Ru := n_Ru
  have BXu := n_BXu
  have b12 := n_b12
  clear n_C0 n_B n_b3 n_Co n_b7 n_Cx n_Rx n_BXx n_b8 n_Cy n_b10 n_Cu n_Ru n_BXu n_b12
  obtain ⟨Av, cv, rfl, Lv_, hCv⟩ := Kd.R_reads ho
  have Lv := Aside0.mk Lv_
  clear Lv_
  have Cv := Aside0.mk (hCv)
  clear ho hb hCv
  have n_C0 := Aside0.mk (Kd.C_below C0.out (below_alloc (Below.refl _ _) (.cells #[.int .i64 v0, .int .i64 v1, .int .i64 v2, .slice Av vl.length cv] 26)))
  have n_B := Aside0.mk (below_alloc B.out (.cells #[.int .i64 v0, .int .i64 v1, .int .i64 v2, .slice Av vl.length cv] 26))
  have n_b3 := Aside0.mk (blk_alloc b3.out (.cells #[.int .i64 v0, .int .i64 v1, .int .i64 v2, .slice Av vl.length cv] 26))
  have n_Co := Aside0.mk (Kd.C_below Co.out (below_alloc (Below.refl _ _) (.cells #[.int .i64 v0, .int .i64 v1, .int .i64 v2, .slice Av vl.length cv] 26)))
  have n_b7 := Aside0.mk (blk_alloc b7.out (.cells #[.int .i64 v0, .int .i64 v1, .int .i64 v2, .slice Av vl.length cv] 26))
  have n_Cx := Aside0.mk (Kd.C_below Cx.out (below_alloc (Below.refl _ _) (.cells #[.int .i64 v0, .int .i64 v1, .int .i64 v2, .slice Av vl.length cv] 26)))
  have n_Rx := Aside0.mk (Kd.R_alloc Rx.out (.cells #[.int .i64 v0, .int .i64 v1, .int .i64 v2, .slice Av vl.length cv] 26))
  have n_BXx := Aside0.mk (below_alloc BXx.out (.cells #[.int .i64 v0, .int .i64 v1, .int .i64 v2, .slice Av vl.length cv] 26))
  have n_b8 := Aside0.mk (blk_alloc b8.out (.cells #[.int .i64 v0, .int .i64 v1, .int .i64 v2, .slice Av vl.length cv] 26))
  have n_Cy := Aside0.mk (Kd.C_below Cy.out (below_alloc (Below.refl _ _) (.cells #[.int .i64 v0, .int .i64 v1, .int .i64 v2, .slice Av vl.length cv] 26)))
  have n_b10 := Aside0.mk (blk_alloc b10.out (.cells #[.int .i64 v0, .int .i64 v1, .int .i64 v2, .slice Av vl.length cv] 26))
  have n_Cu := Aside0.mk (Kd.C_below Cu.out (below_alloc (Below.refl _ _) (.cells #[.int .i64 v0, .int .i64 v1, .int .i64 v2, .slice Av vl.length cv] 26)))
  have n_Ru := Aside0.mk (Kd.R_alloc Ru.out (.cells #[.int .i64 v0, .int .i64 v1, .int .i64 v2, .slice Av vl.length cv] 26))
  have n_BXu := Aside0.mk (below_alloc BXu.out (.cells #[.int .i64 v0, .int .i64 v1, .int .i64 v2, .slice Av vl.length cv] 26))
  have n_b12 := Aside0.mk (blk_alloc b12.out (.cells #[.int .i64 v0, .int .i64 v1, .int .i64 v2, .slice Av vl.length cv] 26))
  have n_Cv := Aside0.mk (Kd.C_below Cv.out (below_alloc (Below.refl _ _) (.cells #[.int .i64 v0, .int .i64 v1, .int .i64 v2, .slice Av vl.length cv] 26)))
  clear C0 B b3 Co b7 Cx Rx BXx b8 Cy b10 Cu Ru BXu b12 Cv
  have C0 := n_C0
  have B := n_B
  have b3 := n_b3
  have Co := n_Co
  have b7 := n_b7
  have Cx := n_Cx
  have Rx := n_Rx
  have BXx := n_BXx
  have b8 := n_b8
  have Cy := n_Cy
  have b10 := n_b10
  have Cu := n_Cu
  have Ru := n_Ru
  have BXu := n_BXu
  have b12 := n_b12
  have Cv := n_Cv
  clear n_C0 n_B n_b3 n_Co n_b7 n_Cx n_Rx n_BXx n_b8 n_Cy n_b10 n_Cu n_Ru n_BXu n_b12 n_Cv
  have b14 := Aside0.mk (blk_new w5 (.cells #[.int .i64 v0, .int .i64 v1, .int .i64 v2, .slice Av vl.length cv] 26))
  obtain ⟨z33, z34, z35, z36⟩ := cellsN4 b8.out
  obtain ⟨z37, z38, z39, z40⟩ := cellsN4 b10.out
  obtain ⟨z41, z42, z43, z44⟩ := cellsN4 b14.out
  go_wp2_with fail
  clear z33 z34 z35 z36 z37 z38 z39 z40 z41 z42 z43 z44
  obtain ⟨g14, hg14⟩ : ∃ g_, g_ = w5.heap.size := ⟨_, rfl⟩
  have n_b14 := b14.out
  clear b14
  rw [← hg14] at n_b14
  rw [← hg14]
  have b14 := Aside0.mk n_b14
  clear n_b14 hg14
  generalize w5.alloc (.cells #[.int .i64 v0, .int .i64 v1, .int .i64 v2, .slice Av vl.length cv] 26) = we at C0 B b3 Co b7 Cx Rx BXx b8 Cy b10 Cu Ru BXu b12 Cv b14 ⊢
  refine (rialtoref07_Same.calls k x0 x1 x2 Ax cx xl y0 y1 y2 Ay cy yl true _ Cx.out Lx.out Cy.out Ly.out D1.out).mono ?_
  rintro e w6 ⟨rfl, hb⟩
  have n_C0 := Aside0.mk (Kd.C_below C0.out hb)
  have n_B := Aside0.mk (below_step B.out hb)
  have n_b3 := Aside0.mk (blk_below b3.out hb)
  have n_Co := Aside0.mk (Kd.C_below Co.out hb)
  have n_b7 := Aside0.mk (blk_below b7.out hb)
  have n_Cx := Aside0.mk (Kd.C_below Cx.out hb)
  have n_Rx := Aside0.mk (Kd.R_below Rx.out hb)
  have n_BXx := Aside0.mk (below_step BXx.out hb)
  have n_b8 := Aside0.mk (blk_below b8.out hb)
  have n_Cy := Aside0.mk (Kd.C_below Cy.out hb)
  have n_b10 := Aside0.mk (blk_below b10.out hb)
  have n_Cu := Aside0.mk (Kd.C_below Cu.out hb)
  have n_Ru := Aside0.mk (Kd.R_below Ru.out hb)
  have n_BXu := Aside0.mk (below_step BXu.out hb)
  have n_b12 := Aside0.mk (blk_below b12.out hb)
  have n_Cv := Aside0.mk (Kd.C_below Cv.out hb)
  have n_b14 := Aside0.mk (blk_below b14.out hb)
  clear C0 B b3 Co b7 Cx Rx BXx b8 Cy b10 Cu Ru BXu b12 Cv b14
  have C0 := n_C0
  have B := n_B
  have b3 := n_b3
  have Co := n_Co
  have b7 := n_b7
  have Cx := n_Cx
  have Rx := n_Rx
  have BXx := n_BXx
  have b8 := n_b8
  have Cy := n_Cy
  have b10 := n_b10
  have Cu := n_Cu
  have Ru := n_Ru
  have BXu := n_BXu
  have b12 := n_b12
  have Cv := n_Cv
  have b14 := n_b14
  clear n_C0 n_B n_b3 n_Co n_b7 n_Cx n_Rx n_BXx n_b8 n_Cy n_b10 n_Cu n_Ru n_BXu n_b12 n_Cv n_b14
  clear hb
  obtain ⟨z45, z46, z47, z48⟩ := cellsN4 b12.out
  obtain ⟨z49, z50, z51, z52⟩ := cellsN4 b14.out
  go_wp2_with fail
  clear z45 z46 z47 z48 z49 z50 z51 z52
  refine (rialtoref07_Same.calls k u0 u1 u2 Au cu ul v0 v1 v2 Av cv vl true _ Cu.out Lu.out Cv.out Lv.out D2.out).mono ?_
  rintro e w7 ⟨rfl, hb⟩
  have n_C0 := Aside0.mk (Kd.C_below C0.out hb)
  have n_B := Aside0.mk (below_step B.out hb)
  have n_b3 := Aside0.mk (blk_below b3.out hb)
  have n_Co := Aside0.mk (Kd.C_below Co.out hb)
  have n_b7 := Aside0.mk (blk_below b7.out hb)
  have n_Cx := Aside0.mk (Kd.C_below Cx.out hb)
  have n_Rx := Aside0.mk (Kd.R_below Rx.out hb)
  have n_BXx := Aside0.mk (below_step BXx.out hb)
  have n_b8 := Aside0.mk (blk_below b8.out hb)
  have n_Cy := Aside0.mk (Kd.C_below Cy.out hb)
  have n_b10 := Aside0.mk (blk_below b10.out hb)
  have n_Cu := Aside0.mk (Kd.C_below Cu.out hb)
  have n_Ru := Aside0.mk (Kd.R_below Ru.out hb)
  have n_BXu := Aside0.mk (below_step BXu.out hb)
  have n_b12 := Aside0.mk (blk_below b12.out hb)
  have n_Cv := Aside0.mk (Kd.C_below Cv.out hb)
  have n_b14 := Aside0.mk (blk_below b14.out hb)
  clear C0 B b3 Co b7 Cx Rx BXx b8 Cy b10 Cu Ru BXu b12 Cv b14
  have C0 := n_C0
  have B := n_B
  have b3 := n_b3
  have Co := n_Co
  have b7 := n_b7
  have Cx := n_Cx
  have Rx := n_Rx
  have BXx := n_BXx
  have b8 := n_b8
  have Cy := n_Cy
  have b10 := n_b10
  have Cu := n_Cu
  have Ru := n_Ru
  have BXu := n_BXu
  have b12 := n_b12
  have Cv := n_Cv
  have b14 := n_b14
  clear n_C0 n_B n_b3 n_Co n_b7 n_Cx n_Rx n_BXx n_b8 n_Cy n_b10 n_Cu n_Ru n_BXu n_b12 n_Cv n_b14
  clear hb
  obtain ⟨z53, z54, z55, z56⟩ := cellsN4 b7.out
  obtain ⟨z57, z58, z59, z60⟩ := cellsN4 b3.out
  go_wp2_with fail
  clear z53 z54 z55 z56 z57 z58 z59 z60
  refine (rialtoref07_Same.calls k o0 o1 o2 Ao co ol b0 b1 b2 A0 c0 l0 true _ Co.out Lo.out C0.out L0.out D3.out).mono ?_
  rintro e w8 ⟨rfl, hb⟩
  have n_C0 := Aside0.mk (Kd.C_below C0.out hb)
  have n_B := Aside0.mk (below_step B.out hb)
  have n_b3 := Aside0.mk (blk_below b3.out hb)
  have n_Co := Aside0.mk (Kd.C_below Co.out hb)
  have n_b7 := Aside0.mk (blk_below b7.out hb)
  have n_Cx := Aside0.mk (Kd.C_below Cx.out hb)
  have n_Rx := Aside0.mk (Kd.R_below Rx.out hb)
  have n_BXx := Aside0.mk (below_step BXx.out hb)
  have n_b8 := Aside0.mk (blk_below b8.out hb)
  have n_Cy := Aside0.mk (Kd.C_below Cy.out hb)
  have n_b10 := Aside0.mk (blk_below b10.out hb)
  have n_Cu := Aside0.mk (Kd.C_below Cu.out hb)
  have n_Ru := Aside0.mk (Kd.R_below Ru.out hb)
  have n_BXu := Aside0.mk (below_step BXu.out hb)
  have n_b12 := Aside0.mk (blk_below b12.out hb)
  have n_Cv := Aside0.mk (Kd.C_below Cv.out hb)
  have n_b14 := Aside0.mk (blk_below b14.out hb)
  clear C0 B b3 Co b7 Cx Rx BXx b8 Cy b10 Cu Ru BXu b12 Cv b14
  have C0 := n_C0
  have B := n_B
  have b3 := n_b3
  have Co := n_Co
  have b7 := n_b7
  have Cx := n_Cx
  have Rx := n_Rx
  have BXx := n_BXx
  have b8 := n_b8
  have Cy := n_Cy
  have b10 := n_b10
  have Cu := n_Cu
  have Ru := n_Ru
  have BXu := n_BXu
  have b12 := n_b12
  have Cv := n_Cv
  have b14 := n_b14
  clear n_C0 n_B n_b3 n_Co n_b7 n_Cx n_Rx n_BXx n_b8 n_Cy n_b10 n_Cu n_Ru n_BXu n_b12 n_Cv n_b14
  clear hb
  obtain ⟨z61, z62, z63, z64⟩ := cellsN4 b8.out
  go_wp2_with fail
  clear z61 z62 z63 z64
  refine (rialtolaw07_spoil.calls k x0 x1 x2 _ _ xl sx wB _ BXx.out (Kd.R_tight rfl Rx.out) E6.out).mono ?_
  rintro e w9 ⟨rfl, _, hb, hk⟩
  have m12 := Aside0.mk (blk_kept b12.out hk (fun e => Kd.R_ne Rx.out b12.out (by decide) e))
  have mRu := Aside0.mk (Kd.R_kept (Kd.R_tight rfl Ru.out) hk (fun k_ e_ h_ => by have h1 := Kd.R_base Ru.out k_ e_.symm; have h2 := XLT.out k_ h_.symm; omega))
  have mBX := Aside0.mk hb
  clear hb hk C0 B b3 Co b7 Cx Rx BXx b8 Cy b10 Cu Ru BXu b12 Cv b14
  have b12 := m12
  have Ru := mRu
  have BXx := mBX
  clear m12 mRu mBX
  obtain ⟨z65, z66, z67, z68⟩ := cellsN4 b12.out
  go_wp2_with fail
  clear z65 z66 z67 z68
  refine (rialtolaw07_spoil.calls k u0 u1 u2 _ _ ul su wB _ BXx.out (Kd.R_tight rfl (Kd.R_lower Ru.out HWU.out)) E7.out).mono ?_
  rintro e w10 ⟨rfl, _, hb, _⟩
  clear b12 Ru BXx
  have B := Aside0.mk (below_step SB.out hb)
  have b3 := Aside0.mk (blk_below S3.out hb)
  have b7 := Aside0.mk (blk_below S7.out hb)
  have C0 := Aside0.mk (Kd.C_below SC0.out hb)
  have Co := Aside0.mk (Kd.C_below SCo.out hb)
  clear hb SB S3 S7 SC0 SCo
  obtain ⟨z69, z70, z71, z72⟩ := cellsN4 b7.out
  obtain ⟨z73, z74, z75, z76⟩ := cellsN4 b3.out
  go_wp2_with fail
  clear z69 z70 z71 z72 z73 z74 z75 z76
  refine (rialtoref07_Same.calls k o0 o1 o2 Ao co ol b0 b1 b2 A0 c0 l0 true _ Co.out Lo.out C0.out L0.out D3.out).mono ?_
  rintro e w11 ⟨rfl, hb⟩
  have n_B := Aside0.mk (below_step B.out hb)
  have n_b3 := Aside0.mk (blk_below b3.out hb)
  have n_b7 := Aside0.mk (blk_below b7.out hb)
  have n_C0 := Aside0.mk (Kd.C_below C0.out hb)
  have n_Co := Aside0.mk (Kd.C_below Co.out hb)
  clear B b3 b7 C0 Co
  have B := n_B
  have b3 := n_b3
  have b7 := n_b7
  have C0 := n_C0
  have Co := n_Co
  clear n_B n_b3 n_b7 n_C0 n_Co
  clear hb
  go_wp2_with fail
  refine (rialtolaw07_live.calls k true _ D4.out).mono ?_
  rintro e w12 ⟨rfl, hb⟩
  have n_B := Aside0.mk (below_step B.out hb)
  have n_b3 := Aside0.mk (blk_below b3.out hb)
  have n_b7 := Aside0.mk (blk_below b7.out hb)
  have n_C0 := Aside0.mk (Kd.C_below C0.out hb)
  have n_Co := Aside0.mk (Kd.C_below Co.out hb)
  clear B b3 b7 C0 Co
  have B := n_B
  have b3 := n_b3
  have b7 := n_b7
  have C0 := n_C0
  have Co := n_Co
  clear n_B n_b3 n_b7 n_C0 n_Co
  clear hb
  go_wp2
  go_ret
  exact ⟨rfl, B.out⟩
/-! end by hand -/

open Go.Proofs.YthhdfefobblmkaaG
def B23_TermBegins (x : S23) : Prop := ((Lit.int .i64 x.f0).wf = true) ∧ ((Lit.int .i64 x.f1).wf = true)
theorem opens23_TermBegins : Opens Try.prog k23 23 B23_TermBegins := opens_struct (g := fun y => (⟨y.1, y.2⟩ : S23)) Try.underlying23 (by kernel_rfl) (fun _ => rfl) (opensL_cons rfl (by kernel_rfl) (opens_int Try.underlying3) (opensL_one rfl (by kernel_rfl) (opens_int Try.underlying3)))
def B26_TermBegins (x : S26) : Prop := (B23_TermBegins x.f0) ∧ ((Lit.int .i64 x.f1).wf = true) ∧ ((x.f2.length * 8 ≤ 140737488351232 ∧ x.f2.length ≤ 9223372036854775807 ∧ ∀ y_ ∈ x.f2, (Lit.int .i64 y_).wf = true))
theorem opens26_TermBegins : Opens Try.prog k26 26 B26_TermBegins := opens_struct (g := fun y => (⟨y.1, y.2.1, y.2.2⟩ : S26)) Try.underlying26 (by kernel_rfl) (fun _ => rfl) (opensL_cons rfl (by kernel_rfl) opens23_TermBegins (opensL_cons rfl (by kernel_rfl) (opens_int Try.underlying3) (opensL_one rfl (by kernel_rfl) (opens_slice Try.underlying24 (by kernel_rfl) (by kernel_rfl) (opens_int Try.underlying3)))))
/-- THE PURE STATEMENT of rialtolaw07_TermBegins. -/
def rialtolaw07_TermBegins.Pure : Prop := ∀ (x0 : S26) (x1 : Int) (x2 : Int), (B26_TermBegins x0) → ((Lit.int .i64 x1).wf = true) → ((Lit.int .i64 x2).wf = true) → ∃ k, rialtolaw07_TermBegins.f k x0.f0.f0 x0.f0.f1 x0.f1 x0.f2 x1 x2 = some true

end Go.Proofs.Ythhdfefobblmkaa.P
