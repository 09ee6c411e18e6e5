/- Functions that the laws reach, told as plain functions, each with a proof that the call computes it; for every input. Written by a program of ours out of the translation. -/
import Derived.Test.YthblegfihenflaaPx0
import Derived.Test.YthblegfihenflaaPx6
namespace Go.Proofs.Ythblegfihenflaa.P
open Go.RowKit Go.Proofs.YthblegfihenflaaW.PrintWords Go.Proofs.YthblegfihenflaaW.PrintLast Go.Proofs.YthblegfihenflaaW.PrintMore
open Go.Proofs.YthblegfihenflaaG (bk_ bl_ rk_)
attribute [local go_sem] max2_int min2_int max_two min_two max_three min_three max_four min_four   -- for this text's walks alone
set_option linter.unusedVariables false
set_option linter.unusedSimpArgs false

/-! ### ledger_place: function 26 -/
def ledger_place.f (k : Nat) (l0 : List (S31)) (a1 : Int) : Option (Int × Bool) := (api_Amount_int.f k l0 a1).bind fun bt117 => (some (bt117.1, bt117.2))
theorem ledger_place.mono : ∀ a0 a1 k, LeO (ledger_place.f k a0 a1) (ledger_place.f (k + 1) a0 a1) := by
 intro a0 a1 k
 unfold ledger_place.f
 repeat' first
   | (with_reducible exact api_Amount_int.mono _ _ _)
   | (with_reducible exact LeO.refl _)
   | (with_reducible exact LeO.none _)
   | (with_reducible refine LeO.ite ?_ ?_)
   | (with_reducible refine LeO.bind ?_ (fun _ => ?_))
   | exact api_Amount_int.mono _ _ _
   | exact LeO.none _
   | refine LeO.ite ?_ ?_
   | refine LeO.bind ?_ (fun _ => ?_)
set_option maxHeartbeats 8000000 in
set_option maxRecDepth 100000 in
theorem ledger_place.calls (k : Nat) (A0 : Option Addr) (c0 : Nat) (l0 : List (S31)) (a1 : Int) (r1 : Int) (r2 : Bool) (w : World) (hr0 : Kd.C k31 w A0 l0.length l0) (hc0 : l0.length ≤ c0) (h : ledger_place.f k l0 a1 = some (r1, r2)) :
  Calls Try.prog 26 #[.slice A0 l0.length c0, .int .i64 a1] w fun e w' => e = .returned (.tuple #[.int .i64 r1, .bool r2]) ∧ Below w.heap.size w w' := by
 have HR0 := Aside0.mk hr0
 have HC0 := Aside0.mk hc0
 clear hr0 hc0
 have HB := Aside0.mk (Below.refl w.heap.size w)
 have H : ((api_Amount_int.f k l0 a1).bind fun bt117 => (some (bt117.1, bt117.2))) = some (r1, r2) := h
 clear h
 replace H := Option.bind_eq_some_iff.mp H
 obtain ⟨⟨t117, t118⟩, A30, H⟩ := H
 replace H : (some (t117, t118)) = some (r1, r2) := H
 have A3 := Aside0.mk A30
 clear A30
 simp only [Option.some.injEq, Prod.mk.injEq] at H
 obtain ⟨rfl, rfl⟩ := H
 go_enter Try.func26, Try.ntmps26
 go_wp2_with (first | ((with_reducible refine gate_callee (f := 31) rfl ?_); refine goesL_ (some 8) rfl rfl Try.func31 (by kernel_rfl) rfl #[.slice A0 l0.length c0, .int .i64 a1, .func (.func 32) #[] #[]] rfl (by (try simp only [List.map_toArray, List.map_cons, List.map_nil]); first | done | rfl | (simp only [List.length_drop, List.length_take]; rfl)) ?_; (with_reducible refine (api_Amount_int.calls k _ _ l0 a1  t117 t118 _ ?side1 ?side2 A3.out).mono ?_); (case side1 => repeat (first | exact HR0.out | (with_reducible refine Kd.C_alloc ?_ _) | (with_reducible refine Kd.C_drewN ?_ _) | (with_reducible refine Kd.C_drew ?_))); (case side2 => exact HC0.out); rintro e w4 ⟨rfl, hb⟩; refine ⟨_, rfl, ?_⟩; have n0_ := Aside0.mk (below_step (by exact bl_ HB.out) hb); clear HB; have HB := n0_; clear n0_; (try clear hb); (try clear hb2); (try clear hk); (try clear hi)))
 go_ret2
 exact ⟨by first | rfl | (simp [errW_none, errW_some] <;> rfl) | (simp [*, errW_none, errW_some] <;> rfl), by exact bl_ HB.out⟩

end Go.Proofs.Ythblegfihenflaa.P
