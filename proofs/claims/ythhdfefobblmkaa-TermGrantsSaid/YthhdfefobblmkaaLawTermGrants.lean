/- The row of TermGrants: for every input the law returns true, and each argument reads as it did; out of the pure statement and the function's contract. -/
import Derived.Test.YthhdfefobblmkaaRows
import Derived.Test.YthhdfefobblmkaaPx31
import Derived.Test.YthhdfefobblmkaaPureTermGrants
import Derived.Test.YthhdfefobblmkaaG1
import Derived.WalkKit
import Derived.ProofKit
import Derived.OpenShut
import Derived.ShutString
import Derived.ChangeOld
import Derived.Below
import Derived.SizedLaws
import Derived.Carry
namespace Go.Proofs.Ythhdfefobblmkaa.termGrants
open Go.ChangeShapes Go.WideShapes Go.ChangeAt Go.RowKit Go.Proofs.Ythhdfefobblmkaa.P Go.Proofs.YthhdfefobblmkaaW.PrintWords Go.Proofs.YthhdfefobblmkaaG
open Go.ChangeMaps (open_string shut_string)
set_option linter.unusedVariables false
theorem own : ownKnob Try.prog.godebug = none := by kernel_rfl
theorem laidOut : laidOutB Try.prog = true := by kernel_rfl
set_option maxRecDepth 100000 in
set_option maxHeartbeats 1000000 in
theorem lifted (os : Os) (started : os.Started) (H : Type) (enc : TypeId × Value → H) :
    ReturnsInHanded {} Try.checked os 3 .any (Rows.termGrantsSpec.pre6 enc Try.prog Try.f3 Rows.termGrantsRow.domain false) (Rows.termGrantsSpec.post enc Try.prog Try.f3 false true false false) := by
  refine returnsInHanded_of_change_sized (C := Try.checked) own started (by kernel_rfl) Try.func3
    (ChangeSpec.witness6 (enc := enc) (C := Try.checked) false ⟨#[], #[(.agg #[(.int .i64 0), (.int .i64 0), (.int .i64 0), (.slice none 0 0)]), (.agg #[(.int .i64 0), (.int .i64 0), (.int .i64 0), (.int .i64 0)]), (.agg #[(.int .i64 0), (.int .i64 0)])], []⟩ 8 (by kernel_rfl) (by kernel_rfl) (by kernel_rfl) (by kernel_rfl)) ?_
  intro W base args ds gs before hval0 hW hcnd hsz0 _
  have hsz : (DataW.weightsEach Try.prog (Try.f3.params.toList ++ Rows.termGrantsSpec.plain.varTypes Try.prog) (ds ++ gs)).all (· ≤ reachBytes) = true := hsz0
  have hval : ∀ (j : Nat) t v, Try.f3.params[j]? = some t → args[j]? = some v → Value.okWide Try.prog W .any base t v := hval0
  have hW' := hW
  obtain ⟨p, q, hA0, hV, rfl, hfz, hnd⟩ := hW
  have hA : DataW.TrodAll enc Try.prog W 0 (fun _ => true) true Try.f3.params.toList args.toList ds p := hA0
  rw [Try.params3] at hA hval hsz
  obtain ⟨v0, vs0, d0, ds0, p0, q0, hargs, rfl, rfl, h0, r0⟩ := trodAll_cons hA
  obtain ⟨v1, vs1, d1, ds1, p1, q1, rfl, rfl, rfl, h1, r1⟩ := trodAll_cons r0
  obtain ⟨v2, vs2, d2, ds2, p2, q2, rfl, rfl, rfl, h2, r2⟩ := trodAll_cons r1
  obtain ⟨rfl, rfl, rfl⟩ := trodAll_nil r2
  obtain rfl : args = #[v0, v1, v2] := by cases args; simp_all
  obtain ⟨rfl, rfl⟩ := trodVars_none hV
  have k0 := h0
  have lt0 : ∀ x ∈ p0, x.block < W.heap.size := by obtain ⟨m, hm⟩ := k0; exact DataW.trod_lt m _ _ _ hm
  obtain ⟨x0, hx0, hB0⟩ := open_arg opens26_TermGrants h0 (weights_each hsz (j := 0) rfl rfl)
  obtain ⟨cs0, rfl, hcs0⟩ := agg_cells Try.underlying26 (hval 0 26 v0 rfl rfl)
  rw [hcs0] at hx0
  obtain ⟨A0_3, c0_3, rfl, l0_3, g0_3⟩ := k26_open hx0
  have k1 := h1
  have lt1 : ∀ x ∈ p1, x.block < W.heap.size := by obtain ⟨m, hm⟩ := k1; exact DataW.trod_lt m _ _ _ hm
  obtain ⟨x1, hx1, hB1⟩ := open_arg opens30_TermGrants h1 (weights_each hsz (j := 1) rfl rfl)
  obtain ⟨cs1, rfl, hcs1⟩ := agg_cells Try.underlying30 (hval 1 30 v1 rfl rfl)
  rw [hcs1] at hx1
  obtain rfl := k30_open hx1
  have k2 := h2
  have lt2 : ∀ x ∈ p2, x.block < W.heap.size := by obtain ⟨m, hm⟩ := k2; exact DataW.trod_lt m _ _ _ hm
  obtain ⟨x2, hx2, hB2⟩ := open_arg opens28_TermGrants h2 (weights_each hsz (j := 2) rfl rfl)
  obtain ⟨cs2, rfl, hcs2⟩ := agg_cells Try.underlying28 (hval 2 28 v2 rfl rfl)
  rw [hcs2] at hx2
  obtain rfl := k28_open hx2
  (try clear hA0); (try clear hval0); (try clear hsz0); (try clear hsz)
  obtain ⟨k, hk⟩ := Go.Proofs.Ythhdfefobblmkaa.Pure.TermGrants x0 x1 x2 hB0 hB1 hB2
  refine (rialtolaw07_TermGrants.calls k x0.f0.f0 x0.f0.f1 x0.f1 A0_3 c0_3 x0.f2 x1.f0 x1.f1 x1.f2.f0 x1.f2.f1 x2.f0 x2.f1 true W g0_3 l0_3 hk).mono fun e W' ⟨he, bel⟩ => ?_
  subst he
  exact ⟨_, rfl, _, _, _, [], _, [], hW', trodAll_mk1 (shut_bool Try.underlying4 _), (trodAll_cons_mk (Below.trod laidOut (by kernel_rfl) (of_decide_eq_true (by kernel_rfl)) k0 bel lt0) (trodAll_cons_mk (Below.trod laidOut (by kernel_rfl) (of_decide_eq_true (by kernel_rfl)) k1 bel lt1) (trodAll_cons_mk (Below.trod laidOut (by kernel_rfl) (of_decide_eq_true (by kernel_rfl)) k2 bel lt2) trodAll_mk0))), rfl, bel.frame _, fun h => by cases h⟩
theorem over : Rows.termGrantsRow.holds Try.pinned (OpenSpec.ofChange Rows.termGrantsSpec) :=
  OpenClaim.holds_of_wide 3 Try.f3 rfl rfl rfl rfl rfl rfl rfl ⟨rfl, rfl, rfl, rfl, rfl⟩ rfl rfl rfl rfl rfl (by kernel_rfl) Try.func3 (by kernel_rfl)
    (of_decide_eq_true (by kernel_rfl)) (by unfold Func.isWrapper; first | (rw [if_pos (by decide +kernel)]; kernel_rfl) | (rw [if_neg (by decide +kernel)]; exact ⟨rfl, rfl⟩))
    (fun os started H enc _ => lifted os started H enc)
theorem proved : Rows.TermGrantsSaid := over
#print axioms proved
end Go.Proofs.Ythhdfefobblmkaa.termGrants
namespace Go.Proofs.Ythhdfefobblmkaa
/-- The row, under a short name, for the claim. -/
theorem termGrants_holds : Rows.TermGrantsSaid := termGrants.proved
end Go.Proofs.Ythhdfefobblmkaa
