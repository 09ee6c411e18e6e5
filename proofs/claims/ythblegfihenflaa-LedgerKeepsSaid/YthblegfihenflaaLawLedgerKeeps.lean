/- The row of LedgerKeeps: for every input the law returns true, and each argument reads as it did; out of the pure statement and the function's contract. -/
import Derived.Test.YthblegfihenflaaRows
import Derived.Test.YthblegfihenflaaPx15
import Derived.Test.YthblegfihenflaaPureLedgerKeeps
import Derived.Test.YthblegfihenflaaG1
import Derived.WalkKit
import Derived.ProofKit
import Derived.OpenShut
import Derived.ShutString
import Derived.ChangeOld
import Derived.Below
import Derived.SizedLaws
import Derived.Carry
namespace Go.Proofs.Ythblegfihenflaa.ledgerKeeps
open Go.ChangeShapes Go.WideShapes Go.ChangeAt Go.RowKit Go.Proofs.Ythblegfihenflaa.P Go.Proofs.YthblegfihenflaaW.PrintWords Go.Proofs.YthblegfihenflaaG
open Go.ChangeMaps (open_string shut_string)
set_option linter.unusedVariables false
theorem own : ownKnob Try.prog.godebug = none := by kernel_rfl
theorem laidOut : laidOutB Try.prog = true := by kernel_rfl
set_option maxRecDepth 100000 in
set_option maxHeartbeats 1000000 in
theorem lifted (os : Os) (started : os.Started) (H : Type) (enc : TypeId × Value → H) :
    ReturnsInHanded {} Try.checked os 9 .any (Rows.ledgerKeepsSpec.pre6 enc Try.prog Try.f9 Rows.ledgerKeepsRow.domain false) (Rows.ledgerKeepsSpec.post enc Try.prog Try.f9 false true false false) := by
  refine returnsInHanded_of_change_sized (C := Try.checked) own started (by kernel_rfl) Try.func9
    (ChangeSpec.witness6 (enc := enc) (C := Try.checked) false ⟨#[], #[(.agg #[(.slice none 0 0), (.int .i64 0), (.slice none 0 0), (.int .i64 0), (.int .i64 0), (.int .i64 0)])], []⟩ 8 (by kernel_rfl) (by kernel_rfl) (by kernel_rfl) (by kernel_rfl)) ?_
  intro W base args ds gs before hval0 hW hcnd hsz0 _
  have hsz : (DataW.weightsEach Try.prog (Try.f9.params.toList ++ Rows.ledgerKeepsSpec.plain.varTypes Try.prog) (ds ++ gs)).all (· ≤ reachBytes) = true := hsz0
  have hval : ∀ (j : Nat) t v, Try.f9.params[j]? = some t → args[j]? = some v → Value.okWide Try.prog W .any base t v := hval0
  have hW' := hW
  obtain ⟨p, q, hA0, hV, rfl, hfz, hnd⟩ := hW
  have hA : DataW.TrodAll enc Try.prog W 0 (fun _ => true) true Try.f9.params.toList args.toList ds p := hA0
  rw [Try.params9] at hA hval hsz
  obtain ⟨v0, vs0, d0, ds0, p0, q0, hargs, rfl, rfl, h0, r0⟩ := trodAll_cons hA
  obtain ⟨rfl, rfl, rfl⟩ := trodAll_nil r0
  obtain rfl : args = #[v0] := by cases args; simp_all
  obtain ⟨rfl, rfl⟩ := trodVars_none hV
  have k0 := h0
  have lt0 : ∀ x ∈ p0, x.block < W.heap.size := by obtain ⟨m, hm⟩ := k0; exact DataW.trod_lt m _ _ _ hm
  obtain ⟨x0, hx0, hB0⟩ := open_arg opens47 h0 (weights_each hsz (j := 0) rfl rfl)
  obtain ⟨cs0, rfl, hcs0⟩ := agg_cells Try.underlying47 (hval 0 47 v0 rfl rfl)
  rw [hcs0] at hx0
  obtain ⟨A0_0, c0_0, A0_2, c0_2, rfl, l0_0, g0_0, l0_2, g0_2⟩ := k47_open hx0
  (try clear hA0); (try clear hval0); (try clear hsz0); (try clear hsz)
  obtain ⟨k, hk⟩ := Go.Proofs.Ythblegfihenflaa.Pure.LedgerKeeps x0 hB0
  refine (rialtolaw12_LedgerKeeps.calls k A0_0 c0_0 x0.f0.f0 x0.f0.f1 A0_2 c0_2 x0.f1.f0 x0.f1.f1 x0.f2 x0.f3 true W g0_0 l0_0 g0_2 l0_2 hk).mono fun e W' ⟨he, bel⟩ => ?_
  subst he
  exact ⟨_, rfl, _, _, _, [], _, [], hW', trodAll_mk1 (shut_bool Try.underlying4 _), (trodAll_cons_mk (Below.trod laidOut (by kernel_rfl) (of_decide_eq_true (by kernel_rfl)) k0 bel lt0) trodAll_mk0), rfl, bel.frame _, fun h => by cases h⟩
theorem over : Rows.ledgerKeepsRow.holds Try.pinned (OpenSpec.ofChange Rows.ledgerKeepsSpec) :=
  OpenClaim.holds_of_wide 9 Try.f9 rfl rfl rfl rfl rfl rfl rfl ⟨rfl, rfl, rfl, rfl, rfl⟩ rfl rfl rfl rfl rfl (by kernel_rfl) Try.func9 (by kernel_rfl)
    (of_decide_eq_true (by kernel_rfl)) (by unfold Func.isWrapper; first | (rw [if_pos (by decide +kernel)]; kernel_rfl) | (rw [if_neg (by decide +kernel)]; exact ⟨rfl, rfl⟩))
    (fun os started H enc _ => lifted os started H enc)
theorem proved : Rows.LedgerKeepsSaid := over
#print axioms proved
end Go.Proofs.Ythblegfihenflaa.ledgerKeeps
namespace Go.Proofs.Ythblegfihenflaa
/-- The row, under a short name, for the claim. -/
theorem ledgerKeeps_holds : Rows.LedgerKeepsSaid := ledgerKeeps.proved
end Go.Proofs.Ythblegfihenflaa
