/- Plain helpers: answers 'from some number of rounds on'; arithmetic of the walk's wraps. -/
import Derived.Test.YthhdfefobblmkaaWKept
import Derived.OpenShut
namespace Go.Proofs.YthhdfefobblmkaaG
open Go.RowKit Go.Proofs.YthhdfefobblmkaaW.PrintWords
set_option linter.unusedVariables false
theorem Ev.pos {α : Type} {c : Prop} [Decidable c] {f g : Nat → Option α} {r : α} (h : c) (k : Ev f r) : Ev (fun n => if c then f n else g n) r := by simpa only [if_pos h] using k
theorem Ev.neg {α : Type} {c : Prop} [Decidable c] {f g : Nat → Option α} {r : α} (h : ¬ c) (k : Ev g r) : Ev (fun n => if c then f n else g n) r := by simpa only [if_neg h] using k
theorem Ev.const {α : Type} {a : Option α} {r : α} (h : a = some r) : Ev (fun _ => a) r := ⟨0, fun _ _ => h⟩
/-- A call that takes no rounds. -/
theorem Ev.bind0 {α β : Type} {a : Option α} {f : Nat → α → Option β} {x : α} {r : β} (h : a = some x) (k : Ev (fun n => f n x) r) : Ev (fun n => a.bind (f n)) r := by subst h; simpa only [Option.bind_some] using k
theorem w64 {i : Int} (h0 : -9223372036854775808 ≤ i) (h1 : i ≤ 9223372036854775807) : wrap64 i = i := by unfold wrap64; omega
theorem mid_eq (i j : Nat) (h : i + j < 9223372036854775808) : wrap64 ((IntKind.u64.wrap (wrap64 ((i : Int) + (j : Int)))) / 2) = (((i + j) / 2 : Nat) : Int) := by
  rw [show wrap64 ((i : Int) + (j : Int)) = (i : Int) + (j : Int) from w64 (by omega) (by omega)]
  have : IntKind.u64.wrap ((i : Int) + (j : Int)) = (i : Int) + (j : Int) := by
    rw [IntKind.wrap_u64]; omega
  rw [this, w64 (by omega) (by omega)]
  omega
theorem wf64 {x : Int} (h : (Lit.int .i64 x).wf = true) : -9223372036854775808 ≤ x ∧ x ≤ 9223372036854775807 := bounds_i64 h
end Go.Proofs.YthhdfefobblmkaaG
