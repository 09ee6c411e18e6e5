/- What is known of a world holds behind draws and makings: found by instances, so that the printed walks need few words. -/
import Derived.Test.YthhdfefobblmkaaWKept
namespace Go.Proofs.YthhdfefobblmkaaG
open Go.RowKit Go.Proofs.YthhdfefobblmkaaW.PrintWords
set_option linter.unusedVariables false
/-- b is a, behind draws and makings -/
structure Up (a b : World) : Type where
  ok : Below a.heap.size a b
instance up_refl (a : World) : Inhabited (Up a a) := ⟨⟨Below.refl _ _⟩⟩
instance up_alloc (a b : World) (o : Obj) [u : Inhabited (Up a b)] : Inhabited (Up a (b.alloc o)) := ⟨⟨below_alloc u.default.ok o⟩⟩
instance up_drewN (a b : World) (n : Nat) [u : Inhabited (Up a b)] : Inhabited (Up a (b.drewN n)) := ⟨⟨pw_below_drewN u.default.ok n⟩⟩
instance up_drew (a b : World) [u : Inhabited (Up a b)] : Inhabited (Up a b.drew) := ⟨⟨below_drew u.default.ok⟩⟩
theorem bk_ {a b : World} {g : Nat} {o : Obj} [u : Inhabited (Up a b)] (h : a.heap[g]? = some o) : b.heap[g]? = some o := blk_below h u.default.ok
theorem bl_ {w a b : World} [u : Inhabited (Up a b)] (h : Below w.heap.size w a) : Below w.heap.size w b := below_step h u.default.ok
theorem rk_ {α : Type} {d : Kd α} {e : TypeId} {a b : World} {base : Nat} {ok : Nat → Prop} {v : Value} {xs : List α} [u : Inhabited (Up a b)] (h : d.R e a base ok v xs) : d.R e b base ok v xs := Kd.R_below h u.default.ok
end Go.Proofs.YthhdfefobblmkaaG
