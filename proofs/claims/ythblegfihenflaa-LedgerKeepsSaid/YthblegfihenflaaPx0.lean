/- Functions that the laws reach, told as plain functions, each with a proof that the call computes it; for every input. Written by a program of ours out of the translation. -/
import Derived.Test.YthblegfihenflaaProg
import Derived.Below
import Derived.Deep.Draws
import Derived.Deep.AppendLies
import Derived.Maps.AppendAt
import Derived.OwnWalk
import Derived.Laws.BytesArg
import Derived.Laws.MakeOwn
import Derived.Laws.OwnMore
import Derived.Deep.OwnRows
import Derived.Tactics
import Derived.Lib.ConvBytes
import Derived.Laws.Slices
import Derived.WalkKit
import Derived.KernelRfl
import Derived.RowKit3
import Derived.Deep.LoopGhost
import Derived.Deep.QuietTactic
import Derived.BigQuiet
import Derived.WideLaws
import Derived.Deep.DeepCutAuto
import Derived.Deep.CutBlock
import Derived.Deep.RegionHeld3
import Derived.Laws.Rows
import Derived.Lib.AppendStr
import Derived.ArgAppend
import Derived.Laws.IdiomCopy
import Derived.OrdersHeld
import Derived.Laws.BitsLemmas
import Derived.RowKit
import Derived.Deep.RegionLaw
import Derived.Test.YthblegfihenflaaG0
import Derived.Test.YthblegfihenflaaG1
import Derived.Test.YthblegfihenflaaG3
import Derived.Test.YthblegfihenflaaWWords
import Derived.Test.YthblegfihenflaaWLast
import Derived.Test.YthblegfihenflaaWTab
import Derived.Test.YthblegfihenflaaWEqStruct
import Derived.Test.YthblegfihenflaaWRepsOne
import Derived.Test.YthblegfihenflaaWGuard
import Derived.Test.YthblegfihenflaaWAt
import Derived.Test.YthblegfihenflaaWMore
namespace Go.Proofs.Ythblegfihenflaa.P
open Go.RowKit Go.Proofs.YthblegfihenflaaW.PrintWords Go.Proofs.YthblegfihenflaaW.PrintLast Go.Proofs.YthblegfihenflaaW.PrintMore
attribute [local go_sem] max2_int min2_int max_two min_two max_three min_three max_four min_four   -- for this text's walks alone
set_option linter.unusedVariables false
set_option linter.unusedSimpArgs false



def errW : Option Int → Value
  | none => .nilIface
  | some c => .iface 0 (.int .i64 c)
theorem errW_none : errW none = .nilIface := rfl
theorem errW_some (c : Int) : errW (some c) = .iface 0 (.int .i64 c) := rfl

theorem info31 : (Try.prog.info? 31).map (fun i => (i.zero, i.size, i.bytes)) = some (some (.agg #[(.int .i64 0), (.int .i64 0)]), 2, 16) := by kernel_rfl
-- the values' own types
/-! #### struct type 31 -/
structure S31 where
  f0 : Int
  f1 : Int
def z31 : S31 := ⟨(0 : Int), (0 : Int)⟩
def k31 : Kd S31 := Kd.iso (Kd.pair (Kd.int .i64) (Kd.int .i64)) (fun x : S31 => (x.f0, x.f1))
theorem k31_open {w : World} {x : S31} {cs : List Value} (h : k31.K w x cs) : cs = [.int .i64 x.f0, .int .i64 x.f1] := by
  obtain ⟨_, _, rfl, rfl, rfl⟩ := h
  exact rfl
theorem k31_openM {w : World} {base : Nat} {ok : Nat → Prop} {x : S31} {cs : List Value} (h : k31.M w base ok x cs) : cs = [.int .i64 x.f0, .int .i64 x.f1] := by
  obtain ⟨_, _, rfl, rfl, rfl⟩ := h
  exact rfl
theorem k31_mk (w : World) (x : S31)  : k31.K w x [.int .i64 x.f0, .int .i64 x.f1] := ⟨[.int .i64 x.f0], [.int .i64 x.f1], rfl, rfl, rfl⟩
theorem k31_mkM (w : World) (base : Nat) (ok : Nat → Prop) (x : S31)  : k31.M w base ok x [.int .i64 x.f0, .int .i64 x.f1] := ⟨[.int .i64 x.f0], [.int .i64 x.f1], rfl, rfl, rfl⟩
def rd_T31 (xs : List S31) (i : Int) : S31 := xs.getD i.toNat z31
theorem at_T31 {w : World} {A : Option Addr} {n : Nat} {xs : List S31} (h : Kd.C k31 w A n xs) (i : Int) (h0 : 0 ≤ i) (h1 : i < n) : ∃ ad , A = some ad ∧ w.cell? (ad.add (i.toNat * 2)) = some (.int .i64 (rd_T31 xs i).f0) ∧ w.cell? ⟨(ad.add (i.toNat * 2)).block, (ad.add (i.toNat * 2)).off + 1, none⟩ = some (.int .i64 (rd_T31 xs i).f1) := by
  obtain ⟨ad, c, e, _, hK, hc0⟩ := Kd.C_get h z31 i h0 h1
  have hc : ∀ j u, c[j]? = some u → w.cell? (ad.add (i.toNat * 2 + j)) = some u := hc0
  obtain rfl := k31_open hK
  exact ⟨ad, e, hc 0 _ rfl, by rw [← add_field _ _ 1 (by omega)]; exact hc 1 _ rfl⟩

def rd_L2 (xs : List (List S31)) (i : Int) : (List S31) := xs.getD i.toNat ([] : List S31)
theorem at_L2 {w : World} {A : Option Addr} {n : Nat} {xs : List (List S31)} (h : Kd.C (Kd.slice 31 k31) w A n xs) (i : Int) (h0 : 0 ≤ i) (h1 : i < n) : ∃ ad A0 c0, A = some ad ∧ w.cell? (ad.add i.toNat) = some (.slice A0 (rd_L2 xs i).length c0) ∧ (rd_L2 xs i).length ≤ c0 ∧ k31.C w A0 (rd_L2 xs i).length (rd_L2 xs i) := by
  obtain ⟨ad, c, e, _, hK, hc0⟩ := Kd.C_get h ([] : List S31) i h0 h1
  have hc : ∀ j u, c[j]? = some u → w.cell? (ad.add (i.toNat * 1 + j)) = some u := hc0
  obtain ⟨A0, c0, rfl, l0, g0⟩ := hK
  exact ⟨ad, A0, c0, e, by have hq := hc 0 _ rfl; rwa [Nat.mul_one, Nat.add_zero] at hq, l0, g0⟩

/-! #### struct type 24 -/
structure S24 where
  f0 : (List S31)
  f1 : Int
def z24 : S24 := ⟨([] : List S31), (0 : Int)⟩
def k24 : Kd S24 := Kd.iso (Kd.pair (Kd.slice 31 k31) (Kd.int .i64)) (fun x : S24 => (x.f0, x.f1))
theorem k24_open {w : World} {x : S24} {cs : List Value} (h : k24.K w x cs) : ∃ A0 c0, cs = [.slice A0 x.f0.length c0, .int .i64 x.f1] ∧ x.f0.length ≤ c0 ∧ k31.C w A0 x.f0.length x.f0 := by
  obtain ⟨_, _, rfl, ⟨A0, c0, rfl, l0, g0⟩, rfl⟩ := h
  exact ⟨A0, c0, rfl, l0, g0⟩
theorem k24_openM {w : World} {base : Nat} {ok : Nat → Prop} {x : S24} {cs : List Value} (h : k24.M w base ok x cs) : ∃ v0, cs = [v0, .int .i64 x.f1] ∧ k31.R 31 w base ok v0 x.f0 := by
  obtain ⟨_, _, rfl, ⟨v0, rfl, g0⟩, rfl⟩ := h
  exact ⟨v0, rfl, g0⟩
theorem k24_mk (w : World) (x : S24) {A0 : Option Addr} {c0 : Nat} (l0 : x.f0.length ≤ c0) (g0 : k31.C w A0 x.f0.length x.f0) : k24.K w x [.slice A0 x.f0.length c0, .int .i64 x.f1] := ⟨[.slice A0 x.f0.length c0], [.int .i64 x.f1], rfl, ⟨A0, c0, rfl, l0, g0⟩, rfl⟩
theorem k24_mkM (w : World) (base : Nat) (ok : Nat → Prop) (x : S24) {v0 : Value} (g0 : k31.R 31 w base ok v0 x.f0) : k24.M w base ok x [v0, .int .i64 x.f1] := ⟨[v0], [.int .i64 x.f1], rfl, ⟨v0, rfl, g0⟩, rfl⟩
def rd_T24 (xs : List S24) (i : Int) : S24 := xs.getD i.toNat z24
theorem at_T24 {w : World} {A : Option Addr} {n : Nat} {xs : List S24} (h : Kd.C k24 w A n xs) (i : Int) (h0 : 0 ≤ i) (h1 : i < n) : ∃ ad A0 c0, A = some ad ∧ w.cell? (ad.add (i.toNat * 2)) = some (.slice A0 (rd_T24 xs i).f0.length c0) ∧ w.cell? ⟨(ad.add (i.toNat * 2)).block, (ad.add (i.toNat * 2)).off + 1, none⟩ = some (.int .i64 (rd_T24 xs i).f1) ∧ (rd_T24 xs i).f0.length ≤ c0 ∧ k31.C w A0 (rd_T24 xs i).f0.length (rd_T24 xs i).f0 := by
  obtain ⟨ad, c, e, _, hK, hc0⟩ := Kd.C_get h z24 i h0 h1
  have hc : ∀ j u, c[j]? = some u → w.cell? (ad.add (i.toNat * 2 + j)) = some u := hc0
  obtain ⟨A0, c0, rfl, l0, g0⟩ := k24_open hK
  exact ⟨ad, A0, c0, e, hc 0 _ rfl, by rw [← add_field _ _ 1 (by omega)]; exact hc 1 _ rfl, l0, g0⟩

def rd_L4 (xs : List (List S24)) (i : Int) : (List S24) := xs.getD i.toNat ([] : List S24)
theorem at_L4 {w : World} {A : Option Addr} {n : Nat} {xs : List (List S24)} (h : Kd.C (Kd.slice 24 k24) w A n xs) (i : Int) (h0 : 0 ≤ i) (h1 : i < n) : ∃ ad A0 c0, A = some ad ∧ w.cell? (ad.add i.toNat) = some (.slice A0 (rd_L4 xs i).length c0) ∧ (rd_L4 xs i).length ≤ c0 ∧ k24.C w A0 (rd_L4 xs i).length (rd_L4 xs i) := by
  obtain ⟨ad, c, e, _, hK, hc0⟩ := Kd.C_get h ([] : List S24) i h0 h1
  have hc : ∀ j u, c[j]? = some u → w.cell? (ad.add (i.toNat * 1 + j)) = some u := hc0
  obtain ⟨A0, c0, rfl, l0, g0⟩ := hK
  exact ⟨ad, A0, c0, e, by have hq := hc 0 _ rfl; rwa [Nat.mul_one, Nat.add_zero] at hq, l0, g0⟩

/-! #### struct type 47 -/
structure S47 where
  f0 : S24
  f1 : S24
  f2 : Int
  f3 : Int
def z47 : S47 := ⟨z24, z24, (0 : Int), (0 : Int)⟩
def k47 : Kd S47 := Kd.iso (Kd.pair k24 (Kd.pair k24 (Kd.pair (Kd.int .i64) (Kd.int .i64)))) (fun x : S47 => (x.f0, x.f1, x.f2, x.f3))
theorem k47_open {w : World} {x : S47} {cs : List Value} (h : k47.K w x cs) : ∃ A0 c0 A2 c2, cs = [.slice A0 x.f0.f0.length c0, .int .i64 x.f0.f1, .slice A2 x.f1.f0.length c2, .int .i64 x.f1.f1, .int .i64 x.f2, .int .i64 x.f3] ∧ x.f0.f0.length ≤ c0 ∧ k31.C w A0 x.f0.f0.length x.f0.f0 ∧ x.f1.f0.length ≤ c2 ∧ k31.C w A2 x.f1.f0.length x.f1.f0 := by
  obtain ⟨_, _, rfl, s0, ⟨_, _, rfl, s2, ⟨_, _, rfl, rfl, rfl⟩⟩⟩ := h
  obtain ⟨A0, c0, rfl, l0, g0⟩ := k24_open s0
  obtain ⟨A2, c2, rfl, l2, g2⟩ := k24_open s2
  exact ⟨A0, c0, A2, c2, rfl, l0, g0, l2, g2⟩
theorem k47_openM {w : World} {base : Nat} {ok : Nat → Prop} {x : S47} {cs : List Value} (h : k47.M w base ok x cs) : ∃ v0 v2, cs = [v0, .int .i64 x.f0.f1, v2, .int .i64 x.f1.f1, .int .i64 x.f2, .int .i64 x.f3] ∧ k31.R 31 w base ok v0 x.f0.f0 ∧ k31.R 31 w base ok v2 x.f1.f0 := by
  obtain ⟨_, _, rfl, s0, ⟨_, _, rfl, s2, ⟨_, _, rfl, rfl, rfl⟩⟩⟩ := h
  obtain ⟨v0, rfl, g0⟩ := k24_openM s0
  obtain ⟨v2, rfl, g2⟩ := k24_openM s2
  exact ⟨v0, v2, rfl, g0, g2⟩
theorem k47_mk (w : World) (x : S47) {A0 : Option Addr} {c0 : Nat} (l0 : x.f0.f0.length ≤ c0) (g0 : k31.C w A0 x.f0.f0.length x.f0.f0) {A2 : Option Addr} {c2 : Nat} (l2 : x.f1.f0.length ≤ c2) (g2 : k31.C w A2 x.f1.f0.length x.f1.f0) : k47.K w x [.slice A0 x.f0.f0.length c0, .int .i64 x.f0.f1, .slice A2 x.f1.f0.length c2, .int .i64 x.f1.f1, .int .i64 x.f2, .int .i64 x.f3] := ⟨[.slice A0 x.f0.f0.length c0, .int .i64 x.f0.f1], [.slice A2 x.f1.f0.length c2, .int .i64 x.f1.f1, .int .i64 x.f2, .int .i64 x.f3], rfl, (k24_mk w x.f0 l0 g0), ⟨[.slice A2 x.f1.f0.length c2, .int .i64 x.f1.f1], [.int .i64 x.f2, .int .i64 x.f3], rfl, (k24_mk w x.f1 l2 g2), ⟨[.int .i64 x.f2], [.int .i64 x.f3], rfl, rfl, rfl⟩⟩⟩
theorem k47_mkM (w : World) (base : Nat) (ok : Nat → Prop) (x : S47) {v0 : Value} (g0 : k31.R 31 w base ok v0 x.f0.f0) {v2 : Value} (g2 : k31.R 31 w base ok v2 x.f1.f0) : k47.M w base ok x [v0, .int .i64 x.f0.f1, v2, .int .i64 x.f1.f1, .int .i64 x.f2, .int .i64 x.f3] := ⟨[v0, .int .i64 x.f0.f1], [v2, .int .i64 x.f1.f1, .int .i64 x.f2, .int .i64 x.f3], rfl, (k24_mkM w base ok x.f0 g0), ⟨[v2, .int .i64 x.f1.f1], [.int .i64 x.f2, .int .i64 x.f3], rfl, (k24_mkM w base ok x.f1 g2), ⟨[.int .i64 x.f2], [.int .i64 x.f3], rfl, rfl, rfl⟩⟩⟩
def rd_T47 (xs : List S47) (i : Int) : S47 := xs.getD i.toNat z47
theorem at_T47 {w : World} {A : Option Addr} {n : Nat} {xs : List S47} (h : Kd.C k47 w A n xs) (i : Int) (h0 : 0 ≤ i) (h1 : i < n) : ∃ ad A0 c0 A2 c2, A = some ad ∧ w.cell? (ad.add (i.toNat * 6)) = some (.slice A0 (rd_T47 xs i).f0.f0.length c0) ∧ w.cell? ⟨(ad.add (i.toNat * 6)).block, (ad.add (i.toNat * 6)).off + 1, none⟩ = some (.int .i64 (rd_T47 xs i).f0.f1) ∧ w.cell? ⟨(ad.add (i.toNat * 6)).block, (ad.add (i.toNat * 6)).off + 2, none⟩ = some (.slice A2 (rd_T47 xs i).f1.f0.length c2) ∧ w.cell? ⟨(ad.add (i.toNat * 6)).block, (ad.add (i.toNat * 6)).off + 3, none⟩ = some (.int .i64 (rd_T47 xs i).f1.f1) ∧ w.cell? ⟨(ad.add (i.toNat * 6)).block, (ad.add (i.toNat * 6)).off + 4, none⟩ = some (.int .i64 (rd_T47 xs i).f2) ∧ w.cell? ⟨(ad.add (i.toNat * 6)).block, (ad.add (i.toNat * 6)).off + 5, none⟩ = some (.int .i64 (rd_T47 xs i).f3) ∧ (rd_T47 xs i).f0.f0.length ≤ c0 ∧ k31.C w A0 (rd_T47 xs i).f0.f0.length (rd_T47 xs i).f0.f0 ∧ (rd_T47 xs i).f1.f0.length ≤ c2 ∧ k31.C w A2 (rd_T47 xs i).f1.f0.length (rd_T47 xs i).f1.f0 := by
  obtain ⟨ad, c, e, _, hK, hc0⟩ := Kd.C_get h z47 i h0 h1
  have hc : ∀ j u, c[j]? = some u → w.cell? (ad.add (i.toNat * 6 + j)) = some u := hc0
  obtain ⟨A0, c0, A2, c2, rfl, l0, g0, l2, g2⟩ := k47_open hK
  exact ⟨ad, A0, c0, A2, c2, e, hc 0 _ rfl, by rw [← add_field _ _ 1 (by omega)]; exact hc 1 _ rfl, by rw [← add_field _ _ 2 (by omega)]; exact hc 2 _ rfl, by rw [← add_field _ _ 3 (by omega)]; exact hc 3 _ rfl, by rw [← add_field _ _ 4 (by omega)]; exact hc 4 _ rfl, by rw [← add_field _ _ 5 (by omega)]; exact hc 5 _ rfl, l0, g0, l2, g2⟩

end Go.Proofs.Ythblegfihenflaa.P
