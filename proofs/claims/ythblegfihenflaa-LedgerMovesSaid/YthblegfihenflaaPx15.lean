/- Functions that the laws reach, told as plain functions, each with a proof that the call computes it; for every input. Written by a program of ours out of the translation. -/
import Derived.Test.YthblegfihenflaaPx0
import Derived.Test.YthblegfihenflaaPx2
import Derived.Test.YthblegfihenflaaPx6
import Derived.Test.YthblegfihenflaaPx8
import Derived.Test.YthblegfihenflaaPx13
import Derived.Test.YthblegfihenflaaPx14
namespace Go.Proofs.Ythblegfihenflaa.P
open Go.RowKit Go.Proofs.YthblegfihenflaaW.PrintWords Go.Proofs.YthblegfihenflaaW.PrintLast Go.Proofs.YthblegfihenflaaW.PrintMore
attribute [local go_sem] max2_int min2_int max_two min_two max_three min_three max_four min_four   -- for this text's walks alone
set_option linter.unusedVariables false
set_option linter.unusedSimpArgs false

/-! ### rialtolaw12_LedgerMoves: function 3 -/
mutual
def rialtolaw12_LedgerMoves.j0 : Nat → Bool → List (S31) → Int → List (S31) → Int → List (S31) → Int → List (S31) → Int → Option (Bool)
  | 0, _, _, _, _, _, _, _, _, _ => none
  | k + 1, x73, x234000, x234001, x239000, x239001, x245000, x245001, x251000, x251001 => if x73 = true then (some false) else (rialtolaw12_LedgerMoves.l0 k 0 x234000 x234001 x239000 x239001 x245000 x245001 x251000 x251001)
def rialtolaw12_LedgerMoves.l0 : Nat → Int → List (S31) → Int → List (S31) → Int → List (S31) → Int → List (S31) → Int → Option (Bool)
  | 0, _, _, _, _, _, _, _, _, _ => none
  | k + 1, x16, x234000, x234001, x239000, x239001, x245000, x245001, x251000, x251001 => if x16 < (x245000.length : Int) then (if 0 ≤ x16 then (rialtolaw12_LedgerMoves.l0 k (wrap64 (x16 + 1)) x234000 x234001 x239000 x239001 (x245000.set (x16 : Int).toNat (⟨(rd_T31 x245000 x16).f0, (-1)⟩ : S31)) x245001 x251000 x251001) else (none)) else (rialtolaw12_LedgerMoves.l1 k 0 x234000 x234001 x239000 x239001 x251000 x251001)
def rialtolaw12_LedgerMoves.l1 : Nat → Int → List (S31) → Int → List (S31) → Int → List (S31) → Int → Option (Bool)
  | 0, _, _, _, _, _, _, _ => none
  | k + 1, x17, x234000, x234001, x239000, x239001, x251000, x251001 => if x17 < (x251000.length : Int) then (if 0 ≤ x17 then (rialtolaw12_LedgerMoves.l1 k (wrap64 (x17 + 1)) x234000 x234001 x239000 x239001 (x251000.set (x17 : Int).toNat (⟨(rd_T31 x251000 x17).f0, (-2)⟩ : S31)) x251001) else (none)) else ((rialtoref12_Same.f k x239000 x239001 x234000 x234001).bind fun t268 => (if t268 = true then ((rialtolaw12_live.f k).bind fun t269 => (some t269)) else (some false)))
end
def rialtolaw12_LedgerMoves.f (k : Nat) (l0_0 : List (S31)) (a0_1 : Int) (a1 : Int) (a2 : Int) : Option (Bool) := (rialtoref12_Copy.f l0_0 a0_1).bind fun bt234 => ((ledger_Credit.f k bt234.1 bt234.2 a1 a2).bind fun bt239 => ((ledger_Debit.f k bt234.1 bt234.2 a1 a2).bind fun bt245 => ((rialtoref12_Credit.f k l0_0 a0_1 a1 a2).bind fun bt251 => ((rialtoref12_Debit.f k l0_0 a0_1 a1 a2).bind fun bt257 => ((rialtoref12_Same.f k bt239.1 bt239.2.1 bt251.1 bt251.2.1).bind fun t263 => (if t263 = true then (if bt239.2.2 = bt251.2.2 then ((rialtoref12_Same.f k bt245.1 bt245.2.1 bt257.1 bt257.2.1).bind fun t264 => (if t264 = true then (if bt245.2.2 = bt257.2.2 then ((rialtoref12_Same.f k bt234.1 bt234.2 l0_0 a0_1).bind fun t265 => (rialtolaw12_LedgerMoves.j0 k (!t265) l0_0 a0_1 bt234.1 bt234.2 bt239.1 bt239.2.1 bt245.1 bt245.2.1)) else (rialtolaw12_LedgerMoves.j0 k true l0_0 a0_1 bt234.1 bt234.2 bt239.1 bt239.2.1 bt245.1 bt245.2.1)) else (rialtolaw12_LedgerMoves.j0 k true l0_0 a0_1 bt234.1 bt234.2 bt239.1 bt239.2.1 bt245.1 bt245.2.1))) else (rialtolaw12_LedgerMoves.j0 k true l0_0 a0_1 bt234.1 bt234.2 bt239.1 bt239.2.1 bt245.1 bt245.2.1)) else (rialtolaw12_LedgerMoves.j0 k true l0_0 a0_1 bt234.1 bt234.2 bt239.1 bt239.2.1 bt245.1 bt245.2.1)))))))
theorem rialtolaw12_LedgerMoves.mono_l : ∀ k, (∀ y0 y1 y2 y3 y4 y5 y6 y7 y8, LeO (rialtolaw12_LedgerMoves.j0 k y0 y1 y2 y3 y4 y5 y6 y7 y8) (rialtolaw12_LedgerMoves.j0 (k + 1) y0 y1 y2 y3 y4 y5 y6 y7 y8)) ∧ (∀ y0 y1 y2 y3 y4 y5 y6 y7 y8, LeO (rialtolaw12_LedgerMoves.l0 k y0 y1 y2 y3 y4 y5 y6 y7 y8) (rialtolaw12_LedgerMoves.l0 (k + 1) y0 y1 y2 y3 y4 y5 y6 y7 y8)) ∧ (∀ y0 y1 y2 y3 y4 y5 y6, LeO (rialtolaw12_LedgerMoves.l1 k y0 y1 y2 y3 y4 y5 y6) (rialtolaw12_LedgerMoves.l1 (k + 1) y0 y1 y2 y3 y4 y5 y6))
  | 0 => ⟨fun _ _ _ _ _ _ _ _ _ r h => by simp [rialtolaw12_LedgerMoves.j0] at h, fun _ _ _ _ _ _ _ _ _ r h => by simp [rialtolaw12_LedgerMoves.l0] at h, fun _ _ _ _ _ _ _ r h => by simp [rialtolaw12_LedgerMoves.l1] at h⟩
  | k + 1 => by
    obtain ⟨ih0, ih1, ih2⟩ := rialtolaw12_LedgerMoves.mono_l k
    refine ⟨?_, ?_, ?_⟩
    · intro y0 y1 y2 y3 y4 y5 y6 y7 y8
      unfold rialtolaw12_LedgerMoves.j0
      repeat' first
      | (with_reducible exact ih0 _ _ _ _ _ _ _ _ _)
      | (with_reducible exact ih1 _ _ _ _ _ _ _ _ _)
      | (with_reducible exact ih2 _ _ _ _ _ _ _)
      | (with_reducible exact ledger_Credit.mono _ _ _ _ _)
      | (with_reducible exact ledger_Debit.mono _ _ _ _ _)
      | (with_reducible exact rialtolaw12_live.mono _)
      | (with_reducible exact rialtoref12_Credit.mono _ _ _ _ _)
      | (with_reducible exact rialtoref12_Debit.mono _ _ _ _ _)
      | (with_reducible exact rialtoref12_Same.mono _ _ _ _ _)
      | (with_reducible exact LeO.refl _)
      | (with_reducible exact LeO.none _)
      | (with_reducible refine LeO.ite ?_ ?_)
      | (with_reducible refine LeO.bind ?_ (fun _ => ?_))
      | exact ih0 _ _ _ _ _ _ _ _ _
      | exact ih1 _ _ _ _ _ _ _ _ _
      | exact ih2 _ _ _ _ _ _ _
      | exact ledger_Credit.mono _ _ _ _ _
      | exact ledger_Debit.mono _ _ _ _ _
      | exact rialtolaw12_live.mono _
      | exact rialtoref12_Credit.mono _ _ _ _ _
      | exact rialtoref12_Debit.mono _ _ _ _ _
      | exact rialtoref12_Same.mono _ _ _ _ _
      | exact LeO.none _
      | refine LeO.ite ?_ ?_
      | refine LeO.bind ?_ (fun _ => ?_)
    · intro y0 y1 y2 y3 y4 y5 y6 y7 y8
      unfold rialtolaw12_LedgerMoves.l0
      repeat' first
      | (with_reducible exact ih0 _ _ _ _ _ _ _ _ _)
      | (with_reducible exact ih1 _ _ _ _ _ _ _ _ _)
      | (with_reducible exact ih2 _ _ _ _ _ _ _)
      | (with_reducible exact ledger_Credit.mono _ _ _ _ _)
      | (with_reducible exact ledger_Debit.mono _ _ _ _ _)
      | (with_reducible exact rialtolaw12_live.mono _)
      | (with_reducible exact rialtoref12_Credit.mono _ _ _ _ _)
      | (with_reducible exact rialtoref12_Debit.mono _ _ _ _ _)
      | (with_reducible exact rialtoref12_Same.mono _ _ _ _ _)
      | (with_reducible exact LeO.refl _)
      | (with_reducible exact LeO.none _)
      | (with_reducible refine LeO.ite ?_ ?_)
      | (with_reducible refine LeO.bind ?_ (fun _ => ?_))
      | exact ih0 _ _ _ _ _ _ _ _ _
      | exact ih1 _ _ _ _ _ _ _ _ _
      | exact ih2 _ _ _ _ _ _ _
      | exact ledger_Credit.mono _ _ _ _ _
      | exact ledger_Debit.mono _ _ _ _ _
      | exact rialtolaw12_live.mono _
      | exact rialtoref12_Credit.mono _ _ _ _ _
      | exact rialtoref12_Debit.mono _ _ _ _ _
      | exact rialtoref12_Same.mono _ _ _ _ _
      | exact LeO.none _
      | refine LeO.ite ?_ ?_
      | refine LeO.bind ?_ (fun _ => ?_)
    · intro y0 y1 y2 y3 y4 y5 y6
      unfold rialtolaw12_LedgerMoves.l1
      repeat' first
      | (with_reducible exact ih0 _ _ _ _ _ _ _ _ _)
      | (with_reducible exact ih1 _ _ _ _ _ _ _ _ _)
      | (with_reducible exact ih2 _ _ _ _ _ _ _)
      | (with_reducible exact ledger_Credit.mono _ _ _ _ _)
      | (with_reducible exact ledger_Debit.mono _ _ _ _ _)
      | (with_reducible exact rialtolaw12_live.mono _)
      | (with_reducible exact rialtoref12_Credit.mono _ _ _ _ _)
      | (with_reducible exact rialtoref12_Debit.mono _ _ _ _ _)
      | (with_reducible exact rialtoref12_Same.mono _ _ _ _ _)
      | (with_reducible exact LeO.refl _)
      | (with_reducible exact LeO.none _)
      | (with_reducible refine LeO.ite ?_ ?_)
      | (with_reducible refine LeO.bind ?_ (fun _ => ?_))
      | exact ih0 _ _ _ _ _ _ _ _ _
      | exact ih1 _ _ _ _ _ _ _ _ _
      | exact ih2 _ _ _ _ _ _ _
      | exact ledger_Credit.mono _ _ _ _ _
      | exact ledger_Debit.mono _ _ _ _ _
      | exact rialtolaw12_live.mono _
      | exact rialtoref12_Credit.mono _ _ _ _ _
      | exact rialtoref12_Debit.mono _ _ _ _ _
      | exact rialtoref12_Same.mono _ _ _ _ _
      | exact LeO.none _
      | refine LeO.ite ?_ ?_
      | refine LeO.bind ?_ (fun _ => ?_)
theorem rialtolaw12_LedgerMoves.mono : ∀ a0 a1 a2 a3 k, LeO (rialtolaw12_LedgerMoves.f k a0 a1 a2 a3) (rialtolaw12_LedgerMoves.f (k + 1) a0 a1 a2 a3) := by
  intro a0 a1 a2 a3 k
  obtain ⟨ih0, ih1, ih2⟩ := rialtolaw12_LedgerMoves.mono_l k
  unfold rialtolaw12_LedgerMoves.f
  repeat' first
      | (with_reducible exact ih0 _ _ _ _ _ _ _ _ _)
      | (with_reducible exact ih1 _ _ _ _ _ _ _ _ _)
      | (with_reducible exact ih2 _ _ _ _ _ _ _)
      | (with_reducible exact ledger_Credit.mono _ _ _ _ _)
      | (with_reducible exact ledger_Debit.mono _ _ _ _ _)
      | (with_reducible exact rialtolaw12_live.mono _)
      | (with_reducible exact rialtoref12_Credit.mono _ _ _ _ _)
      | (with_reducible exact rialtoref12_Debit.mono _ _ _ _ _)
      | (with_reducible exact rialtoref12_Same.mono _ _ _ _ _)
      | (with_reducible exact LeO.refl _)
      | (with_reducible exact LeO.none _)
      | (with_reducible refine LeO.ite ?_ ?_)
      | (with_reducible refine LeO.bind ?_ (fun _ => ?_))
      | exact ih0 _ _ _ _ _ _ _ _ _
      | exact ih1 _ _ _ _ _ _ _ _ _
      | exact ih2 _ _ _ _ _ _ _
      | exact ledger_Credit.mono _ _ _ _ _
      | exact ledger_Debit.mono _ _ _ _ _
      | exact rialtolaw12_live.mono _
      | exact rialtoref12_Credit.mono _ _ _ _ _
      | exact rialtoref12_Debit.mono _ _ _ _ _
      | exact rialtoref12_Same.mono _ _ _ _ _
      | exact LeO.none _
      | refine LeO.ite ?_ ?_
      | refine LeO.bind ?_ (fun _ => ?_)
set_option maxHeartbeats 8000000 in
set_option maxRecDepth 100000 in
theorem rialtolaw12_LedgerMoves.calls (k : Nat) (A0_0 : Option Addr) (c0_0 : Nat) (l0_0 : List (S31)) (a0_1 : Int) (a1 : Int) (a2 : Int) (r : Bool) (w : World) (hr0_0 : Kd.C k31 w A0_0 l0_0.length l0_0) (hc0_0 : l0_0.length ≤ c0_0) (h : rialtolaw12_LedgerMoves.f k l0_0 a0_1 a1 a2 = some r) :
    Calls Try.prog 3 #[.agg #[.slice A0_0 l0_0.length c0_0, .int .i64 a0_1], .int .i64 a1, .int .i64 a2] w fun e w' => e = .returned (.bool r) ∧ Below w.heap.size w w' := by
  have hu24 := Try.underlying24
  have HR0_0 := Aside0.mk hr0_0
  have HC0_0 := Aside0.mk hc0_0
  clear hr0_0 hc0_0
  have HB := Aside0.mk (Below.refl w.heap.size w)
  have H : ((rialtoref12_Copy.f l0_0 a0_1).bind fun bt234 => ((ledger_Credit.f k bt234.1 bt234.2 a1 a2).bind fun bt239 => ((ledger_Debit.f k bt234.1 bt234.2 a1 a2).bind fun bt245 => ((rialtoref12_Credit.f k l0_0 a0_1 a1 a2).bind fun bt251 => ((rialtoref12_Debit.f k l0_0 a0_1 a1 a2).bind fun bt257 => ((rialtoref12_Same.f k bt239.1 bt239.2.1 bt251.1 bt251.2.1).bind fun t263 => (if t263 = true then (if bt239.2.2 = bt251.2.2 then ((rialtoref12_Same.f k bt245.1 bt245.2.1 bt257.1 bt257.2.1).bind fun t264 => (if t264 = true then (if bt245.2.2 = bt257.2.2 then ((rialtoref12_Same.f k bt234.1 bt234.2 l0_0 a0_1).bind fun t265 => (rialtolaw12_LedgerMoves.j0 k (!t265) l0_0 a0_1 bt234.1 bt234.2 bt239.1 bt239.2.1 bt245.1 bt245.2.1)) else (rialtolaw12_LedgerMoves.j0 k true l0_0 a0_1 bt234.1 bt234.2 bt239.1 bt239.2.1 bt245.1 bt245.2.1)) else (rialtolaw12_LedgerMoves.j0 k true l0_0 a0_1 bt234.1 bt234.2 bt239.1 bt239.2.1 bt245.1 bt245.2.1))) else (rialtolaw12_LedgerMoves.j0 k true l0_0 a0_1 bt234.1 bt234.2 bt239.1 bt239.2.1 bt245.1 bt245.2.1)) else (rialtolaw12_LedgerMoves.j0 k true l0_0 a0_1 bt234.1 bt234.2 bt239.1 bt239.2.1 bt245.1 bt245.2.1)))))))) = some r := h
  clear h
  replace H := Option.bind_eq_some_iff.mp H
  obtain ⟨⟨t234, t237⟩, A40, H⟩ := H
  replace H : ((ledger_Credit.f k t234 t237 a1 a2).bind fun bt239 => ((ledger_Debit.f k t234 t237 a1 a2).bind fun bt245 => ((rialtoref12_Credit.f k l0_0 a0_1 a1 a2).bind fun bt251 => ((rialtoref12_Debit.f k l0_0 a0_1 a1 a2).bind fun bt257 => ((rialtoref12_Same.f k bt239.1 bt239.2.1 bt251.1 bt251.2.1).bind fun t263 => (if t263 = true then (if bt239.2.2 = bt251.2.2 then ((rialtoref12_Same.f k bt245.1 bt245.2.1 bt257.1 bt257.2.1).bind fun t264 => (if t264 = true then (if bt245.2.2 = bt257.2.2 then ((rialtoref12_Same.f k t234 t237 l0_0 a0_1).bind fun t265 => (rialtolaw12_LedgerMoves.j0 k (!t265) l0_0 a0_1 t234 t237 bt239.1 bt239.2.1 bt245.1 bt245.2.1)) else (rialtolaw12_LedgerMoves.j0 k true l0_0 a0_1 t234 t237 bt239.1 bt239.2.1 bt245.1 bt245.2.1)) else (rialtolaw12_LedgerMoves.j0 k true l0_0 a0_1 t234 t237 bt239.1 bt239.2.1 bt245.1 bt245.2.1))) else (rialtolaw12_LedgerMoves.j0 k true l0_0 a0_1 t234 t237 bt239.1 bt239.2.1 bt245.1 bt245.2.1)) else (rialtolaw12_LedgerMoves.j0 k true l0_0 a0_1 t234 t237 bt239.1 bt239.2.1 bt245.1 bt245.2.1))))))) = some r := H
  have A4 := Aside0.mk A40
  clear A40
  replace H := Option.bind_eq_some_iff.mp H
  obtain ⟨⟨t239, t242, t243⟩, A50, H⟩ := H
  replace H : ((ledger_Debit.f k t234 t237 a1 a2).bind fun bt245 => ((rialtoref12_Credit.f k l0_0 a0_1 a1 a2).bind fun bt251 => ((rialtoref12_Debit.f k l0_0 a0_1 a1 a2).bind fun bt257 => ((rialtoref12_Same.f k t239 t242 bt251.1 bt251.2.1).bind fun t263 => (if t263 = true then (if t243 = bt251.2.2 then ((rialtoref12_Same.f k bt245.1 bt245.2.1 bt257.1 bt257.2.1).bind fun t264 => (if t264 = true then (if bt245.2.2 = bt257.2.2 then ((rialtoref12_Same.f k t234 t237 l0_0 a0_1).bind fun t265 => (rialtolaw12_LedgerMoves.j0 k (!t265) l0_0 a0_1 t234 t237 t239 t242 bt245.1 bt245.2.1)) else (rialtolaw12_LedgerMoves.j0 k true l0_0 a0_1 t234 t237 t239 t242 bt245.1 bt245.2.1)) else (rialtolaw12_LedgerMoves.j0 k true l0_0 a0_1 t234 t237 t239 t242 bt245.1 bt245.2.1))) else (rialtolaw12_LedgerMoves.j0 k true l0_0 a0_1 t234 t237 t239 t242 bt245.1 bt245.2.1)) else (rialtolaw12_LedgerMoves.j0 k true l0_0 a0_1 t234 t237 t239 t242 bt245.1 bt245.2.1)))))) = some r := H
  have A5 := Aside0.mk A50
  clear A50
  replace H := Option.bind_eq_some_iff.mp H
  obtain ⟨⟨t245, t248, t249⟩, A60, H⟩ := H
  replace H : ((rialtoref12_Credit.f k l0_0 a0_1 a1 a2).bind fun bt251 => ((rialtoref12_Debit.f k l0_0 a0_1 a1 a2).bind fun bt257 => ((rialtoref12_Same.f k t239 t242 bt251.1 bt251.2.1).bind fun t263 => (if t263 = true then (if t243 = bt251.2.2 then ((rialtoref12_Same.f k t245 t248 bt257.1 bt257.2.1).bind fun t264 => (if t264 = true then (if t249 = bt257.2.2 then ((rialtoref12_Same.f k t234 t237 l0_0 a0_1).bind fun t265 => (rialtolaw12_LedgerMoves.j0 k (!t265) l0_0 a0_1 t234 t237 t239 t242 t245 t248)) else (rialtolaw12_LedgerMoves.j0 k true l0_0 a0_1 t234 t237 t239 t242 t245 t248)) else (rialtolaw12_LedgerMoves.j0 k true l0_0 a0_1 t234 t237 t239 t242 t245 t248))) else (rialtolaw12_LedgerMoves.j0 k true l0_0 a0_1 t234 t237 t239 t242 t245 t248)) else (rialtolaw12_LedgerMoves.j0 k true l0_0 a0_1 t234 t237 t239 t242 t245 t248))))) = some r := H
  have A6 := Aside0.mk A60
  clear A60
  replace H := Option.bind_eq_some_iff.mp H
  obtain ⟨⟨t251, t254, t255⟩, A70, H⟩ := H
  replace H : ((rialtoref12_Debit.f k l0_0 a0_1 a1 a2).bind fun bt257 => ((rialtoref12_Same.f k t239 t242 t251 t254).bind fun t263 => (if t263 = true then (if t243 = t255 then ((rialtoref12_Same.f k t245 t248 bt257.1 bt257.2.1).bind fun t264 => (if t264 = true then (if t249 = bt257.2.2 then ((rialtoref12_Same.f k t234 t237 l0_0 a0_1).bind fun t265 => (rialtolaw12_LedgerMoves.j0 k (!t265) l0_0 a0_1 t234 t237 t239 t242 t245 t248)) else (rialtolaw12_LedgerMoves.j0 k true l0_0 a0_1 t234 t237 t239 t242 t245 t248)) else (rialtolaw12_LedgerMoves.j0 k true l0_0 a0_1 t234 t237 t239 t242 t245 t248))) else (rialtolaw12_LedgerMoves.j0 k true l0_0 a0_1 t234 t237 t239 t242 t245 t248)) else (rialtolaw12_LedgerMoves.j0 k true l0_0 a0_1 t234 t237 t239 t242 t245 t248)))) = some r := H
  have A7 := Aside0.mk A70
  clear A70
  replace H := Option.bind_eq_some_iff.mp H
  obtain ⟨⟨t257, t260, t261⟩, A80, H⟩ := H
  replace H : ((rialtoref12_Same.f k t239 t242 t251 t254).bind fun t263 => (if t263 = true then (if t243 = t255 then ((rialtoref12_Same.f k t245 t248 t257 t260).bind fun t264 => (if t264 = true then (if t249 = t261 then ((rialtoref12_Same.f k t234 t237 l0_0 a0_1).bind fun t265 => (rialtolaw12_LedgerMoves.j0 k (!t265) l0_0 a0_1 t234 t237 t239 t242 t245 t248)) else (rialtolaw12_LedgerMoves.j0 k true l0_0 a0_1 t234 t237 t239 t242 t245 t248)) else (rialtolaw12_LedgerMoves.j0 k true l0_0 a0_1 t234 t237 t239 t242 t245 t248))) else (rialtolaw12_LedgerMoves.j0 k true l0_0 a0_1 t234 t237 t239 t242 t245 t248)) else (rialtolaw12_LedgerMoves.j0 k true l0_0 a0_1 t234 t237 t239 t242 t245 t248))) = some r := H
  have A8 := Aside0.mk A80
  clear A80
  have HC9 := Aside0.mk H
  clear H
  go_enter Try.func3, Try.ntmps3
  go_upto_region 6 with (first | ((with_reducible refine gate_dst (N := 3) rfl ?_); refine box_event ?hg (N := 3) ?hd (cs := #[.slice A0_0 l0_0.length c0_0, .int .i64 a0_1]) (t := 24) ?hr ?_; (case hd => rfl); (case hg => rfl); (case hr => first | (go_simp; done) | (go_simp; rfl)); intro gb233 hg w10 hbox hb; have n0_ := Aside0.mk (below_step (by repeat (first | (with_reducible first | exact HB.out | apply below_alloc | apply pw_below_drewN | apply below_drew1) | exact HB.out)) hb); have n1_ := Aside0.mk (hbox); have n2_ := Aside0.mk ((by rw [hg]; exact (below_size (by repeat (first | (with_reducible first | exact HB.out | apply below_alloc | apply pw_below_drewN | apply below_drew1) | exact HB.out))) : w.heap.size ≤ gb233)); have n3_ := Aside0.mk ((by rw [hg]; exact (below_size (by repeat (first | (with_reducible first | exact HB.out | apply below_alloc | apply pw_below_drewN | apply below_drew1) | exact HB.out))) : w.heap.size ≤ gb233)); clear HB; have HB := n0_; have BK233 := n1_; have GW233 := n2_; have GE233 := n3_; clear n0_ n1_ n2_ n3_; clear hb hbox hg; have hcz11_0 : w10.cell? ⟨gb233, 0, none⟩ = some (.slice A0_0 l0_0.length c0_0) := (blk_cell BK233.out 0).trans rfl; have hcz11_1 : w10.cell? ⟨gb233, 1, none⟩ = some (.int .i64 a0_1) := (blk_cell BK233.out 1).trans rfl; have hfz11_0 := blk_frozen BK233.out 0; have hfz11_1 := blk_frozen BK233.out 1) | ((with_reducible refine gate_callee (f := 10) rfl ?_); refine goesL_ (some 19) rfl rfl Try.func10 (by kernel_rfl) rfl #[.agg #[.slice A0_0 l0_0.length c0_0, .int .i64 a0_1]] rfl (by (try simp only [List.map_toArray, List.map_cons, List.map_nil]); first | done | rfl | (simp only [List.length_drop, List.length_take]; rfl)) ?_; (with_reducible refine (rialtoref12_Copy.calls _ _ l0_0 a0_1 t234 t237 _ ?side1 ?side2 A4.out).mono ?_); (case side1 => repeat (first | exact (Kd.C_below HR0_0.out HB.out) | (with_reducible refine Kd.C_alloc ?_ _) | (with_reducible refine Kd.C_drewN ?_ _) | (with_reducible refine Kd.C_drew ?_))); (case side2 => exact HC0_0.out); rintro e w12 ⟨v235, rfl, ho0, hb⟩; refine ⟨_, rfl, ?_⟩; have n0_ := Aside0.mk (Kd.R_lower ho0 (below_size (by repeat (first | (with_reducible first | exact HB.out | apply below_alloc | apply pw_below_drewN | apply below_drew1 | refine below_set ?_ GE233.out) | exact HB.out)))); have n1_ := Aside0.mk (blk_below (g := gb233) (o := .cells #[.slice A0_0 l0_0.length c0_0, .int .i64 a0_1] 24 (0, 0)) (by (with_reducible repeat (first | refine blk_drewN ?_ _ | refine blk_drew ?_ | refine blk_alloc ?_ _)); exact BK233.out) hb); have n2_ := Aside0.mk (below_step (by repeat (first | (with_reducible first | exact HB.out | apply below_alloc | apply pw_below_drewN | apply below_drew1 | refine below_set ?_ GE233.out) | exact HB.out)) hb); clear BK233; clear HB; have HO236 := n0_; have BK233 := n1_; have HB := n2_; clear n0_ n1_ n2_; (try clear hb); (try clear hb2); (try clear hk); (try clear hi); (try clear ho0)) | ((with_reducible refine gate_dst (N := 7) rfl ?_); refine box_event ?hg (N := 7) ?hd (cs := #[.slice none 0 0, .int .i64 0]) (t := 24) ?hr ?_; (case hd => rfl); (case hg => rfl); (case hr => first | (go_simp; done) | (go_simp; rfl)); intro gb238 hg w13 hbox hb; have n0_ := Aside0.mk (Kd.R_below (by (with_reducible repeat (first | apply Kd.R_alloc | apply Kd.R_drewN | apply Kd.R_drew)); exact HO236.out) hb); have n1_ := Aside0.mk (blk_below (g := gb233) (o := .cells #[.slice A0_0 l0_0.length c0_0, .int .i64 a0_1] 24 (0, 0)) (by (with_reducible repeat (first | refine blk_drewN ?_ _ | refine blk_drew ?_ | refine blk_alloc ?_ _)); exact BK233.out) hb); have n2_ := Aside0.mk (below_step (by repeat (first | (with_reducible first | exact HB.out | apply below_alloc | apply pw_below_drewN | apply below_drew1 | refine below_set ?_ GE233.out) | exact HB.out)) hb); have n3_ := Aside0.mk (hbox); have n4_ := Aside0.mk ((by rw [hg]; exact (below_size (by repeat (first | (with_reducible first | exact HB.out | apply below_alloc | apply pw_below_drewN | apply below_drew1 | refine below_set ?_ GE233.out) | exact HB.out))) : w.heap.size ≤ gb238)); have n5_ := Aside0.mk ((by rw [hg]; exact (below_size (by repeat (first | (with_reducible first | exact HB.out | apply below_alloc | apply pw_below_drewN | apply below_drew1 | refine below_set ?_ GE233.out) | exact HB.out))) : w.heap.size ≤ gb238)); have n6_ := Aside0.mk ((by rw [hg]; exact Nat.ne_of_lt (blk_lt (g := gb233) (o := .cells #[.slice A0_0 l0_0.length c0_0, .int .i64 a0_1] 24 (0, 0)) (by (with_reducible repeat (first | refine blk_drewN ?_ _ | refine blk_drew ?_ | refine blk_alloc ?_ _)); exact BK233.out)) : gb233 ≠ gb238)); have n7_ := Aside0.mk ((by rw [hg]; exact Nat.ne_of_gt (blk_lt (g := gb233) (o := .cells #[.slice A0_0 l0_0.length c0_0, .int .i64 a0_1] 24 (0, 0)) (by (with_reducible repeat (first | refine blk_drewN ?_ _ | refine blk_drew ?_ | refine blk_alloc ?_ _)); exact BK233.out)) : gb238 ≠ gb233)); clear HO236; clear BK233; clear HB; have HO236 := n0_; have BK233 := n1_; have HB := n2_; have BK238 := n3_; have GW238 := n4_; have GE238 := n5_; have NB233_238 := n6_; have NB238_233 := n7_; clear n0_ n1_ n2_ n3_ n4_ n5_ n6_ n7_; clear hb hbox hg; obtain ⟨Ao14, co14, eo14⟩ := Kd.R_slice HO236.out; subst eo14; have hnb15 := NB238_233.out; have hnc15 := NB233_238.out; have hcz16_0 : w13.cell? ⟨gb238, 0, none⟩ = some (.slice none 0 0) := (blk_cell BK238.out 0).trans rfl; have hcz16_1 : w13.cell? ⟨gb238, 1, none⟩ = some (.int .i64 0) := (blk_cell BK238.out 1).trans rfl; have hfz16_0 := blk_frozen BK238.out 0; have hfz16_1 := blk_frozen BK238.out 1) | ((with_reducible refine gate_callee (f := 11) rfl ?_); refine goesL_ (some 24) rfl rfl Try.func11 (by kernel_rfl) rfl #[.agg #[.slice Ao14 t234.length co14, .int .i64 t237], .int .i64 a1, .int .i64 a2] rfl (by (try simp only [List.map_toArray, List.map_cons, List.map_nil]); first | done | rfl | (simp only [List.length_drop, List.length_take]; rfl)) ?_; (with_reducible refine (ledger_Credit.calls k _ _ t234 t237 a1 a2 t239 t242 t243 _ ?side1 ?side2 A5.out).mono ?_); (case side1 => refine (Kd.R_reads' (e := 31) (base := w.heap.size) (ok := fun k_ => True) (n := t234.length) (c := co14) ?_).2.2; exact (by (with_reducible repeat (first | apply Kd.R_alloc | apply Kd.R_drewN | apply Kd.R_drew)); exact (Kd.R_mono (Kd.R_far (p := ⟨gb238, 1, none⟩) (Kd.R_far (p := ⟨gb238, 0, none⟩) (Kd.R_types HO236.out BK238.out (by decide)) (fun _ hk => hk.2) (.slice Ao14 t234.length co14)) (fun _ hk => hk.2) (.int .i64 t237)) (fun _ h_ => h_.1)))); (case side2 => exact (Kd.R_reads' HO236.out).2.1); rintro e w17 ⟨v240, rfl, ho0, hb⟩; refine ⟨_, rfl, ?_⟩; have n0_ := Aside0.mk (Kd.R_elder' (by (with_reducible repeat (first | apply Kd.R_alloc | apply Kd.R_drewN | apply Kd.R_drew)); exact (Kd.R_mono (Kd.R_far (p := ⟨gb238, 1, none⟩) (Kd.R_far (p := ⟨gb238, 0, none⟩) (Kd.R_types HO236.out BK238.out (by decide)) (fun _ hk => hk.2) (.slice Ao14 t234.length co14)) (fun _ hk => hk.2) (.int .i64 t237)) (fun _ h_ => h_.1))) (Kd.R_base ho0) hb); have n1_ := Aside0.mk (Kd.R_lower (Kd.R_new' ho0 (Kd.R_lt (by (with_reducible repeat (first | apply Kd.R_alloc | apply Kd.R_drewN | apply Kd.R_drew)); exact (Kd.R_mono (Kd.R_far (p := ⟨gb238, 1, none⟩) (Kd.R_far (p := ⟨gb238, 0, none⟩) (Kd.R_types HO236.out BK238.out (by decide)) (fun _ hk => hk.2) (.slice Ao14 t234.length co14)) (fun _ hk => hk.2) (.int .i64 t237)) (fun _ h_ => h_.1))))) (below_size (by repeat (first | (with_reducible first | exact HB.out | apply below_alloc | apply pw_below_drewN | apply below_drew1 | refine below_set ?_ GE233.out | refine below_set ?_ GE238.out) | exact HB.out)))); have n2_ := Aside0.mk (blk_below (g := gb233) (o := .cells #[.slice A0_0 l0_0.length c0_0, .int .i64 a0_1] 24 (0, 0)) (by (with_reducible repeat (first | refine blk_drewN ?_ _ | refine blk_drew ?_ | refine blk_alloc ?_ _)); refine blk_far ?_ NB233_238.out _; (with_reducible repeat (first | refine blk_drewN ?_ _ | refine blk_drew ?_ | refine blk_alloc ?_ _)); refine blk_far ?_ NB233_238.out _; (with_reducible repeat (first | refine blk_drewN ?_ _ | refine blk_drew ?_ | refine blk_alloc ?_ _)); exact BK233.out) hb); have n3_ := Aside0.mk (blk_below (g := gb238) (o := .cells #[.slice Ao14 t234.length co14, .int .i64 t237] 24 (0, 0)) (by (with_reducible repeat (first | refine blk_drewN ?_ _ | refine blk_drew ?_ | refine blk_alloc ?_ _)); refine blk_put (cs := #[.slice Ao14 t234.length co14, .int .i64 0]) ?_ 1 _ rfl; (with_reducible repeat (first | refine blk_drewN ?_ _ | refine blk_drew ?_ | refine blk_alloc ?_ _)); refine blk_put (cs := #[.slice none 0 0, .int .i64 0]) ?_ 0 _ rfl; (with_reducible repeat (first | refine blk_drewN ?_ _ | refine blk_drew ?_ | refine blk_alloc ?_ _)); exact BK238.out) hb); have n4_ := Aside0.mk (below_step (by repeat (first | (with_reducible first | exact HB.out | apply below_alloc | apply pw_below_drewN | apply below_drew1 | refine below_set ?_ GE233.out | refine below_set ?_ GE238.out) | exact HB.out)) hb); clear HO236; clear BK233; clear BK238; clear HB; have HO236 := n0_; have HO241 := n1_; have BK233 := n2_; have BK238 := n3_; have HB := n4_; clear n0_ n1_ n2_ n3_ n4_; (try clear hb); (try clear hb2); (try clear hk); (try clear hi); (try clear ho0)) | ((with_reducible refine gate_dst (N := 8) rfl ?_); refine box_event ?hg (N := 8) ?hd (cs := #[.slice none 0 0, .int .i64 0]) (t := 24) ?hr ?_; (case hd => rfl); (case hg => rfl); (case hr => first | (go_simp; done) | (go_simp; rfl)); intro gb244 hg w18 hbox hb; have n0_ := Aside0.mk (Kd.R_below (by (with_reducible repeat (first | apply Kd.R_alloc | apply Kd.R_drewN | apply Kd.R_drew)); exact HO236.out) hb); have n1_ := Aside0.mk (Kd.R_below (by (with_reducible repeat (first | apply Kd.R_alloc | apply Kd.R_drewN | apply Kd.R_drew)); exact HO241.out) hb); have n2_ := Aside0.mk (blk_below (g := gb233) (o := .cells #[.slice A0_0 l0_0.length c0_0, .int .i64 a0_1] 24 (0, 0)) (by (with_reducible repeat (first | refine blk_drewN ?_ _ | refine blk_drew ?_ | refine blk_alloc ?_ _)); exact BK233.out) hb); have n3_ := Aside0.mk (blk_below (g := gb238) (o := .cells #[.slice Ao14 t234.length co14, .int .i64 t237] 24 (0, 0)) (by (with_reducible repeat (first | refine blk_drewN ?_ _ | refine blk_drew ?_ | refine blk_alloc ?_ _)); exact BK238.out) hb); have n4_ := Aside0.mk (below_step (by repeat (first | (with_reducible first | exact HB.out | apply below_alloc | apply pw_below_drewN | apply below_drew1 | refine below_set ?_ GE233.out | refine below_set ?_ GE238.out) | exact HB.out)) hb); have n5_ := Aside0.mk (hbox); have n6_ := Aside0.mk ((by rw [hg]; exact (below_size (by repeat (first | (with_reducible first | exact HB.out | apply below_alloc | apply pw_below_drewN | apply below_drew1 | refine below_set ?_ GE233.out | refine below_set ?_ GE238.out) | exact HB.out))) : w.heap.size ≤ gb244)); have n7_ := Aside0.mk ((by rw [hg]; exact (below_size (by repeat (first | (with_reducible first | exact HB.out | apply below_alloc | apply pw_below_drewN | apply below_drew1 | refine below_set ?_ GE233.out | refine below_set ?_ GE238.out) | exact HB.out))) : w.heap.size ≤ gb244)); have n8_ := Aside0.mk ((by rw [hg]; exact Nat.ne_of_lt (blk_lt (g := gb233) (o := .cells #[.slice A0_0 l0_0.length c0_0, .int .i64 a0_1] 24 (0, 0)) (by (with_reducible repeat (first | refine blk_drewN ?_ _ | refine blk_drew ?_ | refine blk_alloc ?_ _)); exact BK233.out)) : gb233 ≠ gb244)); have n9_ := Aside0.mk ((by rw [hg]; exact Nat.ne_of_gt (blk_lt (g := gb233) (o := .cells #[.slice A0_0 l0_0.length c0_0, .int .i64 a0_1] 24 (0, 0)) (by (with_reducible repeat (first | refine blk_drewN ?_ _ | refine blk_drew ?_ | refine blk_alloc ?_ _)); exact BK233.out)) : gb244 ≠ gb233)); have n10_ := Aside0.mk ((by rw [hg]; exact Nat.ne_of_lt (blk_lt (g := gb238) (o := .cells #[.slice Ao14 t234.length co14, .int .i64 t237] 24 (0, 0)) (by (with_reducible repeat (first | refine blk_drewN ?_ _ | refine blk_drew ?_ | refine blk_alloc ?_ _)); exact BK238.out)) : gb238 ≠ gb244)); have n11_ := Aside0.mk ((by rw [hg]; exact Nat.ne_of_gt (blk_lt (g := gb238) (o := .cells #[.slice Ao14 t234.length co14, .int .i64 t237] 24 (0, 0)) (by (with_reducible repeat (first | refine blk_drewN ?_ _ | refine blk_drew ?_ | refine blk_alloc ?_ _)); exact BK238.out)) : gb244 ≠ gb238)); clear HO236; clear HO241; clear BK233; clear BK238; clear HB; have HO236 := n0_; have HO241 := n1_; have BK233 := n2_; have BK238 := n3_; have HB := n4_; have BK244 := n5_; have GW244 := n6_; have GE244 := n7_; have NB233_244 := n8_; have NB244_233 := n9_; have NB238_244 := n10_; have NB244_238 := n11_; clear n0_ n1_ n2_ n3_ n4_ n5_ n6_ n7_ n8_ n9_ n10_ n11_; clear hb hbox hg; obtain ⟨Ao19, co19, eo19⟩ := Kd.R_slice HO241.out; subst eo19; have hnb20 := NB244_233.out; have hnc20 := NB233_244.out; have hnb21 := NB244_238.out; have hnc21 := NB238_244.out; have hcz22_0 : w18.cell? ⟨gb244, 0, none⟩ = some (.slice none 0 0) := (blk_cell BK244.out 0).trans rfl; have hcz22_1 : w18.cell? ⟨gb244, 1, none⟩ = some (.int .i64 0) := (blk_cell BK244.out 1).trans rfl; have hfz22_0 := blk_frozen BK244.out 0; have hfz22_1 := blk_frozen BK244.out 1; have hcz23_0 : w18.cell? ⟨gb238, 0, none⟩ = some (.slice Ao14 t234.length co14) := (blk_cell BK238.out 0).trans rfl; have hcz23_1 : w18.cell? ⟨gb238, 1, none⟩ = some (.int .i64 t237) := (blk_cell BK238.out 1).trans rfl; have hfz23_0 := blk_frozen BK238.out 0; have hfz23_1 := blk_frozen BK238.out 1) | ((with_reducible refine gate_callee (f := 12) rfl ?_); refine goesL_ (some 31) rfl rfl Try.func12 (by kernel_rfl) rfl #[.agg #[.slice Ao14 t234.length co14, .int .i64 t237], .int .i64 a1, .int .i64 a2] rfl (by (try simp only [List.map_toArray, List.map_cons, List.map_nil]); first | done | rfl | (simp only [List.length_drop, List.length_take]; rfl)) ?_; (with_reducible refine (ledger_Debit.calls k _ _ t234 t237 a1 a2 t245 t248 t249 _ ?side1 ?side2 A6.out).mono ?_); (case side1 => refine (Kd.R_reads' (e := 31) (base := w.heap.size) (ok := fun k_ => (True ∧ some k_ ≠ (.slice Ao19 t239.length co19 : Value).ownBlock)) (n := t234.length) (c := co14) ?_).2.2; exact (by (with_reducible repeat (first | apply Kd.R_alloc | apply Kd.R_drewN | apply Kd.R_drew)); exact (Kd.R_mono (Kd.R_far (p := ⟨gb244, 1, none⟩) (Kd.R_far (p := ⟨gb244, 0, none⟩) (Kd.R_types HO236.out BK244.out (by decide)) (fun _ hk => hk.2) (.slice Ao19 t239.length co19)) (fun _ hk => hk.2) (.int .i64 t242)) (fun _ h_ => h_.1)))); (case side2 => exact (Kd.R_reads' HO236.out).2.1); rintro e w24 ⟨v246, rfl, ho0, hb⟩; refine ⟨_, rfl, ?_⟩; have n0_ := Aside0.mk (Kd.R_elder' (by (with_reducible repeat (first | apply Kd.R_alloc | apply Kd.R_drewN | apply Kd.R_drew)); exact (Kd.R_mono (Kd.R_far (p := ⟨gb244, 1, none⟩) (Kd.R_far (p := ⟨gb244, 0, none⟩) (Kd.R_types HO236.out BK244.out (by decide)) (fun _ hk => hk.2) (.slice Ao19 t239.length co19)) (fun _ hk => hk.2) (.int .i64 t242)) (fun _ h_ => h_.1))) (Kd.R_base ho0) hb); have n1_ := Aside0.mk (Kd.R_elder' (by (with_reducible repeat (first | apply Kd.R_alloc | apply Kd.R_drewN | apply Kd.R_drew)); exact (Kd.R_mono (Kd.R_far (p := ⟨gb244, 1, none⟩) (Kd.R_far (p := ⟨gb244, 0, none⟩) (Kd.R_types HO241.out BK244.out (by decide)) (fun _ hk => hk.2) (.slice Ao19 t239.length co19)) (fun _ hk => hk.2) (.int .i64 t242)) (fun _ h_ => h_.1))) (Kd.R_base ho0) hb); have n2_ := Aside0.mk (Kd.R_lower (Kd.R_new' (Kd.R_new' ho0 (Kd.R_lt (by (with_reducible repeat (first | apply Kd.R_alloc | apply Kd.R_drewN | apply Kd.R_drew)); exact (Kd.R_mono (Kd.R_far (p := ⟨gb244, 1, none⟩) (Kd.R_far (p := ⟨gb244, 0, none⟩) (Kd.R_types HO236.out BK244.out (by decide)) (fun _ hk => hk.2) (.slice Ao19 t239.length co19)) (fun _ hk => hk.2) (.int .i64 t242)) (fun _ h_ => h_.1))))) (Kd.R_lt (by (with_reducible repeat (first | apply Kd.R_alloc | apply Kd.R_drewN | apply Kd.R_drew)); exact (Kd.R_mono (Kd.R_far (p := ⟨gb244, 1, none⟩) (Kd.R_far (p := ⟨gb244, 0, none⟩) (Kd.R_types HO241.out BK244.out (by decide)) (fun _ hk => hk.2) (.slice Ao19 t239.length co19)) (fun _ hk => hk.2) (.int .i64 t242)) (fun _ h_ => h_.1))))) (below_size (by repeat (first | (with_reducible first | exact HB.out | apply below_alloc | apply pw_below_drewN | apply below_drew1 | refine below_set ?_ GE233.out | refine below_set ?_ GE238.out | refine below_set ?_ GE244.out) | exact HB.out)))); have n3_ := Aside0.mk (blk_below (g := gb233) (o := .cells #[.slice A0_0 l0_0.length c0_0, .int .i64 a0_1] 24 (0, 0)) (by (with_reducible repeat (first | refine blk_drewN ?_ _ | refine blk_drew ?_ | refine blk_alloc ?_ _)); refine blk_far ?_ NB233_244.out _; (with_reducible repeat (first | refine blk_drewN ?_ _ | refine blk_drew ?_ | refine blk_alloc ?_ _)); refine blk_far ?_ NB233_244.out _; (with_reducible repeat (first | refine blk_drewN ?_ _ | refine blk_drew ?_ | refine blk_alloc ?_ _)); exact BK233.out) hb); have n4_ := Aside0.mk (blk_below (g := gb238) (o := .cells #[.slice Ao14 t234.length co14, .int .i64 t237] 24 (0, 0)) (by (with_reducible repeat (first | refine blk_drewN ?_ _ | refine blk_drew ?_ | refine blk_alloc ?_ _)); refine blk_far ?_ NB238_244.out _; (with_reducible repeat (first | refine blk_drewN ?_ _ | refine blk_drew ?_ | refine blk_alloc ?_ _)); refine blk_far ?_ NB238_244.out _; (with_reducible repeat (first | refine blk_drewN ?_ _ | refine blk_drew ?_ | refine blk_alloc ?_ _)); exact BK238.out) hb); have n5_ := Aside0.mk (blk_below (g := gb244) (o := .cells #[.slice Ao19 t239.length co19, .int .i64 t242] 24 (0, 0)) (by (with_reducible repeat (first | refine blk_drewN ?_ _ | refine blk_drew ?_ | refine blk_alloc ?_ _)); refine blk_put (cs := #[.slice Ao19 t239.length co19, .int .i64 0]) ?_ 1 _ rfl; (with_reducible repeat (first | refine blk_drewN ?_ _ | refine blk_drew ?_ | refine blk_alloc ?_ _)); refine blk_put (cs := #[.slice none 0 0, .int .i64 0]) ?_ 0 _ rfl; (with_reducible repeat (first | refine blk_drewN ?_ _ | refine blk_drew ?_ | refine blk_alloc ?_ _)); exact BK244.out) hb); have n6_ := Aside0.mk (below_step (by repeat (first | (with_reducible first | exact HB.out | apply below_alloc | apply pw_below_drewN | apply below_drew1 | refine below_set ?_ GE233.out | refine below_set ?_ GE238.out | refine below_set ?_ GE244.out) | exact HB.out)) hb); clear HO236; clear HO241; clear BK233; clear BK238; clear BK244; clear HB; have HO236 := n0_; have HO241 := n1_; have HO247 := n2_; have BK233 := n3_; have BK238 := n4_; have BK244 := n5_; have HB := n6_; clear n0_ n1_ n2_ n3_ n4_ n5_ n6_; (try clear hb); (try clear hb2); (try clear hk); (try clear hi); (try clear ho0)) | ((with_reducible refine gate_dst (N := 10) rfl ?_); refine box_event ?hg (N := 10) ?hd (cs := #[.slice none 0 0, .int .i64 0]) (t := 24) ?hr ?_; (case hd => rfl); (case hg => rfl); (case hr => first | (go_simp; done) | (go_simp; rfl)); intro gb250 hg w25 hbox hb; have n0_ := Aside0.mk (Kd.R_below (by (with_reducible repeat (first | apply Kd.R_alloc | apply Kd.R_drewN | apply Kd.R_drew)); exact HO236.out) hb); have n1_ := Aside0.mk (Kd.R_below (by (with_reducible repeat (first | apply Kd.R_alloc | apply Kd.R_drewN | apply Kd.R_drew)); exact HO241.out) hb); have n2_ := Aside0.mk (Kd.R_below (by (with_reducible repeat (first | apply Kd.R_alloc | apply Kd.R_drewN | apply Kd.R_drew)); exact HO247.out) hb); have n3_ := Aside0.mk (blk_below (g := gb233) (o := .cells #[.slice A0_0 l0_0.length c0_0, .int .i64 a0_1] 24 (0, 0)) (by (with_reducible repeat (first | refine blk_drewN ?_ _ | refine blk_drew ?_ | refine blk_alloc ?_ _)); exact BK233.out) hb); have n4_ := Aside0.mk (blk_below (g := gb238) (o := .cells #[.slice Ao14 t234.length co14, .int .i64 t237] 24 (0, 0)) (by (with_reducible repeat (first | refine blk_drewN ?_ _ | refine blk_drew ?_ | refine blk_alloc ?_ _)); exact BK238.out) hb); have n5_ := Aside0.mk (blk_below (g := gb244) (o := .cells #[.slice Ao19 t239.length co19, .int .i64 t242] 24 (0, 0)) (by (with_reducible repeat (first | refine blk_drewN ?_ _ | refine blk_drew ?_ | refine blk_alloc ?_ _)); exact BK244.out) hb); have n6_ := Aside0.mk (below_step (by repeat (first | (with_reducible first | exact HB.out | apply below_alloc | apply pw_below_drewN | apply below_drew1 | refine below_set ?_ GE233.out | refine below_set ?_ GE238.out | refine below_set ?_ GE244.out) | exact HB.out)) hb); have n7_ := Aside0.mk (hbox); have n8_ := Aside0.mk ((by rw [hg]; exact (below_size (by repeat (first | (with_reducible first | exact HB.out | apply below_alloc | apply pw_below_drewN | apply below_drew1 | refine below_set ?_ GE233.out | refine below_set ?_ GE238.out | refine below_set ?_ GE244.out) | exact HB.out))) : w.heap.size ≤ gb250)); have n9_ := Aside0.mk ((by rw [hg]; exact (below_size (by repeat (first | (with_reducible first | exact HB.out | apply below_alloc | apply pw_below_drewN | apply below_drew1 | refine below_set ?_ GE233.out | refine below_set ?_ GE238.out | refine below_set ?_ GE244.out) | exact HB.out))) : w.heap.size ≤ gb250)); have n10_ := Aside0.mk ((by rw [hg]; exact Nat.ne_of_lt (blk_lt (g := gb233) (o := .cells #[.slice A0_0 l0_0.length c0_0, .int .i64 a0_1] 24 (0, 0)) (by (with_reducible repeat (first | refine blk_drewN ?_ _ | refine blk_drew ?_ | refine blk_alloc ?_ _)); exact BK233.out)) : gb233 ≠ gb250)); have n11_ := Aside0.mk ((by rw [hg]; exact Nat.ne_of_gt (blk_lt (g := gb233) (o := .cells #[.slice A0_0 l0_0.length c0_0, .int .i64 a0_1] 24 (0, 0)) (by (with_reducible repeat (first | refine blk_drewN ?_ _ | refine blk_drew ?_ | refine blk_alloc ?_ _)); exact BK233.out)) : gb250 ≠ gb233)); have n12_ := Aside0.mk ((by rw [hg]; exact Nat.ne_of_lt (blk_lt (g := gb238) (o := .cells #[.slice Ao14 t234.length co14, .int .i64 t237] 24 (0, 0)) (by (with_reducible repeat (first | refine blk_drewN ?_ _ | refine blk_drew ?_ | refine blk_alloc ?_ _)); exact BK238.out)) : gb238 ≠ gb250)); have n13_ := Aside0.mk ((by rw [hg]; exact Nat.ne_of_gt (blk_lt (g := gb238) (o := .cells #[.slice Ao14 t234.length co14, .int .i64 t237] 24 (0, 0)) (by (with_reducible repeat (first | refine blk_drewN ?_ _ | refine blk_drew ?_ | refine blk_alloc ?_ _)); exact BK238.out)) : gb250 ≠ gb238)); have n14_ := Aside0.mk ((by rw [hg]; exact Nat.ne_of_lt (blk_lt (g := gb244) (o := .cells #[.slice Ao19 t239.length co19, .int .i64 t242] 24 (0, 0)) (by (with_reducible repeat (first | refine blk_drewN ?_ _ | refine blk_drew ?_ | refine blk_alloc ?_ _)); exact BK244.out)) : gb244 ≠ gb250)); have n15_ := Aside0.mk ((by rw [hg]; exact Nat.ne_of_gt (blk_lt (g := gb244) (o := .cells #[.slice Ao19 t239.length co19, .int .i64 t242] 24 (0, 0)) (by (with_reducible repeat (first | refine blk_drewN ?_ _ | refine blk_drew ?_ | refine blk_alloc ?_ _)); exact BK244.out)) : gb250 ≠ gb244)); clear HO236; clear HO241; clear HO247; clear BK233; clear BK238; clear BK244; clear HB; have HO236 := n0_; have HO241 := n1_; have HO247 := n2_; have BK233 := n3_; have BK238 := n4_; have BK244 := n5_; have HB := n6_; have BK250 := n7_; have GW250 := n8_; have GE250 := n9_; have NB233_250 := n10_; have NB250_233 := n11_; have NB238_250 := n12_; have NB250_238 := n13_; have NB244_250 := n14_; have NB250_244 := n15_; clear n0_ n1_ n2_ n3_ n4_ n5_ n6_ n7_ n8_ n9_ n10_ n11_ n12_ n13_ n14_ n15_; clear hb hbox hg; obtain ⟨Ao26, co26, eo26⟩ := Kd.R_slice HO247.out; subst eo26; have hnb27 := NB250_233.out; have hnc27 := NB233_250.out; have hnb28 := NB250_238.out; have hnc28 := NB238_250.out; have hnb29 := NB250_244.out; have hnc29 := NB244_250.out; have hcz30_0 : w25.cell? ⟨gb250, 0, none⟩ = some (.slice none 0 0) := (blk_cell BK250.out 0).trans rfl; have hcz30_1 : w25.cell? ⟨gb250, 1, none⟩ = some (.int .i64 0) := (blk_cell BK250.out 1).trans rfl; have hfz30_0 := blk_frozen BK250.out 0; have hfz30_1 := blk_frozen BK250.out 1; have hcz31_0 : w25.cell? ⟨gb233, 0, none⟩ = some (.slice A0_0 l0_0.length c0_0) := (blk_cell BK233.out 0).trans rfl; have hcz31_1 : w25.cell? ⟨gb233, 1, none⟩ = some (.int .i64 a0_1) := (blk_cell BK233.out 1).trans rfl; have hfz31_0 := blk_frozen BK233.out 0; have hfz31_1 := blk_frozen BK233.out 1) | ((with_reducible refine gate_callee (f := 13) rfl ?_); refine goesL_ (some 38) rfl rfl Try.func13 (by kernel_rfl) rfl #[.agg #[.slice A0_0 l0_0.length c0_0, .int .i64 a0_1], .int .i64 a1, .int .i64 a2] rfl (by (try simp only [List.map_toArray, List.map_cons, List.map_nil]); first | done | rfl | (simp only [List.length_drop, List.length_take]; rfl)) ?_; (with_reducible refine (rialtoref12_Credit.calls k _ _ l0_0 a0_1 a1 a2 t251 t254 t255 _ ?side1 ?side2 A7.out).mono ?_); (case side1 => exact Kd.C_below HR0_0.out (by repeat (first | (with_reducible first | exact HB.out | apply below_alloc | apply pw_below_drewN | apply below_drew1 | refine below_set ?_ GE233.out | refine below_set ?_ GE238.out | refine below_set ?_ GE244.out | refine below_set ?_ GE250.out) | exact HB.out))); (case side2 => exact HC0_0.out); rintro e w32 ⟨v252, rfl, ho0, hb⟩; refine ⟨_, rfl, ?_⟩; have n0_ := Aside0.mk (Kd.R_elder' (by (with_reducible repeat (first | apply Kd.R_alloc | apply Kd.R_drewN | apply Kd.R_drew)); exact (Kd.R_mono (Kd.R_far (p := ⟨gb250, 1, none⟩) (Kd.R_far (p := ⟨gb250, 0, none⟩) (Kd.R_types HO236.out BK250.out (by decide)) (fun _ hk => hk.2) (.slice Ao26 t245.length co26)) (fun _ hk => hk.2) (.int .i64 t248)) (fun _ h_ => h_.1))) (Kd.R_base ho0) hb); have n1_ := Aside0.mk (Kd.R_elder' (by (with_reducible repeat (first | apply Kd.R_alloc | apply Kd.R_drewN | apply Kd.R_drew)); exact (Kd.R_mono (Kd.R_far (p := ⟨gb250, 1, none⟩) (Kd.R_far (p := ⟨gb250, 0, none⟩) (Kd.R_types HO241.out BK250.out (by decide)) (fun _ hk => hk.2) (.slice Ao26 t245.length co26)) (fun _ hk => hk.2) (.int .i64 t248)) (fun _ h_ => h_.1))) (Kd.R_base ho0) hb); have n2_ := Aside0.mk (Kd.R_elder' (by (with_reducible repeat (first | apply Kd.R_alloc | apply Kd.R_drewN | apply Kd.R_drew)); exact (Kd.R_mono (Kd.R_far (p := ⟨gb250, 1, none⟩) (Kd.R_far (p := ⟨gb250, 0, none⟩) (Kd.R_types HO247.out BK250.out (by decide)) (fun _ hk => hk.2) (.slice Ao26 t245.length co26)) (fun _ hk => hk.2) (.int .i64 t248)) (fun _ h_ => h_.1))) (Kd.R_base ho0) hb); have n3_ := Aside0.mk (Kd.R_lower (Kd.R_new' (Kd.R_new' (Kd.R_new' ho0 (Kd.R_lt (by (with_reducible repeat (first | apply Kd.R_alloc | apply Kd.R_drewN | apply Kd.R_drew)); exact (Kd.R_mono (Kd.R_far (p := ⟨gb250, 1, none⟩) (Kd.R_far (p := ⟨gb250, 0, none⟩) (Kd.R_types HO236.out BK250.out (by decide)) (fun _ hk => hk.2) (.slice Ao26 t245.length co26)) (fun _ hk => hk.2) (.int .i64 t248)) (fun _ h_ => h_.1))))) (Kd.R_lt (by (with_reducible repeat (first | apply Kd.R_alloc | apply Kd.R_drewN | apply Kd.R_drew)); exact (Kd.R_mono (Kd.R_far (p := ⟨gb250, 1, none⟩) (Kd.R_far (p := ⟨gb250, 0, none⟩) (Kd.R_types HO241.out BK250.out (by decide)) (fun _ hk => hk.2) (.slice Ao26 t245.length co26)) (fun _ hk => hk.2) (.int .i64 t248)) (fun _ h_ => h_.1))))) (Kd.R_lt (by (with_reducible repeat (first | apply Kd.R_alloc | apply Kd.R_drewN | apply Kd.R_drew)); exact (Kd.R_mono (Kd.R_far (p := ⟨gb250, 1, none⟩) (Kd.R_far (p := ⟨gb250, 0, none⟩) (Kd.R_types HO247.out BK250.out (by decide)) (fun _ hk => hk.2) (.slice Ao26 t245.length co26)) (fun _ hk => hk.2) (.int .i64 t248)) (fun _ h_ => h_.1))))) (below_size (by repeat (first | (with_reducible first | exact HB.out | apply below_alloc | apply pw_below_drewN | apply below_drew1 | refine below_set ?_ GE233.out | refine below_set ?_ GE238.out | refine below_set ?_ GE244.out | refine below_set ?_ GE250.out) | exact HB.out)))); have n4_ := Aside0.mk (blk_below (g := gb233) (o := .cells #[.slice A0_0 l0_0.length c0_0, .int .i64 a0_1] 24 (0, 0)) (by (with_reducible repeat (first | refine blk_drewN ?_ _ | refine blk_drew ?_ | refine blk_alloc ?_ _)); refine blk_far ?_ NB233_250.out _; (with_reducible repeat (first | refine blk_drewN ?_ _ | refine blk_drew ?_ | refine blk_alloc ?_ _)); refine blk_far ?_ NB233_250.out _; (with_reducible repeat (first | refine blk_drewN ?_ _ | refine blk_drew ?_ | refine blk_alloc ?_ _)); exact BK233.out) hb); have n5_ := Aside0.mk (blk_below (g := gb238) (o := .cells #[.slice Ao14 t234.length co14, .int .i64 t237] 24 (0, 0)) (by (with_reducible repeat (first | refine blk_drewN ?_ _ | refine blk_drew ?_ | refine blk_alloc ?_ _)); refine blk_far ?_ NB238_250.out _; (with_reducible repeat (first | refine blk_drewN ?_ _ | refine blk_drew ?_ | refine blk_alloc ?_ _)); refine blk_far ?_ NB238_250.out _; (with_reducible repeat (first | refine blk_drewN ?_ _ | refine blk_drew ?_ | refine blk_alloc ?_ _)); exact BK238.out) hb); have n6_ := Aside0.mk (blk_below (g := gb244) (o := .cells #[.slice Ao19 t239.length co19, .int .i64 t242] 24 (0, 0)) (by (with_reducible repeat (first | refine blk_drewN ?_ _ | refine blk_drew ?_ | refine blk_alloc ?_ _)); refine blk_far ?_ NB244_250.out _; (with_reducible repeat (first | refine blk_drewN ?_ _ | refine blk_drew ?_ | refine blk_alloc ?_ _)); refine blk_far ?_ NB244_250.out _; (with_reducible repeat (first | refine blk_drewN ?_ _ | refine blk_drew ?_ | refine blk_alloc ?_ _)); exact BK244.out) hb); have n7_ := Aside0.mk (blk_below (g := gb250) (o := .cells #[.slice Ao26 t245.length co26, .int .i64 t248] 24 (0, 0)) (by (with_reducible repeat (first | refine blk_drewN ?_ _ | refine blk_drew ?_ | refine blk_alloc ?_ _)); refine blk_put (cs := #[.slice Ao26 t245.length co26, .int .i64 0]) ?_ 1 _ rfl; (with_reducible repeat (first | refine blk_drewN ?_ _ | refine blk_drew ?_ | refine blk_alloc ?_ _)); refine blk_put (cs := #[.slice none 0 0, .int .i64 0]) ?_ 0 _ rfl; (with_reducible repeat (first | refine blk_drewN ?_ _ | refine blk_drew ?_ | refine blk_alloc ?_ _)); exact BK250.out) hb); have n8_ := Aside0.mk (below_step (by repeat (first | (with_reducible first | exact HB.out | apply below_alloc | apply pw_below_drewN | apply below_drew1 | refine below_set ?_ GE233.out | refine below_set ?_ GE238.out | refine below_set ?_ GE244.out | refine below_set ?_ GE250.out) | exact HB.out)) hb); clear HO236; clear HO241; clear HO247; clear BK233; clear BK238; clear BK244; clear BK250; clear HB; have HO236 := n0_; have HO241 := n1_; have HO247 := n2_; have HO253 := n3_; have BK233 := n4_; have BK238 := n5_; have BK244 := n6_; have BK250 := n7_; have HB := n8_; clear n0_ n1_ n2_ n3_ n4_ n5_ n6_ n7_ n8_; (try clear hb); (try clear hb2); (try clear hk); (try clear hi); (try clear ho0)) | ((with_reducible refine gate_dst (N := 12) rfl ?_); refine box_event ?hg (N := 12) ?hd (cs := #[.slice none 0 0, .int .i64 0]) (t := 24) ?hr ?_; (case hd => rfl); (case hg => rfl); (case hr => first | (go_simp; done) | (go_simp; rfl)); intro gb256 hg w33 hbox hb; have n0_ := Aside0.mk (Kd.R_below (by (with_reducible repeat (first | apply Kd.R_alloc | apply Kd.R_drewN | apply Kd.R_drew)); exact HO236.out) hb); have n1_ := Aside0.mk (Kd.R_below (by (with_reducible repeat (first | apply Kd.R_alloc | apply Kd.R_drewN | apply Kd.R_drew)); exact HO241.out) hb); have n2_ := Aside0.mk (Kd.R_below (by (with_reducible repeat (first | apply Kd.R_alloc | apply Kd.R_drewN | apply Kd.R_drew)); exact HO247.out) hb); have n3_ := Aside0.mk (Kd.R_below (by (with_reducible repeat (first | apply Kd.R_alloc | apply Kd.R_drewN | apply Kd.R_drew)); exact HO253.out) hb); have n4_ := Aside0.mk (blk_below (g := gb233) (o := .cells #[.slice A0_0 l0_0.length c0_0, .int .i64 a0_1] 24 (0, 0)) (by (with_reducible repeat (first | refine blk_drewN ?_ _ | refine blk_drew ?_ | refine blk_alloc ?_ _)); exact BK233.out) hb); have n5_ := Aside0.mk (blk_below (g := gb238) (o := .cells #[.slice Ao14 t234.length co14, .int .i64 t237] 24 (0, 0)) (by (with_reducible repeat (first | refine blk_drewN ?_ _ | refine blk_drew ?_ | refine blk_alloc ?_ _)); exact BK238.out) hb); have n6_ := Aside0.mk (blk_below (g := gb244) (o := .cells #[.slice Ao19 t239.length co19, .int .i64 t242] 24 (0, 0)) (by (with_reducible repeat (first | refine blk_drewN ?_ _ | refine blk_drew ?_ | refine blk_alloc ?_ _)); exact BK244.out) hb); have n7_ := Aside0.mk (blk_below (g := gb250) (o := .cells #[.slice Ao26 t245.length co26, .int .i64 t248] 24 (0, 0)) (by (with_reducible repeat (first | refine blk_drewN ?_ _ | refine blk_drew ?_ | refine blk_alloc ?_ _)); exact BK250.out) hb); have n8_ := Aside0.mk (below_step (by repeat (first | (with_reducible first | exact HB.out | apply below_alloc | apply pw_below_drewN | apply below_drew1 | refine below_set ?_ GE233.out | refine below_set ?_ GE238.out | refine below_set ?_ GE244.out | refine below_set ?_ GE250.out) | exact HB.out)) hb); have n9_ := Aside0.mk (hbox); have n10_ := Aside0.mk ((by rw [hg]; exact (below_size (by repeat (first | (with_reducible first | exact HB.out | apply below_alloc | apply pw_below_drewN | apply below_drew1 | refine below_set ?_ GE233.out | refine below_set ?_ GE238.out | refine below_set ?_ GE244.out | refine below_set ?_ GE250.out) | exact HB.out))) : w.heap.size ≤ gb256)); have n11_ := Aside0.mk ((by rw [hg]; exact (below_size (by repeat (first | (with_reducible first | exact HB.out | apply below_alloc | apply pw_below_drewN | apply below_drew1 | refine below_set ?_ GE233.out | refine below_set ?_ GE238.out | refine below_set ?_ GE244.out | refine below_set ?_ GE250.out) | exact HB.out))) : w.heap.size ≤ gb256)); have n12_ := Aside0.mk ((by rw [hg]; exact Nat.ne_of_lt (blk_lt (g := gb233) (o := .cells #[.slice A0_0 l0_0.length c0_0, .int .i64 a0_1] 24 (0, 0)) (by (with_reducible repeat (first | refine blk_drewN ?_ _ | refine blk_drew ?_ | refine blk_alloc ?_ _)); exact BK233.out)) : gb233 ≠ gb256)); have n13_ := Aside0.mk ((by rw [hg]; exact Nat.ne_of_gt (blk_lt (g := gb233) (o := .cells #[.slice A0_0 l0_0.length c0_0, .int .i64 a0_1] 24 (0, 0)) (by (with_reducible repeat (first | refine blk_drewN ?_ _ | refine blk_drew ?_ | refine blk_alloc ?_ _)); exact BK233.out)) : gb256 ≠ gb233)); have n14_ := Aside0.mk ((by rw [hg]; exact Nat.ne_of_lt (blk_lt (g := gb238) (o := .cells #[.slice Ao14 t234.length co14, .int .i64 t237] 24 (0, 0)) (by (with_reducible repeat (first | refine blk_drewN ?_ _ | refine blk_drew ?_ | refine blk_alloc ?_ _)); exact BK238.out)) : gb238 ≠ gb256)); have n15_ := Aside0.mk ((by rw [hg]; exact Nat.ne_of_gt (blk_lt (g := gb238) (o := .cells #[.slice Ao14 t234.length co14, .int .i64 t237] 24 (0, 0)) (by (with_reducible repeat (first | refine blk_drewN ?_ _ | refine blk_drew ?_ | refine blk_alloc ?_ _)); exact BK238.out)) : gb256 ≠ gb238)); have n16_ := Aside0.mk ((by rw [hg]; exact Nat.ne_of_lt (blk_lt (g := gb244) (o := .cells #[.slice Ao19 t239.length co19, .int .i64 t242] 24 (0, 0)) (by (with_reducible repeat (first | refine blk_drewN ?_ _ | refine blk_drew ?_ | refine blk_alloc ?_ _)); exact BK244.out)) : gb244 ≠ gb256)); have n17_ := Aside0.mk ((by rw [hg]; exact Nat.ne_of_gt (blk_lt (g := gb244) (o := .cells #[.slice Ao19 t239.length co19, .int .i64 t242] 24 (0, 0)) (by (with_reducible repeat (first | refine blk_drewN ?_ _ | refine blk_drew ?_ | refine blk_alloc ?_ _)); exact BK244.out)) : gb256 ≠ gb244)); have n18_ := Aside0.mk ((by rw [hg]; exact Nat.ne_of_lt (blk_lt (g := gb250) (o := .cells #[.slice Ao26 t245.length co26, .int .i64 t248] 24 (0, 0)) (by (with_reducible repeat (first | refine blk_drewN ?_ _ | refine blk_drew ?_ | refine blk_alloc ?_ _)); exact BK250.out)) : gb250 ≠ gb256)); have n19_ := Aside0.mk ((by rw [hg]; exact Nat.ne_of_gt (blk_lt (g := gb250) (o := .cells #[.slice Ao26 t245.length co26, .int .i64 t248] 24 (0, 0)) (by (with_reducible repeat (first | refine blk_drewN ?_ _ | refine blk_drew ?_ | refine blk_alloc ?_ _)); exact BK250.out)) : gb256 ≠ gb250)); clear HO236; clear HO241; clear HO247; clear HO253; clear BK233; clear BK238; clear BK244; clear BK250; clear HB; have HO236 := n0_; have HO241 := n1_; have HO247 := n2_; have HO253 := n3_; have BK233 := n4_; have BK238 := n5_; have BK244 := n6_; have BK250 := n7_; have HB := n8_; have BK256 := n9_; have GW256 := n10_; have GE256 := n11_; have NB233_256 := n12_; have NB256_233 := n13_; have NB238_256 := n14_; have NB256_238 := n15_; have NB244_256 := n16_; have NB256_244 := n17_; have NB250_256 := n18_; have NB256_250 := n19_; clear n0_ n1_ n2_ n3_ n4_ n5_ n6_ n7_ n8_ n9_ n10_ n11_ n12_ n13_ n14_ n15_ n16_ n17_ n18_ n19_; clear hb hbox hg; obtain ⟨Ao34, co34, eo34⟩ := Kd.R_slice HO253.out; subst eo34; have hnb35 := NB256_233.out; have hnc35 := NB233_256.out; have hnb36 := NB256_238.out; have hnc36 := NB238_256.out; have hnb37 := NB256_244.out; have hnc37 := NB244_256.out; have hnb38 := NB256_250.out; have hnc38 := NB250_256.out; have hcz39_0 : w33.cell? ⟨gb256, 0, none⟩ = some (.slice none 0 0) := (blk_cell BK256.out 0).trans rfl; have hcz39_1 : w33.cell? ⟨gb256, 1, none⟩ = some (.int .i64 0) := (blk_cell BK256.out 1).trans rfl; have hfz39_0 := blk_frozen BK256.out 0; have hfz39_1 := blk_frozen BK256.out 1; have hcz40_0 : w33.cell? ⟨gb233, 0, none⟩ = some (.slice A0_0 l0_0.length c0_0) := (blk_cell BK233.out 0).trans rfl; have hcz40_1 : w33.cell? ⟨gb233, 1, none⟩ = some (.int .i64 a0_1) := (blk_cell BK233.out 1).trans rfl; have hfz40_0 := blk_frozen BK233.out 0; have hfz40_1 := blk_frozen BK233.out 1) | ((with_reducible refine gate_callee (f := 14) rfl ?_); refine goesL_ (some 45) rfl rfl Try.func14 (by kernel_rfl) rfl #[.agg #[.slice A0_0 l0_0.length c0_0, .int .i64 a0_1], .int .i64 a1, .int .i64 a2] rfl (by (try simp only [List.map_toArray, List.map_cons, List.map_nil]); first | done | rfl | (simp only [List.length_drop, List.length_take]; rfl)) ?_; (with_reducible refine (rialtoref12_Debit.calls k _ _ l0_0 a0_1 a1 a2 t257 t260 t261 _ ?side1 ?side2 A8.out).mono ?_); (case side1 => exact Kd.C_below HR0_0.out (by repeat (first | (with_reducible first | exact HB.out | apply below_alloc | apply pw_below_drewN | apply below_drew1 | refine below_set ?_ GE233.out | refine below_set ?_ GE238.out | refine below_set ?_ GE244.out | refine below_set ?_ GE250.out | refine below_set ?_ GE256.out) | exact HB.out))); (case side2 => exact HC0_0.out); rintro e w41 ⟨v258, rfl, ho0, hb⟩; refine ⟨_, rfl, ?_⟩; have n0_ := Aside0.mk (Kd.R_elder' (by (with_reducible repeat (first | apply Kd.R_alloc | apply Kd.R_drewN | apply Kd.R_drew)); exact (Kd.R_mono (Kd.R_far (p := ⟨gb256, 1, none⟩) (Kd.R_far (p := ⟨gb256, 0, none⟩) (Kd.R_types HO236.out BK256.out (by decide)) (fun _ hk => hk.2) (.slice Ao34 t251.length co34)) (fun _ hk => hk.2) (.int .i64 t254)) (fun _ h_ => h_.1))) (Kd.R_base ho0) hb); have n1_ := Aside0.mk (Kd.R_elder' (by (with_reducible repeat (first | apply Kd.R_alloc | apply Kd.R_drewN | apply Kd.R_drew)); exact (Kd.R_mono (Kd.R_far (p := ⟨gb256, 1, none⟩) (Kd.R_far (p := ⟨gb256, 0, none⟩) (Kd.R_types HO241.out BK256.out (by decide)) (fun _ hk => hk.2) (.slice Ao34 t251.length co34)) (fun _ hk => hk.2) (.int .i64 t254)) (fun _ h_ => h_.1))) (Kd.R_base ho0) hb); have n2_ := Aside0.mk (Kd.R_elder' (by (with_reducible repeat (first | apply Kd.R_alloc | apply Kd.R_drewN | apply Kd.R_drew)); exact (Kd.R_mono (Kd.R_far (p := ⟨gb256, 1, none⟩) (Kd.R_far (p := ⟨gb256, 0, none⟩) (Kd.R_types HO247.out BK256.out (by decide)) (fun _ hk => hk.2) (.slice Ao34 t251.length co34)) (fun _ hk => hk.2) (.int .i64 t254)) (fun _ h_ => h_.1))) (Kd.R_base ho0) hb); have n3_ := Aside0.mk (Kd.R_elder' (by (with_reducible repeat (first | apply Kd.R_alloc | apply Kd.R_drewN | apply Kd.R_drew)); exact (Kd.R_mono (Kd.R_far (p := ⟨gb256, 1, none⟩) (Kd.R_far (p := ⟨gb256, 0, none⟩) (Kd.R_types HO253.out BK256.out (by decide)) (fun _ hk => hk.2) (.slice Ao34 t251.length co34)) (fun _ hk => hk.2) (.int .i64 t254)) (fun _ h_ => h_.1))) (Kd.R_base ho0) hb); have n4_ := Aside0.mk (Kd.R_lower (Kd.R_new' (Kd.R_new' (Kd.R_new' (Kd.R_new' ho0 (Kd.R_lt (by (with_reducible repeat (first | apply Kd.R_alloc | apply Kd.R_drewN | apply Kd.R_drew)); exact (Kd.R_mono (Kd.R_far (p := ⟨gb256, 1, none⟩) (Kd.R_far (p := ⟨gb256, 0, none⟩) (Kd.R_types HO236.out BK256.out (by decide)) (fun _ hk => hk.2) (.slice Ao34 t251.length co34)) (fun _ hk => hk.2) (.int .i64 t254)) (fun _ h_ => h_.1))))) (Kd.R_lt (by (with_reducible repeat (first | apply Kd.R_alloc | apply Kd.R_drewN | apply Kd.R_drew)); exact (Kd.R_mono (Kd.R_far (p := ⟨gb256, 1, none⟩) (Kd.R_far (p := ⟨gb256, 0, none⟩) (Kd.R_types HO241.out BK256.out (by decide)) (fun _ hk => hk.2) (.slice Ao34 t251.length co34)) (fun _ hk => hk.2) (.int .i64 t254)) (fun _ h_ => h_.1))))) (Kd.R_lt (by (with_reducible repeat (first | apply Kd.R_alloc | apply Kd.R_drewN | apply Kd.R_drew)); exact (Kd.R_mono (Kd.R_far (p := ⟨gb256, 1, none⟩) (Kd.R_far (p := ⟨gb256, 0, none⟩) (Kd.R_types HO247.out BK256.out (by decide)) (fun _ hk => hk.2) (.slice Ao34 t251.length co34)) (fun _ hk => hk.2) (.int .i64 t254)) (fun _ h_ => h_.1))))) (Kd.R_lt (by (with_reducible repeat (first | apply Kd.R_alloc | apply Kd.R_drewN | apply Kd.R_drew)); exact (Kd.R_mono (Kd.R_far (p := ⟨gb256, 1, none⟩) (Kd.R_far (p := ⟨gb256, 0, none⟩) (Kd.R_types HO253.out BK256.out (by decide)) (fun _ hk => hk.2) (.slice Ao34 t251.length co34)) (fun _ hk => hk.2) (.int .i64 t254)) (fun _ h_ => h_.1))))) (below_size (by repeat (first | (with_reducible first | exact HB.out | apply below_alloc | apply pw_below_drewN | apply below_drew1 | refine below_set ?_ GE233.out | refine below_set ?_ GE238.out | refine below_set ?_ GE244.out | refine below_set ?_ GE250.out | refine below_set ?_ GE256.out) | exact HB.out)))); have n5_ := Aside0.mk (blk_below (g := gb233) (o := .cells #[.slice A0_0 l0_0.length c0_0, .int .i64 a0_1] 24 (0, 0)) (by (with_reducible repeat (first | refine blk_drewN ?_ _ | refine blk_drew ?_ | refine blk_alloc ?_ _)); refine blk_far ?_ NB233_256.out _; (with_reducible repeat (first | refine blk_drewN ?_ _ | refine blk_drew ?_ | refine blk_alloc ?_ _)); refine blk_far ?_ NB233_256.out _; (with_reducible repeat (first | refine blk_drewN ?_ _ | refine blk_drew ?_ | refine blk_alloc ?_ _)); exact BK233.out) hb); have n6_ := Aside0.mk (blk_below (g := gb238) (o := .cells #[.slice Ao14 t234.length co14, .int .i64 t237] 24 (0, 0)) (by (with_reducible repeat (first | refine blk_drewN ?_ _ | refine blk_drew ?_ | refine blk_alloc ?_ _)); refine blk_far ?_ NB238_256.out _; (with_reducible repeat (first | refine blk_drewN ?_ _ | refine blk_drew ?_ | refine blk_alloc ?_ _)); refine blk_far ?_ NB238_256.out _; (with_reducible repeat (first | refine blk_drewN ?_ _ | refine blk_drew ?_ | refine blk_alloc ?_ _)); exact BK238.out) hb); have n7_ := Aside0.mk (blk_below (g := gb244) (o := .cells #[.slice Ao19 t239.length co19, .int .i64 t242] 24 (0, 0)) (by (with_reducible repeat (first | refine blk_drewN ?_ _ | refine blk_drew ?_ | refine blk_alloc ?_ _)); refine blk_far ?_ NB244_256.out _; (with_reducible repeat (first | refine blk_drewN ?_ _ | refine blk_drew ?_ | refine blk_alloc ?_ _)); refine blk_far ?_ NB244_256.out _; (with_reducible repeat (first | refine blk_drewN ?_ _ | refine blk_drew ?_ | refine blk_alloc ?_ _)); exact BK244.out) hb); have n8_ := Aside0.mk (blk_below (g := gb250) (o := .cells #[.slice Ao26 t245.length co26, .int .i64 t248] 24 (0, 0)) (by (with_reducible repeat (first | refine blk_drewN ?_ _ | refine blk_drew ?_ | refine blk_alloc ?_ _)); refine blk_far ?_ NB250_256.out _; (with_reducible repeat (first | refine blk_drewN ?_ _ | refine blk_drew ?_ | refine blk_alloc ?_ _)); refine blk_far ?_ NB250_256.out _; (with_reducible repeat (first | refine blk_drewN ?_ _ | refine blk_drew ?_ | refine blk_alloc ?_ _)); exact BK250.out) hb); have n9_ := Aside0.mk (blk_below (g := gb256) (o := .cells #[.slice Ao34 t251.length co34, .int .i64 t254] 24 (0, 0)) (by (with_reducible repeat (first | refine blk_drewN ?_ _ | refine blk_drew ?_ | refine blk_alloc ?_ _)); refine blk_put (cs := #[.slice Ao34 t251.length co34, .int .i64 0]) ?_ 1 _ rfl; (with_reducible repeat (first | refine blk_drewN ?_ _ | refine blk_drew ?_ | refine blk_alloc ?_ _)); refine blk_put (cs := #[.slice none 0 0, .int .i64 0]) ?_ 0 _ rfl; (with_reducible repeat (first | refine blk_drewN ?_ _ | refine blk_drew ?_ | refine blk_alloc ?_ _)); exact BK256.out) hb); have n10_ := Aside0.mk (below_step (by repeat (first | (with_reducible first | exact HB.out | apply below_alloc | apply pw_below_drewN | apply below_drew1 | refine below_set ?_ GE233.out | refine below_set ?_ GE238.out | refine below_set ?_ GE244.out | refine below_set ?_ GE250.out | refine below_set ?_ GE256.out) | exact HB.out)) hb); clear HO236; clear HO241; clear HO247; clear HO253; clear BK233; clear BK238; clear BK244; clear BK250; clear BK256; clear HB; have HO236 := n0_; have HO241 := n1_; have HO247 := n2_; have HO253 := n3_; have HO259 := n4_; have BK233 := n5_; have BK238 := n6_; have BK244 := n7_; have BK250 := n8_; have BK256 := n9_; have HB := n10_; clear n0_ n1_ n2_ n3_ n4_ n5_ n6_ n7_ n8_ n9_ n10_; (try clear hb); (try clear hb2); (try clear hk); (try clear hi); (try clear ho0)) | ((with_reducible refine gate_dst (N := 14) rfl ?_); refine box_event ?hg (N := 14) ?hd (cs := #[.slice none 0 0, .int .i64 0]) (t := 24) ?hr ?_; (case hd => rfl); (case hg => rfl); (case hr => first | (go_simp; done) | (go_simp; rfl)); intro gb262 hg w42 hbox hb; have n0_ := Aside0.mk (Kd.R_below (by (with_reducible repeat (first | apply Kd.R_alloc | apply Kd.R_drewN | apply Kd.R_drew)); exact HO236.out) hb); have n1_ := Aside0.mk (Kd.R_below (by (with_reducible repeat (first | apply Kd.R_alloc | apply Kd.R_drewN | apply Kd.R_drew)); exact HO241.out) hb); have n2_ := Aside0.mk (Kd.R_below (by (with_reducible repeat (first | apply Kd.R_alloc | apply Kd.R_drewN | apply Kd.R_drew)); exact HO247.out) hb); have n3_ := Aside0.mk (Kd.R_below (by (with_reducible repeat (first | apply Kd.R_alloc | apply Kd.R_drewN | apply Kd.R_drew)); exact HO253.out) hb); have n4_ := Aside0.mk (Kd.R_below (by (with_reducible repeat (first | apply Kd.R_alloc | apply Kd.R_drewN | apply Kd.R_drew)); exact HO259.out) hb); have n5_ := Aside0.mk (blk_below (g := gb233) (o := .cells #[.slice A0_0 l0_0.length c0_0, .int .i64 a0_1] 24 (0, 0)) (by (with_reducible repeat (first | refine blk_drewN ?_ _ | refine blk_drew ?_ | refine blk_alloc ?_ _)); exact BK233.out) hb); have n6_ := Aside0.mk (blk_below (g := gb238) (o := .cells #[.slice Ao14 t234.length co14, .int .i64 t237] 24 (0, 0)) (by (with_reducible repeat (first | refine blk_drewN ?_ _ | refine blk_drew ?_ | refine blk_alloc ?_ _)); exact BK238.out) hb); have n7_ := Aside0.mk (blk_below (g := gb244) (o := .cells #[.slice Ao19 t239.length co19, .int .i64 t242] 24 (0, 0)) (by (with_reducible repeat (first | refine blk_drewN ?_ _ | refine blk_drew ?_ | refine blk_alloc ?_ _)); exact BK244.out) hb); have n8_ := Aside0.mk (blk_below (g := gb250) (o := .cells #[.slice Ao26 t245.length co26, .int .i64 t248] 24 (0, 0)) (by (with_reducible repeat (first | refine blk_drewN ?_ _ | refine blk_drew ?_ | refine blk_alloc ?_ _)); exact BK250.out) hb); have n9_ := Aside0.mk (blk_below (g := gb256) (o := .cells #[.slice Ao34 t251.length co34, .int .i64 t254] 24 (0, 0)) (by (with_reducible repeat (first | refine blk_drewN ?_ _ | refine blk_drew ?_ | refine blk_alloc ?_ _)); exact BK256.out) hb); have n10_ := Aside0.mk (below_step (by repeat (first | (with_reducible first | exact HB.out | apply below_alloc | apply pw_below_drewN | apply below_drew1 | refine below_set ?_ GE233.out | refine below_set ?_ GE238.out | refine below_set ?_ GE244.out | refine below_set ?_ GE250.out | refine below_set ?_ GE256.out) | exact HB.out)) hb); have n11_ := Aside0.mk (hbox); have n12_ := Aside0.mk ((by rw [hg]; exact (below_size (by repeat (first | (with_reducible first | exact HB.out | apply below_alloc | apply pw_below_drewN | apply below_drew1 | refine below_set ?_ GE233.out | refine below_set ?_ GE238.out | refine below_set ?_ GE244.out | refine below_set ?_ GE250.out | refine below_set ?_ GE256.out) | exact HB.out))) : w.heap.size ≤ gb262)); have n13_ := Aside0.mk ((by rw [hg]; exact (below_size (by repeat (first | (with_reducible first | exact HB.out | apply below_alloc | apply pw_below_drewN | apply below_drew1 | refine below_set ?_ GE233.out | refine below_set ?_ GE238.out | refine below_set ?_ GE244.out | refine below_set ?_ GE250.out | refine below_set ?_ GE256.out) | exact HB.out))) : w.heap.size ≤ gb262)); have n14_ := Aside0.mk ((by rw [hg]; exact Nat.ne_of_lt (blk_lt (g := gb233) (o := .cells #[.slice A0_0 l0_0.length c0_0, .int .i64 a0_1] 24 (0, 0)) (by (with_reducible repeat (first | refine blk_drewN ?_ _ | refine blk_drew ?_ | refine blk_alloc ?_ _)); exact BK233.out)) : gb233 ≠ gb262)); have n15_ := Aside0.mk ((by rw [hg]; exact Nat.ne_of_gt (blk_lt (g := gb233) (o := .cells #[.slice A0_0 l0_0.length c0_0, .int .i64 a0_1] 24 (0, 0)) (by (with_reducible repeat (first | refine blk_drewN ?_ _ | refine blk_drew ?_ | refine blk_alloc ?_ _)); exact BK233.out)) : gb262 ≠ gb233)); have n16_ := Aside0.mk ((by rw [hg]; exact Nat.ne_of_lt (blk_lt (g := gb238) (o := .cells #[.slice Ao14 t234.length co14, .int .i64 t237] 24 (0, 0)) (by (with_reducible repeat (first | refine blk_drewN ?_ _ | refine blk_drew ?_ | refine blk_alloc ?_ _)); exact BK238.out)) : gb238 ≠ gb262)); have n17_ := Aside0.mk ((by rw [hg]; exact Nat.ne_of_gt (blk_lt (g := gb238) (o := .cells #[.slice Ao14 t234.length co14, .int .i64 t237] 24 (0, 0)) (by (with_reducible repeat (first | refine blk_drewN ?_ _ | refine blk_drew ?_ | refine blk_alloc ?_ _)); exact BK238.out)) : gb262 ≠ gb238)); have n18_ := Aside0.mk ((by rw [hg]; exact Nat.ne_of_lt (blk_lt (g := gb244) (o := .cells #[.slice Ao19 t239.length co19, .int .i64 t242] 24 (0, 0)) (by (with_reducible repeat (first | refine blk_drewN ?_ _ | refine blk_drew ?_ | refine blk_alloc ?_ _)); exact BK244.out)) : gb244 ≠ gb262)); have n19_ := Aside0.mk ((by rw [hg]; exact Nat.ne_of_gt (blk_lt (g := gb244) (o := .cells #[.slice Ao19 t239.length co19, .int .i64 t242] 24 (0, 0)) (by (with_reducible repeat (first | refine blk_drewN ?_ _ | refine blk_drew ?_ | refine blk_alloc ?_ _)); exact BK244.out)) : gb262 ≠ gb244)); have n20_ := Aside0.mk ((by rw [hg]; exact Nat.ne_of_lt (blk_lt (g := gb250) (o := .cells #[.slice Ao26 t245.length co26, .int .i64 t248] 24 (0, 0)) (by (with_reducible repeat (first | refine blk_drewN ?_ _ | refine blk_drew ?_ | refine blk_alloc ?_ _)); exact BK250.out)) : gb250 ≠ gb262)); have n21_ := Aside0.mk ((by rw [hg]; exact Nat.ne_of_gt (blk_lt (g := gb250) (o := .cells #[.slice Ao26 t245.length co26, .int .i64 t248] 24 (0, 0)) (by (with_reducible repeat (first | refine blk_drewN ?_ _ | refine blk_drew ?_ | refine blk_alloc ?_ _)); exact BK250.out)) : gb262 ≠ gb250)); have n22_ := Aside0.mk ((by rw [hg]; exact Nat.ne_of_lt (blk_lt (g := gb256) (o := .cells #[.slice Ao34 t251.length co34, .int .i64 t254] 24 (0, 0)) (by (with_reducible repeat (first | refine blk_drewN ?_ _ | refine blk_drew ?_ | refine blk_alloc ?_ _)); exact BK256.out)) : gb256 ≠ gb262)); have n23_ := Aside0.mk ((by rw [hg]; exact Nat.ne_of_gt (blk_lt (g := gb256) (o := .cells #[.slice Ao34 t251.length co34, .int .i64 t254] 24 (0, 0)) (by (with_reducible repeat (first | refine blk_drewN ?_ _ | refine blk_drew ?_ | refine blk_alloc ?_ _)); exact BK256.out)) : gb262 ≠ gb256)); clear HO236; clear HO241; clear HO247; clear HO253; clear HO259; clear BK233; clear BK238; clear BK244; clear BK250; clear BK256; clear HB; have HO236 := n0_; have HO241 := n1_; have HO247 := n2_; have HO253 := n3_; have HO259 := n4_; have BK233 := n5_; have BK238 := n6_; have BK244 := n7_; have BK250 := n8_; have BK256 := n9_; have HB := n10_; have BK262 := n11_; have GW262 := n12_; have GE262 := n13_; have NB233_262 := n14_; have NB262_233 := n15_; have NB238_262 := n16_; have NB262_238 := n17_; have NB244_262 := n18_; have NB262_244 := n19_; have NB250_262 := n20_; have NB262_250 := n21_; have NB256_262 := n22_; have NB262_256 := n23_; clear n0_ n1_ n2_ n3_ n4_ n5_ n6_ n7_ n8_ n9_ n10_ n11_ n12_ n13_ n14_ n15_ n16_ n17_ n18_ n19_ n20_ n21_ n22_ n23_; clear hb hbox hg; obtain ⟨Ao43, co43, eo43⟩ := Kd.R_slice HO259.out; subst eo43; have hnb44 := NB262_233.out; have hnc44 := NB233_262.out; have hnb45 := NB262_238.out; have hnc45 := NB238_262.out; have hnb46 := NB262_244.out; have hnc46 := NB244_262.out; have hnb47 := NB262_250.out; have hnc47 := NB250_262.out; have hnb48 := NB262_256.out; have hnc48 := NB256_262.out; have hcz49_0 : w42.cell? ⟨gb262, 0, none⟩ = some (.slice none 0 0) := (blk_cell BK262.out 0).trans rfl; have hcz49_1 : w42.cell? ⟨gb262, 1, none⟩ = some (.int .i64 0) := (blk_cell BK262.out 1).trans rfl; have hfz49_0 := blk_frozen BK262.out 0; have hfz49_1 := blk_frozen BK262.out 1))
  (try simp only [Act.put, List.setIfInBounds_toArray, List.set_cons_zero, List.set_cons_succ])
  go_cut [73] (fun v73 wc => ∃ (kq : Nat) (x73_8 : Bool), v73 = .bool x73_8 ∧ Aside0 (rialtolaw12_LedgerMoves.j0 kq x73_8 l0_0 a0_1 t234 t237 t239 t242 t245 t248 = some r) ∧ Aside0 (kq ≤ k) ∧ Aside0 (Kd.R k31 31 wc w.heap.size (fun k_ => some k_ ≠ ((.slice Ao19 t239.length co19) : Value).ownBlock ∧ some k_ ≠ ((.slice Ao26 t245.length co26) : Value).ownBlock ∧ some k_ ≠ ((.slice Ao34 t251.length co34) : Value).ownBlock ∧ some k_ ≠ ((.slice Ao43 t257.length co43) : Value).ownBlock) (.slice Ao14 t234.length co14) t234) ∧ Aside0 (Kd.R k31 31 wc w.heap.size (fun k_ => some k_ ≠ ((.slice Ao14 t234.length co14) : Value).ownBlock ∧ some k_ ≠ ((.slice Ao26 t245.length co26) : Value).ownBlock ∧ some k_ ≠ ((.slice Ao34 t251.length co34) : Value).ownBlock ∧ some k_ ≠ ((.slice Ao43 t257.length co43) : Value).ownBlock) (.slice Ao19 t239.length co19) t239) ∧ Aside0 (Kd.R k31 31 wc w.heap.size (fun k_ => some k_ ≠ ((.slice Ao14 t234.length co14) : Value).ownBlock ∧ some k_ ≠ ((.slice Ao19 t239.length co19) : Value).ownBlock ∧ some k_ ≠ ((.slice Ao34 t251.length co34) : Value).ownBlock ∧ some k_ ≠ ((.slice Ao43 t257.length co43) : Value).ownBlock) (.slice Ao26 t245.length co26) t245) ∧ Aside0 (Kd.R k31 31 wc w.heap.size (fun k_ => some k_ ≠ ((.slice Ao14 t234.length co14) : Value).ownBlock ∧ some k_ ≠ ((.slice Ao19 t239.length co19) : Value).ownBlock ∧ some k_ ≠ ((.slice Ao26 t245.length co26) : Value).ownBlock ∧ some k_ ≠ ((.slice Ao43 t257.length co43) : Value).ownBlock) (.slice Ao34 t251.length co34) t251) ∧ Aside0 (Kd.R k31 31 wc w.heap.size (fun k_ => some k_ ≠ ((.slice Ao14 t234.length co14) : Value).ownBlock ∧ some k_ ≠ ((.slice Ao19 t239.length co19) : Value).ownBlock ∧ some k_ ≠ ((.slice Ao26 t245.length co26) : Value).ownBlock ∧ some k_ ≠ ((.slice Ao34 t251.length co34) : Value).ownBlock) (.slice Ao43 t257.length co43) t257) ∧ Aside0 (wc.heap[gb233]? = some (.cells #[(.slice A0_0 l0_0.length c0_0), .int .i64 a0_1] 24 (0, 0))) ∧ Aside0 (wc.heap[gb238]? = some (.cells #[(.slice Ao14 t234.length co14), .int .i64 t237] 24 (0, 0))) ∧ Aside0 (wc.heap[gb244]? = some (.cells #[(.slice Ao19 t239.length co19), .int .i64 t242] 24 (0, 0))) ∧ Aside0 (wc.heap[gb250]? = some (.cells #[(.slice Ao26 t245.length co26), .int .i64 t248] 24 (0, 0))) ∧ Aside0 (wc.heap[gb256]? = some (.cells #[(.slice Ao34 t251.length co34), .int .i64 t254] 24 (0, 0))) ∧ Aside0 (wc.heap[gb262]? = some (.cells #[(.slice Ao43 t257.length co43), .int .i64 t260] 24 (0, 0))) ∧ Aside0 (Below w.heap.size w wc))
  case first =>
    have H := HC9.out
    clear HC9
    replace H := Option.bind_eq_some_iff.mp H
    obtain ⟨t263, A500, H⟩ := H
    replace H : (if t263 = true then (if t243 = t255 then ((rialtoref12_Same.f k t245 t248 t257 t260).bind fun t264 => (if t264 = true then (if t249 = t261 then ((rialtoref12_Same.f k t234 t237 l0_0 a0_1).bind fun t265 => (rialtolaw12_LedgerMoves.j0 k (!t265) l0_0 a0_1 t234 t237 t239 t242 t245 t248)) else (rialtolaw12_LedgerMoves.j0 k true l0_0 a0_1 t234 t237 t239 t242 t245 t248)) else (rialtolaw12_LedgerMoves.j0 k true l0_0 a0_1 t234 t237 t239 t242 t245 t248))) else (rialtolaw12_LedgerMoves.j0 k true l0_0 a0_1 t234 t237 t239 t242 t245 t248)) else (rialtolaw12_LedgerMoves.j0 k true l0_0 a0_1 t234 t237 t239 t242 t245 t248)) = some r := H
    have A50 := Aside0.mk A500
    clear A500
    by_cases c51 : t263 = true
    · subst c51
      have H1 : (if t243 = t255 then ((rialtoref12_Same.f k t245 t248 t257 t260).bind fun t264 => (if t264 = true then (if t249 = t261 then ((rialtoref12_Same.f k t234 t237 l0_0 a0_1).bind fun t265 => (rialtolaw12_LedgerMoves.j0 k (!t265) l0_0 a0_1 t234 t237 t239 t242 t245 t248)) else (rialtolaw12_LedgerMoves.j0 k true l0_0 a0_1 t234 t237 t239 t242 t245 t248)) else (rialtolaw12_LedgerMoves.j0 k true l0_0 a0_1 t234 t237 t239 t242 t245 t248))) else (rialtolaw12_LedgerMoves.j0 k true l0_0 a0_1 t234 t237 t239 t242 t245 t248)) = some r := by rw [if_pos rfl] at H; exact H
      clear H
      have H := H1
      clear H1
      by_cases c52 : t243 = t255
      · rw [if_pos c52] at H
        have c52b0 : (t243 == t255) = true := beq_iff_eq.mpr c52
        have c52b1 : (t243 != t255) = false := bne_eq_false_iff_eq.mpr c52
        clear c52
        (first | rw [c52b0] | (simp only [i64_w, i32_w]; rw [c52b0]) | skip)
        replace H := Option.bind_eq_some_iff.mp H
        obtain ⟨t264, A530, H⟩ := H
        replace H : (if t264 = true then (if t249 = t261 then ((rialtoref12_Same.f k t234 t237 l0_0 a0_1).bind fun t265 => (rialtolaw12_LedgerMoves.j0 k (!t265) l0_0 a0_1 t234 t237 t239 t242 t245 t248)) else (rialtolaw12_LedgerMoves.j0 k true l0_0 a0_1 t234 t237 t239 t242 t245 t248)) else (rialtolaw12_LedgerMoves.j0 k true l0_0 a0_1 t234 t237 t239 t242 t245 t248)) = some r := H
        have A53 := Aside0.mk A530
        clear A530
        by_cases c54 : t264 = true
        · subst c54
          have H1 : (if t249 = t261 then ((rialtoref12_Same.f k t234 t237 l0_0 a0_1).bind fun t265 => (rialtolaw12_LedgerMoves.j0 k (!t265) l0_0 a0_1 t234 t237 t239 t242 t245 t248)) else (rialtolaw12_LedgerMoves.j0 k true l0_0 a0_1 t234 t237 t239 t242 t245 t248)) = some r := by rw [if_pos rfl] at H; exact H
          clear H
          have H := H1
          clear H1
          by_cases c55 : t249 = t261
          · rw [if_pos c55] at H
            have c55b0 : (t249 == t261) = true := beq_iff_eq.mpr c55
            have c55b1 : (t249 != t261) = false := bne_eq_false_iff_eq.mpr c55
            clear c55
            replace H := Option.bind_eq_some_iff.mp H
            obtain ⟨t265, A560, H⟩ := H
            replace H : (rialtolaw12_LedgerMoves.j0 k (!t265) l0_0 a0_1 t234 t237 t239 t242 t245 t248) = some r := H
            have A56 := Aside0.mk A560
            clear A560
            have H' := Aside0.mk H
            clear H
            have hnb57 := NB244_233.out
            have hnc57 := NB233_244.out
            have hnb58 := NB244_238.out
            have hnc58 := NB238_244.out
            have hnb59 := NB244_250.out
            have hnc59 := NB250_244.out
            have hnb60 := NB244_256.out
            have hnc60 := NB256_244.out
            have hnb61 := NB244_262.out
            have hnc61 := NB262_244.out
            have hcz62_0 : w42.cell? ⟨gb244, 0, none⟩ = some (.slice Ao19 t239.length co19) := (blk_cell BK244.out 0).trans rfl
            have hcz62_1 : w42.cell? ⟨gb244, 1, none⟩ = some (.int .i64 t242) := (blk_cell BK244.out 1).trans rfl
            have hfz62_0 := blk_frozen BK244.out 0
            have hfz62_1 := blk_frozen BK244.out 1
            have hnb63 := NB256_233.out
            have hnc63 := NB233_256.out
            have hnb64 := NB256_238.out
            have hnc64 := NB238_256.out
            have hnb65 := NB256_250.out
            have hnc65 := NB250_256.out
            have hnb66 := NB256_262.out
            have hnc66 := NB262_256.out
            have hcz67_0 : w42.cell? ⟨gb256, 0, none⟩ = some (.slice Ao34 t251.length co34) := (blk_cell BK256.out 0).trans rfl
            have hcz67_1 : w42.cell? ⟨gb256, 1, none⟩ = some (.int .i64 t254) := (blk_cell BK256.out 1).trans rfl
            have hfz67_0 := blk_frozen BK256.out 0
            have hfz67_1 := blk_frozen BK256.out 1
            go_wp2_with (first | ((with_reducible refine gate_callee (f := 15) rfl ?_); refine goesL_ (some 50) rfl rfl Try.func15 (by kernel_rfl) rfl #[.agg #[.slice Ao19 t239.length co19, .int .i64 t242], .agg #[.slice Ao34 t251.length co34, .int .i64 t254]] rfl (by (try simp only [List.map_toArray, List.map_cons, List.map_nil]); first | done | rfl | (simp only [List.length_drop, List.length_take]; rfl)) ?_; (with_reducible refine (rialtoref12_Same.calls k _ _ t239 t242 _ _ t251 t254 true _ ?side1 ?side2 ?side3 ?side4 A50.out).mono ?_); (case side1 => refine (Kd.R_reads' (e := 31) (base := w.heap.size) (ok := fun k_ => ((((True ∧ some k_ ≠ (.slice Ao14 t234.length co14 : Value).ownBlock) ∧ some k_ ≠ (.slice Ao26 t245.length co26 : Value).ownBlock) ∧ some k_ ≠ (.slice Ao34 t251.length co34 : Value).ownBlock) ∧ some k_ ≠ (.slice Ao43 t257.length co43 : Value).ownBlock)) (n := t239.length) (c := co19) ?_).2.2; exact (by (with_reducible repeat (first | apply Kd.R_alloc | apply Kd.R_drewN | apply Kd.R_drew)); exact (Kd.R_mono (Kd.R_far (p := ⟨gb262, 1, none⟩) (Kd.R_far (p := ⟨gb262, 0, none⟩) (Kd.R_types HO241.out BK262.out (by decide)) (fun _ hk => hk.2) (.slice Ao43 t257.length co43)) (fun _ hk => hk.2) (.int .i64 t260)) (fun _ h_ => h_.1)))); (case side2 => exact (Kd.R_reads' HO241.out).2.1); (case side3 => refine (Kd.R_reads' (e := 31) (base := w.heap.size) (ok := fun k_ => ((((True ∧ some k_ ≠ (.slice Ao14 t234.length co14 : Value).ownBlock) ∧ some k_ ≠ (.slice Ao19 t239.length co19 : Value).ownBlock) ∧ some k_ ≠ (.slice Ao26 t245.length co26 : Value).ownBlock) ∧ some k_ ≠ (.slice Ao43 t257.length co43 : Value).ownBlock)) (n := t251.length) (c := co34) ?_).2.2; exact (by (with_reducible repeat (first | apply Kd.R_alloc | apply Kd.R_drewN | apply Kd.R_drew)); exact (Kd.R_mono (Kd.R_far (p := ⟨gb262, 1, none⟩) (Kd.R_far (p := ⟨gb262, 0, none⟩) (Kd.R_types HO253.out BK262.out (by decide)) (fun _ hk => hk.2) (.slice Ao43 t257.length co43)) (fun _ hk => hk.2) (.int .i64 t260)) (fun _ h_ => h_.1)))); (case side4 => exact (Kd.R_reads' HO253.out).2.1); rintro e w68 ⟨rfl, hb⟩; refine ⟨_, rfl, ?_⟩; have n0_ := Aside0.mk (Kd.R_below (by (with_reducible repeat (first | apply Kd.R_alloc | apply Kd.R_drewN | apply Kd.R_drew)); exact (Kd.R_mono (Kd.R_far (p := ⟨gb262, 1, none⟩) (Kd.R_far (p := ⟨gb262, 0, none⟩) (Kd.R_types HO236.out BK262.out (by decide)) (fun _ hk => hk.2) (.slice Ao43 t257.length co43)) (fun _ hk => hk.2) (.int .i64 t260)) (fun _ h_ => h_.1))) hb); have n1_ := Aside0.mk (Kd.R_below (by (with_reducible repeat (first | apply Kd.R_alloc | apply Kd.R_drewN | apply Kd.R_drew)); exact (Kd.R_mono (Kd.R_far (p := ⟨gb262, 1, none⟩) (Kd.R_far (p := ⟨gb262, 0, none⟩) (Kd.R_types HO241.out BK262.out (by decide)) (fun _ hk => hk.2) (.slice Ao43 t257.length co43)) (fun _ hk => hk.2) (.int .i64 t260)) (fun _ h_ => h_.1))) hb); have n2_ := Aside0.mk (Kd.R_below (by (with_reducible repeat (first | apply Kd.R_alloc | apply Kd.R_drewN | apply Kd.R_drew)); exact (Kd.R_mono (Kd.R_far (p := ⟨gb262, 1, none⟩) (Kd.R_far (p := ⟨gb262, 0, none⟩) (Kd.R_types HO247.out BK262.out (by decide)) (fun _ hk => hk.2) (.slice Ao43 t257.length co43)) (fun _ hk => hk.2) (.int .i64 t260)) (fun _ h_ => h_.1))) hb); have n3_ := Aside0.mk (Kd.R_below (by (with_reducible repeat (first | apply Kd.R_alloc | apply Kd.R_drewN | apply Kd.R_drew)); exact (Kd.R_mono (Kd.R_far (p := ⟨gb262, 1, none⟩) (Kd.R_far (p := ⟨gb262, 0, none⟩) (Kd.R_types HO253.out BK262.out (by decide)) (fun _ hk => hk.2) (.slice Ao43 t257.length co43)) (fun _ hk => hk.2) (.int .i64 t260)) (fun _ h_ => h_.1))) hb); have n4_ := Aside0.mk (Kd.R_below (by (with_reducible repeat (first | apply Kd.R_alloc | apply Kd.R_drewN | apply Kd.R_drew)); exact (Kd.R_mono (Kd.R_far (p := ⟨gb262, 1, none⟩) (Kd.R_far (p := ⟨gb262, 0, none⟩) (Kd.R_types HO259.out BK262.out (by decide)) (fun _ hk => hk.2) (.slice Ao43 t257.length co43)) (fun _ hk => hk.2) (.int .i64 t260)) (fun _ h_ => h_.1))) hb); have n5_ := Aside0.mk (blk_below (g := gb233) (o := .cells #[.slice A0_0 l0_0.length c0_0, .int .i64 a0_1] 24 (0, 0)) (by (with_reducible repeat (first | refine blk_drewN ?_ _ | refine blk_drew ?_ | refine blk_alloc ?_ _)); refine blk_far ?_ NB233_262.out _; (with_reducible repeat (first | refine blk_drewN ?_ _ | refine blk_drew ?_ | refine blk_alloc ?_ _)); refine blk_far ?_ NB233_262.out _; (with_reducible repeat (first | refine blk_drewN ?_ _ | refine blk_drew ?_ | refine blk_alloc ?_ _)); exact BK233.out) hb); have n6_ := Aside0.mk (blk_below (g := gb238) (o := .cells #[.slice Ao14 t234.length co14, .int .i64 t237] 24 (0, 0)) (by (with_reducible repeat (first | refine blk_drewN ?_ _ | refine blk_drew ?_ | refine blk_alloc ?_ _)); refine blk_far ?_ NB238_262.out _; (with_reducible repeat (first | refine blk_drewN ?_ _ | refine blk_drew ?_ | refine blk_alloc ?_ _)); refine blk_far ?_ NB238_262.out _; (with_reducible repeat (first | refine blk_drewN ?_ _ | refine blk_drew ?_ | refine blk_alloc ?_ _)); exact BK238.out) hb); have n7_ := Aside0.mk (blk_below (g := gb244) (o := .cells #[.slice Ao19 t239.length co19, .int .i64 t242] 24 (0, 0)) (by (with_reducible repeat (first | refine blk_drewN ?_ _ | refine blk_drew ?_ | refine blk_alloc ?_ _)); refine blk_far ?_ NB244_262.out _; (with_reducible repeat (first | refine blk_drewN ?_ _ | refine blk_drew ?_ | refine blk_alloc ?_ _)); refine blk_far ?_ NB244_262.out _; (with_reducible repeat (first | refine blk_drewN ?_ _ | refine blk_drew ?_ | refine blk_alloc ?_ _)); exact BK244.out) hb); have n8_ := Aside0.mk (blk_below (g := gb250) (o := .cells #[.slice Ao26 t245.length co26, .int .i64 t248] 24 (0, 0)) (by (with_reducible repeat (first | refine blk_drewN ?_ _ | refine blk_drew ?_ | refine blk_alloc ?_ _)); refine blk_far ?_ NB250_262.out _; (with_reducible repeat (first | refine blk_drewN ?_ _ | refine blk_drew ?_ | refine blk_alloc ?_ _)); refine blk_far ?_ NB250_262.out _; (with_reducible repeat (first | refine blk_drewN ?_ _ | refine blk_drew ?_ | refine blk_alloc ?_ _)); exact BK250.out) hb); have n9_ := Aside0.mk (blk_below (g := gb256) (o := .cells #[.slice Ao34 t251.length co34, .int .i64 t254] 24 (0, 0)) (by (with_reducible repeat (first | refine blk_drewN ?_ _ | refine blk_drew ?_ | refine blk_alloc ?_ _)); refine blk_far ?_ NB256_262.out _; (with_reducible repeat (first | refine blk_drewN ?_ _ | refine blk_drew ?_ | refine blk_alloc ?_ _)); refine blk_far ?_ NB256_262.out _; (with_reducible repeat (first | refine blk_drewN ?_ _ | refine blk_drew ?_ | refine blk_alloc ?_ _)); exact BK256.out) hb); have n10_ := Aside0.mk (blk_below (g := gb262) (o := .cells #[.slice Ao43 t257.length co43, .int .i64 t260] 24 (0, 0)) (by (with_reducible repeat (first | refine blk_drewN ?_ _ | refine blk_drew ?_ | refine blk_alloc ?_ _)); refine blk_put (cs := #[.slice Ao43 t257.length co43, .int .i64 0]) ?_ 1 _ rfl; (with_reducible repeat (first | refine blk_drewN ?_ _ | refine blk_drew ?_ | refine blk_alloc ?_ _)); refine blk_put (cs := #[.slice none 0 0, .int .i64 0]) ?_ 0 _ rfl; (with_reducible repeat (first | refine blk_drewN ?_ _ | refine blk_drew ?_ | refine blk_alloc ?_ _)); exact BK262.out) hb); have n11_ := Aside0.mk (below_step (by repeat (first | (with_reducible first | exact HB.out | apply below_alloc | apply pw_below_drewN | apply below_drew1 | refine below_set ?_ GE233.out | refine below_set ?_ GE238.out | refine below_set ?_ GE244.out | refine below_set ?_ GE250.out | refine below_set ?_ GE256.out | refine below_set ?_ GE262.out) | exact HB.out)) hb); clear HO236; clear HO241; clear HO247; clear HO253; clear HO259; clear BK233; clear BK238; clear BK244; clear BK250; clear BK256; clear BK262; clear HB; have HO236 := n0_; have HO241 := n1_; have HO247 := n2_; have HO253 := n3_; have HO259 := n4_; have BK233 := n5_; have BK238 := n6_; have BK244 := n7_; have BK250 := n8_; have BK256 := n9_; have BK262 := n10_; have HB := n11_; clear n0_ n1_ n2_ n3_ n4_ n5_ n6_ n7_ n8_ n9_ n10_ n11_; (try clear hb); (try clear hb2); (try clear hk); (try clear hi); have hnb69 := NB250_233.out; have hnc69 := NB233_250.out; have hnb70 := NB250_238.out; have hnc70 := NB238_250.out; have hnb71 := NB250_262.out; have hnc71 := NB262_250.out; have hcz72_0 : w68.cell? ⟨gb250, 0, none⟩ = some (.slice Ao26 t245.length co26) := (blk_cell BK250.out 0).trans rfl; have hcz72_1 : w68.cell? ⟨gb250, 1, none⟩ = some (.int .i64 t248) := (blk_cell BK250.out 1).trans rfl; have hfz72_0 := blk_frozen BK250.out 0; have hfz72_1 := blk_frozen BK250.out 1; have hnb73 := NB262_233.out; have hnc73 := NB233_262.out; have hnb74 := NB262_238.out; have hnc74 := NB238_262.out; have hcz75_0 : w68.cell? ⟨gb262, 0, none⟩ = some (.slice Ao43 t257.length co43) := (blk_cell BK262.out 0).trans rfl; have hcz75_1 : w68.cell? ⟨gb262, 1, none⟩ = some (.int .i64 t260) := (blk_cell BK262.out 1).trans rfl; have hfz75_0 := blk_frozen BK262.out 0; have hfz75_1 := blk_frozen BK262.out 1) | (go_at_call 15; (with_reducible refine (rialtoref12_Same.calls k _ _ t245 t248 _ _ t257 t260 true _ ?side1 ?side2 ?side3 ?side4 A53.out).mono ?_); (case side1 => repeat (first | exact (Kd.R_reads' HO247.out).2.2 | (with_reducible refine Kd.C_alloc ?_ _) | (with_reducible refine Kd.C_drewN ?_ _) | (with_reducible refine Kd.C_drew ?_))); (case side2 => exact (Kd.R_reads' HO247.out).2.1); (case side3 => repeat (first | exact (Kd.R_reads' HO259.out).2.2 | (with_reducible refine Kd.C_alloc ?_ _) | (with_reducible refine Kd.C_drewN ?_ _) | (with_reducible refine Kd.C_drew ?_))); (case side4 => exact (Kd.R_reads' HO259.out).2.1); rintro e w76 ⟨rfl, hb⟩; have n0_ := Aside0.mk (Kd.R_below (by (with_reducible repeat (first | apply Kd.R_alloc | apply Kd.R_drewN | apply Kd.R_drew)); exact HO236.out) hb); have n1_ := Aside0.mk (Kd.R_below (by (with_reducible repeat (first | apply Kd.R_alloc | apply Kd.R_drewN | apply Kd.R_drew)); exact HO241.out) hb); have n2_ := Aside0.mk (Kd.R_below (by (with_reducible repeat (first | apply Kd.R_alloc | apply Kd.R_drewN | apply Kd.R_drew)); exact HO247.out) hb); have n3_ := Aside0.mk (Kd.R_below (by (with_reducible repeat (first | apply Kd.R_alloc | apply Kd.R_drewN | apply Kd.R_drew)); exact HO253.out) hb); have n4_ := Aside0.mk (Kd.R_below (by (with_reducible repeat (first | apply Kd.R_alloc | apply Kd.R_drewN | apply Kd.R_drew)); exact HO259.out) hb); have n5_ := Aside0.mk (blk_below (g := gb233) (o := .cells #[.slice A0_0 l0_0.length c0_0, .int .i64 a0_1] 24 (0, 0)) (by (with_reducible repeat (first | refine blk_drewN ?_ _ | refine blk_drew ?_ | refine blk_alloc ?_ _)); exact BK233.out) hb); have n6_ := Aside0.mk (blk_below (g := gb238) (o := .cells #[.slice Ao14 t234.length co14, .int .i64 t237] 24 (0, 0)) (by (with_reducible repeat (first | refine blk_drewN ?_ _ | refine blk_drew ?_ | refine blk_alloc ?_ _)); exact BK238.out) hb); have n7_ := Aside0.mk (blk_below (g := gb244) (o := .cells #[.slice Ao19 t239.length co19, .int .i64 t242] 24 (0, 0)) (by (with_reducible repeat (first | refine blk_drewN ?_ _ | refine blk_drew ?_ | refine blk_alloc ?_ _)); exact BK244.out) hb); have n8_ := Aside0.mk (blk_below (g := gb250) (o := .cells #[.slice Ao26 t245.length co26, .int .i64 t248] 24 (0, 0)) (by (with_reducible repeat (first | refine blk_drewN ?_ _ | refine blk_drew ?_ | refine blk_alloc ?_ _)); exact BK250.out) hb); have n9_ := Aside0.mk (blk_below (g := gb256) (o := .cells #[.slice Ao34 t251.length co34, .int .i64 t254] 24 (0, 0)) (by (with_reducible repeat (first | refine blk_drewN ?_ _ | refine blk_drew ?_ | refine blk_alloc ?_ _)); exact BK256.out) hb); have n10_ := Aside0.mk (blk_below (g := gb262) (o := .cells #[.slice Ao43 t257.length co43, .int .i64 t260] 24 (0, 0)) (by (with_reducible repeat (first | refine blk_drewN ?_ _ | refine blk_drew ?_ | refine blk_alloc ?_ _)); exact BK262.out) hb); have n11_ := Aside0.mk (below_step (by repeat (first | (with_reducible first | exact HB.out | apply below_alloc | apply pw_below_drewN | apply below_drew1 | refine below_set ?_ GE233.out | refine below_set ?_ GE238.out | refine below_set ?_ GE244.out | refine below_set ?_ GE250.out | refine below_set ?_ GE256.out | refine below_set ?_ GE262.out) | exact HB.out)) hb); clear HO236; clear HO241; clear HO247; clear HO253; clear HO259; clear BK233; clear BK238; clear BK244; clear BK250; clear BK256; clear BK262; clear HB; have HO236 := n0_; have HO241 := n1_; have HO247 := n2_; have HO253 := n3_; have HO259 := n4_; have BK233 := n5_; have BK238 := n6_; have BK244 := n7_; have BK250 := n8_; have BK256 := n9_; have BK262 := n10_; have HB := n11_; clear n0_ n1_ n2_ n3_ n4_ n5_ n6_ n7_ n8_ n9_ n10_ n11_; (try clear hb); (try clear hb2); (try clear hk); (try clear hi); have hnb77 := NB238_233.out; have hnc77 := NB233_238.out; have hcz78_0 : w76.cell? ⟨gb238, 0, none⟩ = some (.slice Ao14 t234.length co14) := (blk_cell BK238.out 0).trans rfl; have hcz78_1 : w76.cell? ⟨gb238, 1, none⟩ = some (.int .i64 t237) := (blk_cell BK238.out 1).trans rfl; have hfz78_0 := blk_frozen BK238.out 0; have hfz78_1 := blk_frozen BK238.out 1; have hcz79_0 : w76.cell? ⟨gb233, 0, none⟩ = some (.slice A0_0 l0_0.length c0_0) := (blk_cell BK233.out 0).trans rfl; have hcz79_1 : w76.cell? ⟨gb233, 1, none⟩ = some (.int .i64 a0_1) := (blk_cell BK233.out 1).trans rfl; have hfz79_0 := blk_frozen BK233.out 0; have hfz79_1 := blk_frozen BK233.out 1) | (go_at_call 15; (with_reducible refine (rialtoref12_Same.calls k _ _ t234 t237 _ _ l0_0 a0_1 t265 _ ?side1 ?side2 ?side3 ?side4 A56.out).mono ?_); (case side1 => repeat (first | exact (Kd.R_reads' HO236.out).2.2 | (with_reducible refine Kd.C_alloc ?_ _) | (with_reducible refine Kd.C_drewN ?_ _) | (with_reducible refine Kd.C_drew ?_))); (case side2 => exact (Kd.R_reads' HO236.out).2.1); (case side3 => repeat (first | exact (Kd.C_below HR0_0.out HB.out) | (with_reducible refine Kd.C_alloc ?_ _) | (with_reducible refine Kd.C_drewN ?_ _) | (with_reducible refine Kd.C_drew ?_))); (case side4 => exact HC0_0.out); rintro e w80 ⟨rfl, hb⟩; have n0_ := Aside0.mk (Kd.R_below (by (with_reducible repeat (first | apply Kd.R_alloc | apply Kd.R_drewN | apply Kd.R_drew)); exact HO236.out) hb); have n1_ := Aside0.mk (Kd.R_below (by (with_reducible repeat (first | apply Kd.R_alloc | apply Kd.R_drewN | apply Kd.R_drew)); exact HO241.out) hb); have n2_ := Aside0.mk (Kd.R_below (by (with_reducible repeat (first | apply Kd.R_alloc | apply Kd.R_drewN | apply Kd.R_drew)); exact HO247.out) hb); have n3_ := Aside0.mk (Kd.R_below (by (with_reducible repeat (first | apply Kd.R_alloc | apply Kd.R_drewN | apply Kd.R_drew)); exact HO253.out) hb); have n4_ := Aside0.mk (Kd.R_below (by (with_reducible repeat (first | apply Kd.R_alloc | apply Kd.R_drewN | apply Kd.R_drew)); exact HO259.out) hb); have n5_ := Aside0.mk (blk_below (g := gb233) (o := .cells #[.slice A0_0 l0_0.length c0_0, .int .i64 a0_1] 24 (0, 0)) (by (with_reducible repeat (first | refine blk_drewN ?_ _ | refine blk_drew ?_ | refine blk_alloc ?_ _)); exact BK233.out) hb); have n6_ := Aside0.mk (blk_below (g := gb238) (o := .cells #[.slice Ao14 t234.length co14, .int .i64 t237] 24 (0, 0)) (by (with_reducible repeat (first | refine blk_drewN ?_ _ | refine blk_drew ?_ | refine blk_alloc ?_ _)); exact BK238.out) hb); have n7_ := Aside0.mk (blk_below (g := gb244) (o := .cells #[.slice Ao19 t239.length co19, .int .i64 t242] 24 (0, 0)) (by (with_reducible repeat (first | refine blk_drewN ?_ _ | refine blk_drew ?_ | refine blk_alloc ?_ _)); exact BK244.out) hb); have n8_ := Aside0.mk (blk_below (g := gb250) (o := .cells #[.slice Ao26 t245.length co26, .int .i64 t248] 24 (0, 0)) (by (with_reducible repeat (first | refine blk_drewN ?_ _ | refine blk_drew ?_ | refine blk_alloc ?_ _)); exact BK250.out) hb); have n9_ := Aside0.mk (blk_below (g := gb256) (o := .cells #[.slice Ao34 t251.length co34, .int .i64 t254] 24 (0, 0)) (by (with_reducible repeat (first | refine blk_drewN ?_ _ | refine blk_drew ?_ | refine blk_alloc ?_ _)); exact BK256.out) hb); have n10_ := Aside0.mk (blk_below (g := gb262) (o := .cells #[.slice Ao43 t257.length co43, .int .i64 t260] 24 (0, 0)) (by (with_reducible repeat (first | refine blk_drewN ?_ _ | refine blk_drew ?_ | refine blk_alloc ?_ _)); exact BK262.out) hb); have n11_ := Aside0.mk (below_step (by repeat (first | (with_reducible first | exact HB.out | apply below_alloc | apply pw_below_drewN | apply below_drew1 | refine below_set ?_ GE233.out | refine below_set ?_ GE238.out | refine below_set ?_ GE244.out | refine below_set ?_ GE250.out | refine below_set ?_ GE256.out | refine below_set ?_ GE262.out) | exact HB.out)) hb); clear HO236; clear HO241; clear HO247; clear HO253; clear HO259; clear BK233; clear BK238; clear BK244; clear BK250; clear BK256; clear BK262; clear HB; have HO236 := n0_; have HO241 := n1_; have HO247 := n2_; have HO253 := n3_; have HO259 := n4_; have BK233 := n5_; have BK238 := n6_; have BK244 := n7_; have BK250 := n8_; have BK256 := n9_; have BK262 := n10_; have HB := n11_; clear n0_ n1_ n2_ n3_ n4_ n5_ n6_ n7_ n8_ n9_ n10_ n11_; (try clear hb); (try clear hb2); (try clear hk); (try clear hi)))
            go_meet
            case rel => exact ⟨_, (!t265), (by first | rfl | (simp; done) | (simp [*]; done)), H', ⟨by first | omega | exact Nat.le_refl _⟩, ⟨by (with_reducible repeat (first | apply Kd.R_alloc | apply Kd.R_drewN | apply Kd.R_drew)); exact Kd.R_mono HO236.out (fun _ hk => ⟨hk.1.1.1.2, ⟨hk.1.1.2, ⟨hk.1.2, hk.2⟩⟩⟩)⟩, ⟨by (with_reducible repeat (first | apply Kd.R_alloc | apply Kd.R_drewN | apply Kd.R_drew)); exact Kd.R_mono HO241.out (fun _ hk => ⟨hk.1.1.1.2, ⟨hk.1.1.2, ⟨hk.1.2, hk.2⟩⟩⟩)⟩, ⟨by (with_reducible repeat (first | apply Kd.R_alloc | apply Kd.R_drewN | apply Kd.R_drew)); exact Kd.R_mono HO247.out (fun _ hk => ⟨hk.1.1.1.2, ⟨hk.1.1.2, ⟨hk.1.2, hk.2⟩⟩⟩)⟩, ⟨by (with_reducible repeat (first | apply Kd.R_alloc | apply Kd.R_drewN | apply Kd.R_drew)); exact Kd.R_mono HO253.out (fun _ hk => ⟨hk.1.1.1.2, ⟨hk.1.1.2, ⟨hk.1.2, hk.2⟩⟩⟩)⟩, ⟨by (with_reducible repeat (first | apply Kd.R_alloc | apply Kd.R_drewN | apply Kd.R_drew)); exact Kd.R_mono HO259.out (fun _ hk => ⟨hk.1.1.1.2, ⟨hk.1.1.2, ⟨hk.1.2, hk.2⟩⟩⟩)⟩, ⟨by (with_reducible repeat (first | refine blk_drewN ?_ _ | refine blk_drew ?_ | refine blk_alloc ?_ _)); exact BK233.out⟩, ⟨by (with_reducible repeat (first | refine blk_drewN ?_ _ | refine blk_drew ?_ | refine blk_alloc ?_ _)); exact BK238.out⟩, ⟨by (with_reducible repeat (first | refine blk_drewN ?_ _ | refine blk_drew ?_ | refine blk_alloc ?_ _)); exact BK244.out⟩, ⟨by (with_reducible repeat (first | refine blk_drewN ?_ _ | refine blk_drew ?_ | refine blk_alloc ?_ _)); exact BK250.out⟩, ⟨by (with_reducible repeat (first | refine blk_drewN ?_ _ | refine blk_drew ?_ | refine blk_alloc ?_ _)); exact BK256.out⟩, ⟨by (with_reducible repeat (first | refine blk_drewN ?_ _ | refine blk_drew ?_ | refine blk_alloc ?_ _)); exact BK262.out⟩, ⟨by repeat (first | (with_reducible first | exact HB.out | apply below_alloc | apply pw_below_drewN | apply below_drew1 | refine below_set ?_ GE233.out | refine below_set ?_ GE238.out | refine below_set ?_ GE244.out | refine below_set ?_ GE250.out | refine below_set ?_ GE256.out | refine below_set ?_ GE262.out) | exact HB.out)⟩⟩
          · rw [if_neg c55] at H
            have c55b0 : (t249 == t261) = false := beq_eq_false_iff_ne.mpr c55
            have c55b1 : (t249 != t261) = true := bne_iff_ne.mpr c55
            have H' := Aside0.mk H
            clear H
            have hnb81 := NB244_233.out
            have hnc81 := NB233_244.out
            have hnb82 := NB244_238.out
            have hnc82 := NB238_244.out
            have hnb83 := NB244_250.out
            have hnc83 := NB250_244.out
            have hnb84 := NB244_256.out
            have hnc84 := NB256_244.out
            have hnb85 := NB244_262.out
            have hnc85 := NB262_244.out
            have hcz86_0 : w42.cell? ⟨gb244, 0, none⟩ = some (.slice Ao19 t239.length co19) := (blk_cell BK244.out 0).trans rfl
            have hcz86_1 : w42.cell? ⟨gb244, 1, none⟩ = some (.int .i64 t242) := (blk_cell BK244.out 1).trans rfl
            have hfz86_0 := blk_frozen BK244.out 0
            have hfz86_1 := blk_frozen BK244.out 1
            have hnb87 := NB256_233.out
            have hnc87 := NB233_256.out
            have hnb88 := NB256_238.out
            have hnc88 := NB238_256.out
            have hnb89 := NB256_250.out
            have hnc89 := NB250_256.out
            have hnb90 := NB256_262.out
            have hnc90 := NB262_256.out
            have hcz91_0 : w42.cell? ⟨gb256, 0, none⟩ = some (.slice Ao34 t251.length co34) := (blk_cell BK256.out 0).trans rfl
            have hcz91_1 : w42.cell? ⟨gb256, 1, none⟩ = some (.int .i64 t254) := (blk_cell BK256.out 1).trans rfl
            have hfz91_0 := blk_frozen BK256.out 0
            have hfz91_1 := blk_frozen BK256.out 1
            go_wp2_with (first | ((with_reducible refine gate_callee (f := 15) rfl ?_); refine goesL_ (some 50) rfl rfl Try.func15 (by kernel_rfl) rfl #[.agg #[.slice Ao19 t239.length co19, .int .i64 t242], .agg #[.slice Ao34 t251.length co34, .int .i64 t254]] rfl (by (try simp only [List.map_toArray, List.map_cons, List.map_nil]); first | done | rfl | (simp only [List.length_drop, List.length_take]; rfl)) ?_; (with_reducible refine (rialtoref12_Same.calls k _ _ t239 t242 _ _ t251 t254 true _ ?side1 ?side2 ?side3 ?side4 A50.out).mono ?_); (case side1 => refine (Kd.R_reads' (e := 31) (base := w.heap.size) (ok := fun k_ => ((((True ∧ some k_ ≠ (.slice Ao14 t234.length co14 : Value).ownBlock) ∧ some k_ ≠ (.slice Ao26 t245.length co26 : Value).ownBlock) ∧ some k_ ≠ (.slice Ao34 t251.length co34 : Value).ownBlock) ∧ some k_ ≠ (.slice Ao43 t257.length co43 : Value).ownBlock)) (n := t239.length) (c := co19) ?_).2.2; exact (by (with_reducible repeat (first | apply Kd.R_alloc | apply Kd.R_drewN | apply Kd.R_drew)); exact (Kd.R_mono (Kd.R_far (p := ⟨gb262, 1, none⟩) (Kd.R_far (p := ⟨gb262, 0, none⟩) (Kd.R_types HO241.out BK262.out (by decide)) (fun _ hk => hk.2) (.slice Ao43 t257.length co43)) (fun _ hk => hk.2) (.int .i64 t260)) (fun _ h_ => h_.1)))); (case side2 => exact (Kd.R_reads' HO241.out).2.1); (case side3 => refine (Kd.R_reads' (e := 31) (base := w.heap.size) (ok := fun k_ => ((((True ∧ some k_ ≠ (.slice Ao14 t234.length co14 : Value).ownBlock) ∧ some k_ ≠ (.slice Ao19 t239.length co19 : Value).ownBlock) ∧ some k_ ≠ (.slice Ao26 t245.length co26 : Value).ownBlock) ∧ some k_ ≠ (.slice Ao43 t257.length co43 : Value).ownBlock)) (n := t251.length) (c := co34) ?_).2.2; exact (by (with_reducible repeat (first | apply Kd.R_alloc | apply Kd.R_drewN | apply Kd.R_drew)); exact (Kd.R_mono (Kd.R_far (p := ⟨gb262, 1, none⟩) (Kd.R_far (p := ⟨gb262, 0, none⟩) (Kd.R_types HO253.out BK262.out (by decide)) (fun _ hk => hk.2) (.slice Ao43 t257.length co43)) (fun _ hk => hk.2) (.int .i64 t260)) (fun _ h_ => h_.1)))); (case side4 => exact (Kd.R_reads' HO253.out).2.1); rintro e w92 ⟨rfl, hb⟩; refine ⟨_, rfl, ?_⟩; have n0_ := Aside0.mk (Kd.R_below (by (with_reducible repeat (first | apply Kd.R_alloc | apply Kd.R_drewN | apply Kd.R_drew)); exact (Kd.R_mono (Kd.R_far (p := ⟨gb262, 1, none⟩) (Kd.R_far (p := ⟨gb262, 0, none⟩) (Kd.R_types HO236.out BK262.out (by decide)) (fun _ hk => hk.2) (.slice Ao43 t257.length co43)) (fun _ hk => hk.2) (.int .i64 t260)) (fun _ h_ => h_.1))) hb); have n1_ := Aside0.mk (Kd.R_below (by (with_reducible repeat (first | apply Kd.R_alloc | apply Kd.R_drewN | apply Kd.R_drew)); exact (Kd.R_mono (Kd.R_far (p := ⟨gb262, 1, none⟩) (Kd.R_far (p := ⟨gb262, 0, none⟩) (Kd.R_types HO241.out BK262.out (by decide)) (fun _ hk => hk.2) (.slice Ao43 t257.length co43)) (fun _ hk => hk.2) (.int .i64 t260)) (fun _ h_ => h_.1))) hb); have n2_ := Aside0.mk (Kd.R_below (by (with_reducible repeat (first | apply Kd.R_alloc | apply Kd.R_drewN | apply Kd.R_drew)); exact (Kd.R_mono (Kd.R_far (p := ⟨gb262, 1, none⟩) (Kd.R_far (p := ⟨gb262, 0, none⟩) (Kd.R_types HO247.out BK262.out (by decide)) (fun _ hk => hk.2) (.slice Ao43 t257.length co43)) (fun _ hk => hk.2) (.int .i64 t260)) (fun _ h_ => h_.1))) hb); have n3_ := Aside0.mk (Kd.R_below (by (with_reducible repeat (first | apply Kd.R_alloc | apply Kd.R_drewN | apply Kd.R_drew)); exact (Kd.R_mono (Kd.R_far (p := ⟨gb262, 1, none⟩) (Kd.R_far (p := ⟨gb262, 0, none⟩) (Kd.R_types HO253.out BK262.out (by decide)) (fun _ hk => hk.2) (.slice Ao43 t257.length co43)) (fun _ hk => hk.2) (.int .i64 t260)) (fun _ h_ => h_.1))) hb); have n4_ := Aside0.mk (Kd.R_below (by (with_reducible repeat (first | apply Kd.R_alloc | apply Kd.R_drewN | apply Kd.R_drew)); exact (Kd.R_mono (Kd.R_far (p := ⟨gb262, 1, none⟩) (Kd.R_far (p := ⟨gb262, 0, none⟩) (Kd.R_types HO259.out BK262.out (by decide)) (fun _ hk => hk.2) (.slice Ao43 t257.length co43)) (fun _ hk => hk.2) (.int .i64 t260)) (fun _ h_ => h_.1))) hb); have n5_ := Aside0.mk (blk_below (g := gb233) (o := .cells #[.slice A0_0 l0_0.length c0_0, .int .i64 a0_1] 24 (0, 0)) (by (with_reducible repeat (first | refine blk_drewN ?_ _ | refine blk_drew ?_ | refine blk_alloc ?_ _)); refine blk_far ?_ NB233_262.out _; (with_reducible repeat (first | refine blk_drewN ?_ _ | refine blk_drew ?_ | refine blk_alloc ?_ _)); refine blk_far ?_ NB233_262.out _; (with_reducible repeat (first | refine blk_drewN ?_ _ | refine blk_drew ?_ | refine blk_alloc ?_ _)); exact BK233.out) hb); have n6_ := Aside0.mk (blk_below (g := gb238) (o := .cells #[.slice Ao14 t234.length co14, .int .i64 t237] 24 (0, 0)) (by (with_reducible repeat (first | refine blk_drewN ?_ _ | refine blk_drew ?_ | refine blk_alloc ?_ _)); refine blk_far ?_ NB238_262.out _; (with_reducible repeat (first | refine blk_drewN ?_ _ | refine blk_drew ?_ | refine blk_alloc ?_ _)); refine blk_far ?_ NB238_262.out _; (with_reducible repeat (first | refine blk_drewN ?_ _ | refine blk_drew ?_ | refine blk_alloc ?_ _)); exact BK238.out) hb); have n7_ := Aside0.mk (blk_below (g := gb244) (o := .cells #[.slice Ao19 t239.length co19, .int .i64 t242] 24 (0, 0)) (by (with_reducible repeat (first | refine blk_drewN ?_ _ | refine blk_drew ?_ | refine blk_alloc ?_ _)); refine blk_far ?_ NB244_262.out _; (with_reducible repeat (first | refine blk_drewN ?_ _ | refine blk_drew ?_ | refine blk_alloc ?_ _)); refine blk_far ?_ NB244_262.out _; (with_reducible repeat (first | refine blk_drewN ?_ _ | refine blk_drew ?_ | refine blk_alloc ?_ _)); exact BK244.out) hb); have n8_ := Aside0.mk (blk_below (g := gb250) (o := .cells #[.slice Ao26 t245.length co26, .int .i64 t248] 24 (0, 0)) (by (with_reducible repeat (first | refine blk_drewN ?_ _ | refine blk_drew ?_ | refine blk_alloc ?_ _)); refine blk_far ?_ NB250_262.out _; (with_reducible repeat (first | refine blk_drewN ?_ _ | refine blk_drew ?_ | refine blk_alloc ?_ _)); refine blk_far ?_ NB250_262.out _; (with_reducible repeat (first | refine blk_drewN ?_ _ | refine blk_drew ?_ | refine blk_alloc ?_ _)); exact BK250.out) hb); have n9_ := Aside0.mk (blk_below (g := gb256) (o := .cells #[.slice Ao34 t251.length co34, .int .i64 t254] 24 (0, 0)) (by (with_reducible repeat (first | refine blk_drewN ?_ _ | refine blk_drew ?_ | refine blk_alloc ?_ _)); refine blk_far ?_ NB256_262.out _; (with_reducible repeat (first | refine blk_drewN ?_ _ | refine blk_drew ?_ | refine blk_alloc ?_ _)); refine blk_far ?_ NB256_262.out _; (with_reducible repeat (first | refine blk_drewN ?_ _ | refine blk_drew ?_ | refine blk_alloc ?_ _)); exact BK256.out) hb); have n10_ := Aside0.mk (blk_below (g := gb262) (o := .cells #[.slice Ao43 t257.length co43, .int .i64 t260] 24 (0, 0)) (by (with_reducible repeat (first | refine blk_drewN ?_ _ | refine blk_drew ?_ | refine blk_alloc ?_ _)); refine blk_put (cs := #[.slice Ao43 t257.length co43, .int .i64 0]) ?_ 1 _ rfl; (with_reducible repeat (first | refine blk_drewN ?_ _ | refine blk_drew ?_ | refine blk_alloc ?_ _)); refine blk_put (cs := #[.slice none 0 0, .int .i64 0]) ?_ 0 _ rfl; (with_reducible repeat (first | refine blk_drewN ?_ _ | refine blk_drew ?_ | refine blk_alloc ?_ _)); exact BK262.out) hb); have n11_ := Aside0.mk (below_step (by repeat (first | (with_reducible first | exact HB.out | apply below_alloc | apply pw_below_drewN | apply below_drew1 | refine below_set ?_ GE233.out | refine below_set ?_ GE238.out | refine below_set ?_ GE244.out | refine below_set ?_ GE250.out | refine below_set ?_ GE256.out | refine below_set ?_ GE262.out) | exact HB.out)) hb); clear HO236; clear HO241; clear HO247; clear HO253; clear HO259; clear BK233; clear BK238; clear BK244; clear BK250; clear BK256; clear BK262; clear HB; have HO236 := n0_; have HO241 := n1_; have HO247 := n2_; have HO253 := n3_; have HO259 := n4_; have BK233 := n5_; have BK238 := n6_; have BK244 := n7_; have BK250 := n8_; have BK256 := n9_; have BK262 := n10_; have HB := n11_; clear n0_ n1_ n2_ n3_ n4_ n5_ n6_ n7_ n8_ n9_ n10_ n11_; (try clear hb); (try clear hb2); (try clear hk); (try clear hi); have hnb93 := NB250_233.out; have hnc93 := NB233_250.out; have hnb94 := NB250_238.out; have hnc94 := NB238_250.out; have hnb95 := NB250_262.out; have hnc95 := NB262_250.out; have hcz96_0 : w92.cell? ⟨gb250, 0, none⟩ = some (.slice Ao26 t245.length co26) := (blk_cell BK250.out 0).trans rfl; have hcz96_1 : w92.cell? ⟨gb250, 1, none⟩ = some (.int .i64 t248) := (blk_cell BK250.out 1).trans rfl; have hfz96_0 := blk_frozen BK250.out 0; have hfz96_1 := blk_frozen BK250.out 1; have hnb97 := NB262_233.out; have hnc97 := NB233_262.out; have hnb98 := NB262_238.out; have hnc98 := NB238_262.out; have hcz99_0 : w92.cell? ⟨gb262, 0, none⟩ = some (.slice Ao43 t257.length co43) := (blk_cell BK262.out 0).trans rfl; have hcz99_1 : w92.cell? ⟨gb262, 1, none⟩ = some (.int .i64 t260) := (blk_cell BK262.out 1).trans rfl; have hfz99_0 := blk_frozen BK262.out 0; have hfz99_1 := blk_frozen BK262.out 1) | (go_at_call 15; (with_reducible refine (rialtoref12_Same.calls k _ _ t245 t248 _ _ t257 t260 true _ ?side1 ?side2 ?side3 ?side4 A53.out).mono ?_); (case side1 => repeat (first | exact (Kd.R_reads' HO247.out).2.2 | (with_reducible refine Kd.C_alloc ?_ _) | (with_reducible refine Kd.C_drewN ?_ _) | (with_reducible refine Kd.C_drew ?_))); (case side2 => exact (Kd.R_reads' HO247.out).2.1); (case side3 => repeat (first | exact (Kd.R_reads' HO259.out).2.2 | (with_reducible refine Kd.C_alloc ?_ _) | (with_reducible refine Kd.C_drewN ?_ _) | (with_reducible refine Kd.C_drew ?_))); (case side4 => exact (Kd.R_reads' HO259.out).2.1); rintro e w100 ⟨rfl, hb⟩; have n0_ := Aside0.mk (Kd.R_below (by (with_reducible repeat (first | apply Kd.R_alloc | apply Kd.R_drewN | apply Kd.R_drew)); exact HO236.out) hb); have n1_ := Aside0.mk (Kd.R_below (by (with_reducible repeat (first | apply Kd.R_alloc | apply Kd.R_drewN | apply Kd.R_drew)); exact HO241.out) hb); have n2_ := Aside0.mk (Kd.R_below (by (with_reducible repeat (first | apply Kd.R_alloc | apply Kd.R_drewN | apply Kd.R_drew)); exact HO247.out) hb); have n3_ := Aside0.mk (Kd.R_below (by (with_reducible repeat (first | apply Kd.R_alloc | apply Kd.R_drewN | apply Kd.R_drew)); exact HO253.out) hb); have n4_ := Aside0.mk (Kd.R_below (by (with_reducible repeat (first | apply Kd.R_alloc | apply Kd.R_drewN | apply Kd.R_drew)); exact HO259.out) hb); have n5_ := Aside0.mk (blk_below (g := gb233) (o := .cells #[.slice A0_0 l0_0.length c0_0, .int .i64 a0_1] 24 (0, 0)) (by (with_reducible repeat (first | refine blk_drewN ?_ _ | refine blk_drew ?_ | refine blk_alloc ?_ _)); exact BK233.out) hb); have n6_ := Aside0.mk (blk_below (g := gb238) (o := .cells #[.slice Ao14 t234.length co14, .int .i64 t237] 24 (0, 0)) (by (with_reducible repeat (first | refine blk_drewN ?_ _ | refine blk_drew ?_ | refine blk_alloc ?_ _)); exact BK238.out) hb); have n7_ := Aside0.mk (blk_below (g := gb244) (o := .cells #[.slice Ao19 t239.length co19, .int .i64 t242] 24 (0, 0)) (by (with_reducible repeat (first | refine blk_drewN ?_ _ | refine blk_drew ?_ | refine blk_alloc ?_ _)); exact BK244.out) hb); have n8_ := Aside0.mk (blk_below (g := gb250) (o := .cells #[.slice Ao26 t245.length co26, .int .i64 t248] 24 (0, 0)) (by (with_reducible repeat (first | refine blk_drewN ?_ _ | refine blk_drew ?_ | refine blk_alloc ?_ _)); exact BK250.out) hb); have n9_ := Aside0.mk (blk_below (g := gb256) (o := .cells #[.slice Ao34 t251.length co34, .int .i64 t254] 24 (0, 0)) (by (with_reducible repeat (first | refine blk_drewN ?_ _ | refine blk_drew ?_ | refine blk_alloc ?_ _)); exact BK256.out) hb); have n10_ := Aside0.mk (blk_below (g := gb262) (o := .cells #[.slice Ao43 t257.length co43, .int .i64 t260] 24 (0, 0)) (by (with_reducible repeat (first | refine blk_drewN ?_ _ | refine blk_drew ?_ | refine blk_alloc ?_ _)); exact BK262.out) hb); have n11_ := Aside0.mk (below_step (by repeat (first | (with_reducible first | exact HB.out | apply below_alloc | apply pw_below_drewN | apply below_drew1 | refine below_set ?_ GE233.out | refine below_set ?_ GE238.out | refine below_set ?_ GE244.out | refine below_set ?_ GE250.out | refine below_set ?_ GE256.out | refine below_set ?_ GE262.out) | exact HB.out)) hb); clear HO236; clear HO241; clear HO247; clear HO253; clear HO259; clear BK233; clear BK238; clear BK244; clear BK250; clear BK256; clear BK262; clear HB; have HO236 := n0_; have HO241 := n1_; have HO247 := n2_; have HO253 := n3_; have HO259 := n4_; have BK233 := n5_; have BK238 := n6_; have BK244 := n7_; have BK250 := n8_; have BK256 := n9_; have BK262 := n10_; have HB := n11_; clear n0_ n1_ n2_ n3_ n4_ n5_ n6_ n7_ n8_ n9_ n10_ n11_; (try clear hb); (try clear hb2); (try clear hk); (try clear hi)))
            go_meet
            case rel => exact ⟨_, (true), (by first | rfl | (simp; done) | (simp [*]; done)), H', ⟨by first | omega | exact Nat.le_refl _⟩, ⟨by (with_reducible repeat (first | apply Kd.R_alloc | apply Kd.R_drewN | apply Kd.R_drew)); exact Kd.R_mono HO236.out (fun _ hk => ⟨hk.1.1.1.2, ⟨hk.1.1.2, ⟨hk.1.2, hk.2⟩⟩⟩)⟩, ⟨by (with_reducible repeat (first | apply Kd.R_alloc | apply Kd.R_drewN | apply Kd.R_drew)); exact Kd.R_mono HO241.out (fun _ hk => ⟨hk.1.1.1.2, ⟨hk.1.1.2, ⟨hk.1.2, hk.2⟩⟩⟩)⟩, ⟨by (with_reducible repeat (first | apply Kd.R_alloc | apply Kd.R_drewN | apply Kd.R_drew)); exact Kd.R_mono HO247.out (fun _ hk => ⟨hk.1.1.1.2, ⟨hk.1.1.2, ⟨hk.1.2, hk.2⟩⟩⟩)⟩, ⟨by (with_reducible repeat (first | apply Kd.R_alloc | apply Kd.R_drewN | apply Kd.R_drew)); exact Kd.R_mono HO253.out (fun _ hk => ⟨hk.1.1.1.2, ⟨hk.1.1.2, ⟨hk.1.2, hk.2⟩⟩⟩)⟩, ⟨by (with_reducible repeat (first | apply Kd.R_alloc | apply Kd.R_drewN | apply Kd.R_drew)); exact Kd.R_mono HO259.out (fun _ hk => ⟨hk.1.1.1.2, ⟨hk.1.1.2, ⟨hk.1.2, hk.2⟩⟩⟩)⟩, ⟨by (with_reducible repeat (first | refine blk_drewN ?_ _ | refine blk_drew ?_ | refine blk_alloc ?_ _)); exact BK233.out⟩, ⟨by (with_reducible repeat (first | refine blk_drewN ?_ _ | refine blk_drew ?_ | refine blk_alloc ?_ _)); exact BK238.out⟩, ⟨by (with_reducible repeat (first | refine blk_drewN ?_ _ | refine blk_drew ?_ | refine blk_alloc ?_ _)); exact BK244.out⟩, ⟨by (with_reducible repeat (first | refine blk_drewN ?_ _ | refine blk_drew ?_ | refine blk_alloc ?_ _)); exact BK250.out⟩, ⟨by (with_reducible repeat (first | refine blk_drewN ?_ _ | refine blk_drew ?_ | refine blk_alloc ?_ _)); exact BK256.out⟩, ⟨by (with_reducible repeat (first | refine blk_drewN ?_ _ | refine blk_drew ?_ | refine blk_alloc ?_ _)); exact BK262.out⟩, ⟨by repeat (first | (with_reducible first | exact HB.out | apply below_alloc | apply pw_below_drewN | apply below_drew1 | refine below_set ?_ GE233.out | refine below_set ?_ GE238.out | refine below_set ?_ GE244.out | refine below_set ?_ GE250.out | refine below_set ?_ GE256.out | refine below_set ?_ GE262.out) | exact HB.out)⟩⟩
        · replace c54 := Bool.eq_false_iff.mpr c54
          subst c54
          have H1 : (rialtolaw12_LedgerMoves.j0 k true l0_0 a0_1 t234 t237 t239 t242 t245 t248) = some r := by rw [if_neg (show ¬ (false = true) by decide)] at H; exact H
          clear H
          have H := H1
          clear H1
          have H' := Aside0.mk H
          clear H
          have hnb101 := NB244_233.out
          have hnc101 := NB233_244.out
          have hnb102 := NB244_238.out
          have hnc102 := NB238_244.out
          have hnb103 := NB244_250.out
          have hnc103 := NB250_244.out
          have hnb104 := NB244_256.out
          have hnc104 := NB256_244.out
          have hnb105 := NB244_262.out
          have hnc105 := NB262_244.out
          have hcz106_0 : w42.cell? ⟨gb244, 0, none⟩ = some (.slice Ao19 t239.length co19) := (blk_cell BK244.out 0).trans rfl
          have hcz106_1 : w42.cell? ⟨gb244, 1, none⟩ = some (.int .i64 t242) := (blk_cell BK244.out 1).trans rfl
          have hfz106_0 := blk_frozen BK244.out 0
          have hfz106_1 := blk_frozen BK244.out 1
          have hnb107 := NB256_233.out
          have hnc107 := NB233_256.out
          have hnb108 := NB256_238.out
          have hnc108 := NB238_256.out
          have hnb109 := NB256_250.out
          have hnc109 := NB250_256.out
          have hnb110 := NB256_262.out
          have hnc110 := NB262_256.out
          have hcz111_0 : w42.cell? ⟨gb256, 0, none⟩ = some (.slice Ao34 t251.length co34) := (blk_cell BK256.out 0).trans rfl
          have hcz111_1 : w42.cell? ⟨gb256, 1, none⟩ = some (.int .i64 t254) := (blk_cell BK256.out 1).trans rfl
          have hfz111_0 := blk_frozen BK256.out 0
          have hfz111_1 := blk_frozen BK256.out 1
          go_wp2_with (first | ((with_reducible refine gate_callee (f := 15) rfl ?_); refine goesL_ (some 50) rfl rfl Try.func15 (by kernel_rfl) rfl #[.agg #[.slice Ao19 t239.length co19, .int .i64 t242], .agg #[.slice Ao34 t251.length co34, .int .i64 t254]] rfl (by (try simp only [List.map_toArray, List.map_cons, List.map_nil]); first | done | rfl | (simp only [List.length_drop, List.length_take]; rfl)) ?_; (with_reducible refine (rialtoref12_Same.calls k _ _ t239 t242 _ _ t251 t254 true _ ?side1 ?side2 ?side3 ?side4 A50.out).mono ?_); (case side1 => refine (Kd.R_reads' (e := 31) (base := w.heap.size) (ok := fun k_ => ((((True ∧ some k_ ≠ (.slice Ao14 t234.length co14 : Value).ownBlock) ∧ some k_ ≠ (.slice Ao26 t245.length co26 : Value).ownBlock) ∧ some k_ ≠ (.slice Ao34 t251.length co34 : Value).ownBlock) ∧ some k_ ≠ (.slice Ao43 t257.length co43 : Value).ownBlock)) (n := t239.length) (c := co19) ?_).2.2; exact (by (with_reducible repeat (first | apply Kd.R_alloc | apply Kd.R_drewN | apply Kd.R_drew)); exact (Kd.R_mono (Kd.R_far (p := ⟨gb262, 1, none⟩) (Kd.R_far (p := ⟨gb262, 0, none⟩) (Kd.R_types HO241.out BK262.out (by decide)) (fun _ hk => hk.2) (.slice Ao43 t257.length co43)) (fun _ hk => hk.2) (.int .i64 t260)) (fun _ h_ => h_.1)))); (case side2 => exact (Kd.R_reads' HO241.out).2.1); (case side3 => refine (Kd.R_reads' (e := 31) (base := w.heap.size) (ok := fun k_ => ((((True ∧ some k_ ≠ (.slice Ao14 t234.length co14 : Value).ownBlock) ∧ some k_ ≠ (.slice Ao19 t239.length co19 : Value).ownBlock) ∧ some k_ ≠ (.slice Ao26 t245.length co26 : Value).ownBlock) ∧ some k_ ≠ (.slice Ao43 t257.length co43 : Value).ownBlock)) (n := t251.length) (c := co34) ?_).2.2; exact (by (with_reducible repeat (first | apply Kd.R_alloc | apply Kd.R_drewN | apply Kd.R_drew)); exact (Kd.R_mono (Kd.R_far (p := ⟨gb262, 1, none⟩) (Kd.R_far (p := ⟨gb262, 0, none⟩) (Kd.R_types HO253.out BK262.out (by decide)) (fun _ hk => hk.2) (.slice Ao43 t257.length co43)) (fun _ hk => hk.2) (.int .i64 t260)) (fun _ h_ => h_.1)))); (case side4 => exact (Kd.R_reads' HO253.out).2.1); rintro e w112 ⟨rfl, hb⟩; refine ⟨_, rfl, ?_⟩; have n0_ := Aside0.mk (Kd.R_below (by (with_reducible repeat (first | apply Kd.R_alloc | apply Kd.R_drewN | apply Kd.R_drew)); exact (Kd.R_mono (Kd.R_far (p := ⟨gb262, 1, none⟩) (Kd.R_far (p := ⟨gb262, 0, none⟩) (Kd.R_types HO236.out BK262.out (by decide)) (fun _ hk => hk.2) (.slice Ao43 t257.length co43)) (fun _ hk => hk.2) (.int .i64 t260)) (fun _ h_ => h_.1))) hb); have n1_ := Aside0.mk (Kd.R_below (by (with_reducible repeat (first | apply Kd.R_alloc | apply Kd.R_drewN | apply Kd.R_drew)); exact (Kd.R_mono (Kd.R_far (p := ⟨gb262, 1, none⟩) (Kd.R_far (p := ⟨gb262, 0, none⟩) (Kd.R_types HO241.out BK262.out (by decide)) (fun _ hk => hk.2) (.slice Ao43 t257.length co43)) (fun _ hk => hk.2) (.int .i64 t260)) (fun _ h_ => h_.1))) hb); have n2_ := Aside0.mk (Kd.R_below (by (with_reducible repeat (first | apply Kd.R_alloc | apply Kd.R_drewN | apply Kd.R_drew)); exact (Kd.R_mono (Kd.R_far (p := ⟨gb262, 1, none⟩) (Kd.R_far (p := ⟨gb262, 0, none⟩) (Kd.R_types HO247.out BK262.out (by decide)) (fun _ hk => hk.2) (.slice Ao43 t257.length co43)) (fun _ hk => hk.2) (.int .i64 t260)) (fun _ h_ => h_.1))) hb); have n3_ := Aside0.mk (Kd.R_below (by (with_reducible repeat (first | apply Kd.R_alloc | apply Kd.R_drewN | apply Kd.R_drew)); exact (Kd.R_mono (Kd.R_far (p := ⟨gb262, 1, none⟩) (Kd.R_far (p := ⟨gb262, 0, none⟩) (Kd.R_types HO253.out BK262.out (by decide)) (fun _ hk => hk.2) (.slice Ao43 t257.length co43)) (fun _ hk => hk.2) (.int .i64 t260)) (fun _ h_ => h_.1))) hb); have n4_ := Aside0.mk (Kd.R_below (by (with_reducible repeat (first | apply Kd.R_alloc | apply Kd.R_drewN | apply Kd.R_drew)); exact (Kd.R_mono (Kd.R_far (p := ⟨gb262, 1, none⟩) (Kd.R_far (p := ⟨gb262, 0, none⟩) (Kd.R_types HO259.out BK262.out (by decide)) (fun _ hk => hk.2) (.slice Ao43 t257.length co43)) (fun _ hk => hk.2) (.int .i64 t260)) (fun _ h_ => h_.1))) hb); have n5_ := Aside0.mk (blk_below (g := gb233) (o := .cells #[.slice A0_0 l0_0.length c0_0, .int .i64 a0_1] 24 (0, 0)) (by (with_reducible repeat (first | refine blk_drewN ?_ _ | refine blk_drew ?_ | refine blk_alloc ?_ _)); refine blk_far ?_ NB233_262.out _; (with_reducible repeat (first | refine blk_drewN ?_ _ | refine blk_drew ?_ | refine blk_alloc ?_ _)); refine blk_far ?_ NB233_262.out _; (with_reducible repeat (first | refine blk_drewN ?_ _ | refine blk_drew ?_ | refine blk_alloc ?_ _)); exact BK233.out) hb); have n6_ := Aside0.mk (blk_below (g := gb238) (o := .cells #[.slice Ao14 t234.length co14, .int .i64 t237] 24 (0, 0)) (by (with_reducible repeat (first | refine blk_drewN ?_ _ | refine blk_drew ?_ | refine blk_alloc ?_ _)); refine blk_far ?_ NB238_262.out _; (with_reducible repeat (first | refine blk_drewN ?_ _ | refine blk_drew ?_ | refine blk_alloc ?_ _)); refine blk_far ?_ NB238_262.out _; (with_reducible repeat (first | refine blk_drewN ?_ _ | refine blk_drew ?_ | refine blk_alloc ?_ _)); exact BK238.out) hb); have n7_ := Aside0.mk (blk_below (g := gb244) (o := .cells #[.slice Ao19 t239.length co19, .int .i64 t242] 24 (0, 0)) (by (with_reducible repeat (first | refine blk_drewN ?_ _ | refine blk_drew ?_ | refine blk_alloc ?_ _)); refine blk_far ?_ NB244_262.out _; (with_reducible repeat (first | refine blk_drewN ?_ _ | refine blk_drew ?_ | refine blk_alloc ?_ _)); refine blk_far ?_ NB244_262.out _; (with_reducible repeat (first | refine blk_drewN ?_ _ | refine blk_drew ?_ | refine blk_alloc ?_ _)); exact BK244.out) hb); have n8_ := Aside0.mk (blk_below (g := gb250) (o := .cells #[.slice Ao26 t245.length co26, .int .i64 t248] 24 (0, 0)) (by (with_reducible repeat (first | refine blk_drewN ?_ _ | refine blk_drew ?_ | refine blk_alloc ?_ _)); refine blk_far ?_ NB250_262.out _; (with_reducible repeat (first | refine blk_drewN ?_ _ | refine blk_drew ?_ | refine blk_alloc ?_ _)); refine blk_far ?_ NB250_262.out _; (with_reducible repeat (first | refine blk_drewN ?_ _ | refine blk_drew ?_ | refine blk_alloc ?_ _)); exact BK250.out) hb); have n9_ := Aside0.mk (blk_below (g := gb256) (o := .cells #[.slice Ao34 t251.length co34, .int .i64 t254] 24 (0, 0)) (by (with_reducible repeat (first | refine blk_drewN ?_ _ | refine blk_drew ?_ | refine blk_alloc ?_ _)); refine blk_far ?_ NB256_262.out _; (with_reducible repeat (first | refine blk_drewN ?_ _ | refine blk_drew ?_ | refine blk_alloc ?_ _)); refine blk_far ?_ NB256_262.out _; (with_reducible repeat (first | refine blk_drewN ?_ _ | refine blk_drew ?_ | refine blk_alloc ?_ _)); exact BK256.out) hb); have n10_ := Aside0.mk (blk_below (g := gb262) (o := .cells #[.slice Ao43 t257.length co43, .int .i64 t260] 24 (0, 0)) (by (with_reducible repeat (first | refine blk_drewN ?_ _ | refine blk_drew ?_ | refine blk_alloc ?_ _)); refine blk_put (cs := #[.slice Ao43 t257.length co43, .int .i64 0]) ?_ 1 _ rfl; (with_reducible repeat (first | refine blk_drewN ?_ _ | refine blk_drew ?_ | refine blk_alloc ?_ _)); refine blk_put (cs := #[.slice none 0 0, .int .i64 0]) ?_ 0 _ rfl; (with_reducible repeat (first | refine blk_drewN ?_ _ | refine blk_drew ?_ | refine blk_alloc ?_ _)); exact BK262.out) hb); have n11_ := Aside0.mk (below_step (by repeat (first | (with_reducible first | exact HB.out | apply below_alloc | apply pw_below_drewN | apply below_drew1 | refine below_set ?_ GE233.out | refine below_set ?_ GE238.out | refine below_set ?_ GE244.out | refine below_set ?_ GE250.out | refine below_set ?_ GE256.out | refine below_set ?_ GE262.out) | exact HB.out)) hb); clear HO236; clear HO241; clear HO247; clear HO253; clear HO259; clear BK233; clear BK238; clear BK244; clear BK250; clear BK256; clear BK262; clear HB; have HO236 := n0_; have HO241 := n1_; have HO247 := n2_; have HO253 := n3_; have HO259 := n4_; have BK233 := n5_; have BK238 := n6_; have BK244 := n7_; have BK250 := n8_; have BK256 := n9_; have BK262 := n10_; have HB := n11_; clear n0_ n1_ n2_ n3_ n4_ n5_ n6_ n7_ n8_ n9_ n10_ n11_; (try clear hb); (try clear hb2); (try clear hk); (try clear hi); have hnb113 := NB250_233.out; have hnc113 := NB233_250.out; have hnb114 := NB250_238.out; have hnc114 := NB238_250.out; have hnb115 := NB250_262.out; have hnc115 := NB262_250.out; have hcz116_0 : w112.cell? ⟨gb250, 0, none⟩ = some (.slice Ao26 t245.length co26) := (blk_cell BK250.out 0).trans rfl; have hcz116_1 : w112.cell? ⟨gb250, 1, none⟩ = some (.int .i64 t248) := (blk_cell BK250.out 1).trans rfl; have hfz116_0 := blk_frozen BK250.out 0; have hfz116_1 := blk_frozen BK250.out 1; have hnb117 := NB262_233.out; have hnc117 := NB233_262.out; have hnb118 := NB262_238.out; have hnc118 := NB238_262.out; have hcz119_0 : w112.cell? ⟨gb262, 0, none⟩ = some (.slice Ao43 t257.length co43) := (blk_cell BK262.out 0).trans rfl; have hcz119_1 : w112.cell? ⟨gb262, 1, none⟩ = some (.int .i64 t260) := (blk_cell BK262.out 1).trans rfl; have hfz119_0 := blk_frozen BK262.out 0; have hfz119_1 := blk_frozen BK262.out 1) | (go_at_call 15; (with_reducible refine (rialtoref12_Same.calls k _ _ t245 t248 _ _ t257 t260 false _ ?side1 ?side2 ?side3 ?side4 A53.out).mono ?_); (case side1 => repeat (first | exact (Kd.R_reads' HO247.out).2.2 | (with_reducible refine Kd.C_alloc ?_ _) | (with_reducible refine Kd.C_drewN ?_ _) | (with_reducible refine Kd.C_drew ?_))); (case side2 => exact (Kd.R_reads' HO247.out).2.1); (case side3 => repeat (first | exact (Kd.R_reads' HO259.out).2.2 | (with_reducible refine Kd.C_alloc ?_ _) | (with_reducible refine Kd.C_drewN ?_ _) | (with_reducible refine Kd.C_drew ?_))); (case side4 => exact (Kd.R_reads' HO259.out).2.1); rintro e w120 ⟨rfl, hb⟩; have n0_ := Aside0.mk (Kd.R_below (by (with_reducible repeat (first | apply Kd.R_alloc | apply Kd.R_drewN | apply Kd.R_drew)); exact HO236.out) hb); have n1_ := Aside0.mk (Kd.R_below (by (with_reducible repeat (first | apply Kd.R_alloc | apply Kd.R_drewN | apply Kd.R_drew)); exact HO241.out) hb); have n2_ := Aside0.mk (Kd.R_below (by (with_reducible repeat (first | apply Kd.R_alloc | apply Kd.R_drewN | apply Kd.R_drew)); exact HO247.out) hb); have n3_ := Aside0.mk (Kd.R_below (by (with_reducible repeat (first | apply Kd.R_alloc | apply Kd.R_drewN | apply Kd.R_drew)); exact HO253.out) hb); have n4_ := Aside0.mk (Kd.R_below (by (with_reducible repeat (first | apply Kd.R_alloc | apply Kd.R_drewN | apply Kd.R_drew)); exact HO259.out) hb); have n5_ := Aside0.mk (blk_below (g := gb233) (o := .cells #[.slice A0_0 l0_0.length c0_0, .int .i64 a0_1] 24 (0, 0)) (by (with_reducible repeat (first | refine blk_drewN ?_ _ | refine blk_drew ?_ | refine blk_alloc ?_ _)); exact BK233.out) hb); have n6_ := Aside0.mk (blk_below (g := gb238) (o := .cells #[.slice Ao14 t234.length co14, .int .i64 t237] 24 (0, 0)) (by (with_reducible repeat (first | refine blk_drewN ?_ _ | refine blk_drew ?_ | refine blk_alloc ?_ _)); exact BK238.out) hb); have n7_ := Aside0.mk (blk_below (g := gb244) (o := .cells #[.slice Ao19 t239.length co19, .int .i64 t242] 24 (0, 0)) (by (with_reducible repeat (first | refine blk_drewN ?_ _ | refine blk_drew ?_ | refine blk_alloc ?_ _)); exact BK244.out) hb); have n8_ := Aside0.mk (blk_below (g := gb250) (o := .cells #[.slice Ao26 t245.length co26, .int .i64 t248] 24 (0, 0)) (by (with_reducible repeat (first | refine blk_drewN ?_ _ | refine blk_drew ?_ | refine blk_alloc ?_ _)); exact BK250.out) hb); have n9_ := Aside0.mk (blk_below (g := gb256) (o := .cells #[.slice Ao34 t251.length co34, .int .i64 t254] 24 (0, 0)) (by (with_reducible repeat (first | refine blk_drewN ?_ _ | refine blk_drew ?_ | refine blk_alloc ?_ _)); exact BK256.out) hb); have n10_ := Aside0.mk (blk_below (g := gb262) (o := .cells #[.slice Ao43 t257.length co43, .int .i64 t260] 24 (0, 0)) (by (with_reducible repeat (first | refine blk_drewN ?_ _ | refine blk_drew ?_ | refine blk_alloc ?_ _)); exact BK262.out) hb); have n11_ := Aside0.mk (below_step (by repeat (first | (with_reducible first | exact HB.out | apply below_alloc | apply pw_below_drewN | apply below_drew1 | refine below_set ?_ GE233.out | refine below_set ?_ GE238.out | refine below_set ?_ GE244.out | refine below_set ?_ GE250.out | refine below_set ?_ GE256.out | refine below_set ?_ GE262.out) | exact HB.out)) hb); clear HO236; clear HO241; clear HO247; clear HO253; clear HO259; clear BK233; clear BK238; clear BK244; clear BK250; clear BK256; clear BK262; clear HB; have HO236 := n0_; have HO241 := n1_; have HO247 := n2_; have HO253 := n3_; have HO259 := n4_; have BK233 := n5_; have BK238 := n6_; have BK244 := n7_; have BK250 := n8_; have BK256 := n9_; have BK262 := n10_; have HB := n11_; clear n0_ n1_ n2_ n3_ n4_ n5_ n6_ n7_ n8_ n9_ n10_ n11_; (try clear hb); (try clear hb2); (try clear hk); (try clear hi)))
          go_meet
          case rel => exact ⟨_, (true), (by first | rfl | (simp; done) | (simp [*]; done)), H', ⟨by first | omega | exact Nat.le_refl _⟩, ⟨by (with_reducible repeat (first | apply Kd.R_alloc | apply Kd.R_drewN | apply Kd.R_drew)); exact Kd.R_mono HO236.out (fun _ hk => ⟨hk.1.1.1.2, ⟨hk.1.1.2, ⟨hk.1.2, hk.2⟩⟩⟩)⟩, ⟨by (with_reducible repeat (first | apply Kd.R_alloc | apply Kd.R_drewN | apply Kd.R_drew)); exact Kd.R_mono HO241.out (fun _ hk => ⟨hk.1.1.1.2, ⟨hk.1.1.2, ⟨hk.1.2, hk.2⟩⟩⟩)⟩, ⟨by (with_reducible repeat (first | apply Kd.R_alloc | apply Kd.R_drewN | apply Kd.R_drew)); exact Kd.R_mono HO247.out (fun _ hk => ⟨hk.1.1.1.2, ⟨hk.1.1.2, ⟨hk.1.2, hk.2⟩⟩⟩)⟩, ⟨by (with_reducible repeat (first | apply Kd.R_alloc | apply Kd.R_drewN | apply Kd.R_drew)); exact Kd.R_mono HO253.out (fun _ hk => ⟨hk.1.1.1.2, ⟨hk.1.1.2, ⟨hk.1.2, hk.2⟩⟩⟩)⟩, ⟨by (with_reducible repeat (first | apply Kd.R_alloc | apply Kd.R_drewN | apply Kd.R_drew)); exact Kd.R_mono HO259.out (fun _ hk => ⟨hk.1.1.1.2, ⟨hk.1.1.2, ⟨hk.1.2, hk.2⟩⟩⟩)⟩, ⟨by (with_reducible repeat (first | refine blk_drewN ?_ _ | refine blk_drew ?_ | refine blk_alloc ?_ _)); exact BK233.out⟩, ⟨by (with_reducible repeat (first | refine blk_drewN ?_ _ | refine blk_drew ?_ | refine blk_alloc ?_ _)); exact BK238.out⟩, ⟨by (with_reducible repeat (first | refine blk_drewN ?_ _ | refine blk_drew ?_ | refine blk_alloc ?_ _)); exact BK244.out⟩, ⟨by (with_reducible repeat (first | refine blk_drewN ?_ _ | refine blk_drew ?_ | refine blk_alloc ?_ _)); exact BK250.out⟩, ⟨by (with_reducible repeat (first | refine blk_drewN ?_ _ | refine blk_drew ?_ | refine blk_alloc ?_ _)); exact BK256.out⟩, ⟨by (with_reducible repeat (first | refine blk_drewN ?_ _ | refine blk_drew ?_ | refine blk_alloc ?_ _)); exact BK262.out⟩, ⟨by repeat (first | (with_reducible first | exact HB.out | apply below_alloc | apply pw_below_drewN | apply below_drew1 | refine below_set ?_ GE233.out | refine below_set ?_ GE238.out | refine below_set ?_ GE244.out | refine below_set ?_ GE250.out | refine below_set ?_ GE256.out | refine below_set ?_ GE262.out) | exact HB.out)⟩⟩
      · rw [if_neg c52] at H
        have c52b0 : (t243 == t255) = false := beq_eq_false_iff_ne.mpr c52
        have c52b1 : (t243 != t255) = true := bne_iff_ne.mpr c52
        (first | rw [c52b0] | (simp only [i64_w, i32_w]; rw [c52b0]) | skip)
        have H' := Aside0.mk H
        clear H
        have hnb121 := NB244_233.out
        have hnc121 := NB233_244.out
        have hnb122 := NB244_238.out
        have hnc122 := NB238_244.out
        have hnb123 := NB244_250.out
        have hnc123 := NB250_244.out
        have hnb124 := NB244_256.out
        have hnc124 := NB256_244.out
        have hnb125 := NB244_262.out
        have hnc125 := NB262_244.out
        have hcz126_0 : w42.cell? ⟨gb244, 0, none⟩ = some (.slice Ao19 t239.length co19) := (blk_cell BK244.out 0).trans rfl
        have hcz126_1 : w42.cell? ⟨gb244, 1, none⟩ = some (.int .i64 t242) := (blk_cell BK244.out 1).trans rfl
        have hfz126_0 := blk_frozen BK244.out 0
        have hfz126_1 := blk_frozen BK244.out 1
        have hnb127 := NB256_233.out
        have hnc127 := NB233_256.out
        have hnb128 := NB256_238.out
        have hnc128 := NB238_256.out
        have hnb129 := NB256_250.out
        have hnc129 := NB250_256.out
        have hnb130 := NB256_262.out
        have hnc130 := NB262_256.out
        have hcz131_0 : w42.cell? ⟨gb256, 0, none⟩ = some (.slice Ao34 t251.length co34) := (blk_cell BK256.out 0).trans rfl
        have hcz131_1 : w42.cell? ⟨gb256, 1, none⟩ = some (.int .i64 t254) := (blk_cell BK256.out 1).trans rfl
        have hfz131_0 := blk_frozen BK256.out 0
        have hfz131_1 := blk_frozen BK256.out 1
        go_wp2_with (first | ((with_reducible refine gate_callee (f := 15) rfl ?_); refine goesL_ (some 50) rfl rfl Try.func15 (by kernel_rfl) rfl #[.agg #[.slice Ao19 t239.length co19, .int .i64 t242], .agg #[.slice Ao34 t251.length co34, .int .i64 t254]] rfl (by (try simp only [List.map_toArray, List.map_cons, List.map_nil]); first | done | rfl | (simp only [List.length_drop, List.length_take]; rfl)) ?_; (with_reducible refine (rialtoref12_Same.calls k _ _ t239 t242 _ _ t251 t254 true _ ?side1 ?side2 ?side3 ?side4 A50.out).mono ?_); (case side1 => refine (Kd.R_reads' (e := 31) (base := w.heap.size) (ok := fun k_ => ((((True ∧ some k_ ≠ (.slice Ao14 t234.length co14 : Value).ownBlock) ∧ some k_ ≠ (.slice Ao26 t245.length co26 : Value).ownBlock) ∧ some k_ ≠ (.slice Ao34 t251.length co34 : Value).ownBlock) ∧ some k_ ≠ (.slice Ao43 t257.length co43 : Value).ownBlock)) (n := t239.length) (c := co19) ?_).2.2; exact (by (with_reducible repeat (first | apply Kd.R_alloc | apply Kd.R_drewN | apply Kd.R_drew)); exact (Kd.R_mono (Kd.R_far (p := ⟨gb262, 1, none⟩) (Kd.R_far (p := ⟨gb262, 0, none⟩) (Kd.R_types HO241.out BK262.out (by decide)) (fun _ hk => hk.2) (.slice Ao43 t257.length co43)) (fun _ hk => hk.2) (.int .i64 t260)) (fun _ h_ => h_.1)))); (case side2 => exact (Kd.R_reads' HO241.out).2.1); (case side3 => refine (Kd.R_reads' (e := 31) (base := w.heap.size) (ok := fun k_ => ((((True ∧ some k_ ≠ (.slice Ao14 t234.length co14 : Value).ownBlock) ∧ some k_ ≠ (.slice Ao19 t239.length co19 : Value).ownBlock) ∧ some k_ ≠ (.slice Ao26 t245.length co26 : Value).ownBlock) ∧ some k_ ≠ (.slice Ao43 t257.length co43 : Value).ownBlock)) (n := t251.length) (c := co34) ?_).2.2; exact (by (with_reducible repeat (first | apply Kd.R_alloc | apply Kd.R_drewN | apply Kd.R_drew)); exact (Kd.R_mono (Kd.R_far (p := ⟨gb262, 1, none⟩) (Kd.R_far (p := ⟨gb262, 0, none⟩) (Kd.R_types HO253.out BK262.out (by decide)) (fun _ hk => hk.2) (.slice Ao43 t257.length co43)) (fun _ hk => hk.2) (.int .i64 t260)) (fun _ h_ => h_.1)))); (case side4 => exact (Kd.R_reads' HO253.out).2.1); rintro e w132 ⟨rfl, hb⟩; refine ⟨_, rfl, ?_⟩; have n0_ := Aside0.mk (Kd.R_below (by (with_reducible repeat (first | apply Kd.R_alloc | apply Kd.R_drewN | apply Kd.R_drew)); exact (Kd.R_mono (Kd.R_far (p := ⟨gb262, 1, none⟩) (Kd.R_far (p := ⟨gb262, 0, none⟩) (Kd.R_types HO236.out BK262.out (by decide)) (fun _ hk => hk.2) (.slice Ao43 t257.length co43)) (fun _ hk => hk.2) (.int .i64 t260)) (fun _ h_ => h_.1))) hb); have n1_ := Aside0.mk (Kd.R_below (by (with_reducible repeat (first | apply Kd.R_alloc | apply Kd.R_drewN | apply Kd.R_drew)); exact (Kd.R_mono (Kd.R_far (p := ⟨gb262, 1, none⟩) (Kd.R_far (p := ⟨gb262, 0, none⟩) (Kd.R_types HO241.out BK262.out (by decide)) (fun _ hk => hk.2) (.slice Ao43 t257.length co43)) (fun _ hk => hk.2) (.int .i64 t260)) (fun _ h_ => h_.1))) hb); have n2_ := Aside0.mk (Kd.R_below (by (with_reducible repeat (first | apply Kd.R_alloc | apply Kd.R_drewN | apply Kd.R_drew)); exact (Kd.R_mono (Kd.R_far (p := ⟨gb262, 1, none⟩) (Kd.R_far (p := ⟨gb262, 0, none⟩) (Kd.R_types HO247.out BK262.out (by decide)) (fun _ hk => hk.2) (.slice Ao43 t257.length co43)) (fun _ hk => hk.2) (.int .i64 t260)) (fun _ h_ => h_.1))) hb); have n3_ := Aside0.mk (Kd.R_below (by (with_reducible repeat (first | apply Kd.R_alloc | apply Kd.R_drewN | apply Kd.R_drew)); exact (Kd.R_mono (Kd.R_far (p := ⟨gb262, 1, none⟩) (Kd.R_far (p := ⟨gb262, 0, none⟩) (Kd.R_types HO253.out BK262.out (by decide)) (fun _ hk => hk.2) (.slice Ao43 t257.length co43)) (fun _ hk => hk.2) (.int .i64 t260)) (fun _ h_ => h_.1))) hb); have n4_ := Aside0.mk (Kd.R_below (by (with_reducible repeat (first | apply Kd.R_alloc | apply Kd.R_drewN | apply Kd.R_drew)); exact (Kd.R_mono (Kd.R_far (p := ⟨gb262, 1, none⟩) (Kd.R_far (p := ⟨gb262, 0, none⟩) (Kd.R_types HO259.out BK262.out (by decide)) (fun _ hk => hk.2) (.slice Ao43 t257.length co43)) (fun _ hk => hk.2) (.int .i64 t260)) (fun _ h_ => h_.1))) hb); have n5_ := Aside0.mk (blk_below (g := gb233) (o := .cells #[.slice A0_0 l0_0.length c0_0, .int .i64 a0_1] 24 (0, 0)) (by (with_reducible repeat (first | refine blk_drewN ?_ _ | refine blk_drew ?_ | refine blk_alloc ?_ _)); refine blk_far ?_ NB233_262.out _; (with_reducible repeat (first | refine blk_drewN ?_ _ | refine blk_drew ?_ | refine blk_alloc ?_ _)); refine blk_far ?_ NB233_262.out _; (with_reducible repeat (first | refine blk_drewN ?_ _ | refine blk_drew ?_ | refine blk_alloc ?_ _)); exact BK233.out) hb); have n6_ := Aside0.mk (blk_below (g := gb238) (o := .cells #[.slice Ao14 t234.length co14, .int .i64 t237] 24 (0, 0)) (by (with_reducible repeat (first | refine blk_drewN ?_ _ | refine blk_drew ?_ | refine blk_alloc ?_ _)); refine blk_far ?_ NB238_262.out _; (with_reducible repeat (first | refine blk_drewN ?_ _ | refine blk_drew ?_ | refine blk_alloc ?_ _)); refine blk_far ?_ NB238_262.out _; (with_reducible repeat (first | refine blk_drewN ?_ _ | refine blk_drew ?_ | refine blk_alloc ?_ _)); exact BK238.out) hb); have n7_ := Aside0.mk (blk_below (g := gb244) (o := .cells #[.slice Ao19 t239.length co19, .int .i64 t242] 24 (0, 0)) (by (with_reducible repeat (first | refine blk_drewN ?_ _ | refine blk_drew ?_ | refine blk_alloc ?_ _)); refine blk_far ?_ NB244_262.out _; (with_reducible repeat (first | refine blk_drewN ?_ _ | refine blk_drew ?_ | refine blk_alloc ?_ _)); refine blk_far ?_ NB244_262.out _; (with_reducible repeat (first | refine blk_drewN ?_ _ | refine blk_drew ?_ | refine blk_alloc ?_ _)); exact BK244.out) hb); have n8_ := Aside0.mk (blk_below (g := gb250) (o := .cells #[.slice Ao26 t245.length co26, .int .i64 t248] 24 (0, 0)) (by (with_reducible repeat (first | refine blk_drewN ?_ _ | refine blk_drew ?_ | refine blk_alloc ?_ _)); refine blk_far ?_ NB250_262.out _; (with_reducible repeat (first | refine blk_drewN ?_ _ | refine blk_drew ?_ | refine blk_alloc ?_ _)); refine blk_far ?_ NB250_262.out _; (with_reducible repeat (first | refine blk_drewN ?_ _ | refine blk_drew ?_ | refine blk_alloc ?_ _)); exact BK250.out) hb); have n9_ := Aside0.mk (blk_below (g := gb256) (o := .cells #[.slice Ao34 t251.length co34, .int .i64 t254] 24 (0, 0)) (by (with_reducible repeat (first | refine blk_drewN ?_ _ | refine blk_drew ?_ | refine blk_alloc ?_ _)); refine blk_far ?_ NB256_262.out _; (with_reducible repeat (first | refine blk_drewN ?_ _ | refine blk_drew ?_ | refine blk_alloc ?_ _)); refine blk_far ?_ NB256_262.out _; (with_reducible repeat (first | refine blk_drewN ?_ _ | refine blk_drew ?_ | refine blk_alloc ?_ _)); exact BK256.out) hb); have n10_ := Aside0.mk (blk_below (g := gb262) (o := .cells #[.slice Ao43 t257.length co43, .int .i64 t260] 24 (0, 0)) (by (with_reducible repeat (first | refine blk_drewN ?_ _ | refine blk_drew ?_ | refine blk_alloc ?_ _)); refine blk_put (cs := #[.slice Ao43 t257.length co43, .int .i64 0]) ?_ 1 _ rfl; (with_reducible repeat (first | refine blk_drewN ?_ _ | refine blk_drew ?_ | refine blk_alloc ?_ _)); refine blk_put (cs := #[.slice none 0 0, .int .i64 0]) ?_ 0 _ rfl; (with_reducible repeat (first | refine blk_drewN ?_ _ | refine blk_drew ?_ | refine blk_alloc ?_ _)); exact BK262.out) hb); have n11_ := Aside0.mk (below_step (by repeat (first | (with_reducible first | exact HB.out | apply below_alloc | apply pw_below_drewN | apply below_drew1 | refine below_set ?_ GE233.out | refine below_set ?_ GE238.out | refine below_set ?_ GE244.out | refine below_set ?_ GE250.out | refine below_set ?_ GE256.out | refine below_set ?_ GE262.out) | exact HB.out)) hb); clear HO236; clear HO241; clear HO247; clear HO253; clear HO259; clear BK233; clear BK238; clear BK244; clear BK250; clear BK256; clear BK262; clear HB; have HO236 := n0_; have HO241 := n1_; have HO247 := n2_; have HO253 := n3_; have HO259 := n4_; have BK233 := n5_; have BK238 := n6_; have BK244 := n7_; have BK250 := n8_; have BK256 := n9_; have BK262 := n10_; have HB := n11_; clear n0_ n1_ n2_ n3_ n4_ n5_ n6_ n7_ n8_ n9_ n10_ n11_; (try clear hb); (try clear hb2); (try clear hk); (try clear hi)))
        go_meet
        case rel => exact ⟨_, (true), (by first | rfl | (simp; done) | (simp [*]; done)), H', ⟨by first | omega | exact Nat.le_refl _⟩, ⟨by (with_reducible repeat (first | apply Kd.R_alloc | apply Kd.R_drewN | apply Kd.R_drew)); exact Kd.R_mono HO236.out (fun _ hk => ⟨hk.1.1.1.2, ⟨hk.1.1.2, ⟨hk.1.2, hk.2⟩⟩⟩)⟩, ⟨by (with_reducible repeat (first | apply Kd.R_alloc | apply Kd.R_drewN | apply Kd.R_drew)); exact Kd.R_mono HO241.out (fun _ hk => ⟨hk.1.1.1.2, ⟨hk.1.1.2, ⟨hk.1.2, hk.2⟩⟩⟩)⟩, ⟨by (with_reducible repeat (first | apply Kd.R_alloc | apply Kd.R_drewN | apply Kd.R_drew)); exact Kd.R_mono HO247.out (fun _ hk => ⟨hk.1.1.1.2, ⟨hk.1.1.2, ⟨hk.1.2, hk.2⟩⟩⟩)⟩, ⟨by (with_reducible repeat (first | apply Kd.R_alloc | apply Kd.R_drewN | apply Kd.R_drew)); exact Kd.R_mono HO253.out (fun _ hk => ⟨hk.1.1.1.2, ⟨hk.1.1.2, ⟨hk.1.2, hk.2⟩⟩⟩)⟩, ⟨by (with_reducible repeat (first | apply Kd.R_alloc | apply Kd.R_drewN | apply Kd.R_drew)); exact Kd.R_mono HO259.out (fun _ hk => ⟨hk.1.1.1.2, ⟨hk.1.1.2, ⟨hk.1.2, hk.2⟩⟩⟩)⟩, ⟨by (with_reducible repeat (first | refine blk_drewN ?_ _ | refine blk_drew ?_ | refine blk_alloc ?_ _)); exact BK233.out⟩, ⟨by (with_reducible repeat (first | refine blk_drewN ?_ _ | refine blk_drew ?_ | refine blk_alloc ?_ _)); exact BK238.out⟩, ⟨by (with_reducible repeat (first | refine blk_drewN ?_ _ | refine blk_drew ?_ | refine blk_alloc ?_ _)); exact BK244.out⟩, ⟨by (with_reducible repeat (first | refine blk_drewN ?_ _ | refine blk_drew ?_ | refine blk_alloc ?_ _)); exact BK250.out⟩, ⟨by (with_reducible repeat (first | refine blk_drewN ?_ _ | refine blk_drew ?_ | refine blk_alloc ?_ _)); exact BK256.out⟩, ⟨by (with_reducible repeat (first | refine blk_drewN ?_ _ | refine blk_drew ?_ | refine blk_alloc ?_ _)); exact BK262.out⟩, ⟨by repeat (first | (with_reducible first | exact HB.out | apply below_alloc | apply pw_below_drewN | apply below_drew1 | refine below_set ?_ GE233.out | refine below_set ?_ GE238.out | refine below_set ?_ GE244.out | refine below_set ?_ GE250.out | refine below_set ?_ GE256.out | refine below_set ?_ GE262.out) | exact HB.out)⟩⟩
    · replace c51 := Bool.eq_false_iff.mpr c51
      subst c51
      have H1 : (rialtolaw12_LedgerMoves.j0 k true l0_0 a0_1 t234 t237 t239 t242 t245 t248) = some r := by rw [if_neg (show ¬ (false = true) by decide)] at H; exact H
      clear H
      have H := H1
      clear H1
      have H' := Aside0.mk H
      clear H
      have hnb133 := NB244_233.out
      have hnc133 := NB233_244.out
      have hnb134 := NB244_238.out
      have hnc134 := NB238_244.out
      have hnb135 := NB244_250.out
      have hnc135 := NB250_244.out
      have hnb136 := NB244_256.out
      have hnc136 := NB256_244.out
      have hnb137 := NB244_262.out
      have hnc137 := NB262_244.out
      have hcz138_0 : w42.cell? ⟨gb244, 0, none⟩ = some (.slice Ao19 t239.length co19) := (blk_cell BK244.out 0).trans rfl
      have hcz138_1 : w42.cell? ⟨gb244, 1, none⟩ = some (.int .i64 t242) := (blk_cell BK244.out 1).trans rfl
      have hfz138_0 := blk_frozen BK244.out 0
      have hfz138_1 := blk_frozen BK244.out 1
      have hnb139 := NB256_233.out
      have hnc139 := NB233_256.out
      have hnb140 := NB256_238.out
      have hnc140 := NB238_256.out
      have hnb141 := NB256_250.out
      have hnc141 := NB250_256.out
      have hnb142 := NB256_262.out
      have hnc142 := NB262_256.out
      have hcz143_0 : w42.cell? ⟨gb256, 0, none⟩ = some (.slice Ao34 t251.length co34) := (blk_cell BK256.out 0).trans rfl
      have hcz143_1 : w42.cell? ⟨gb256, 1, none⟩ = some (.int .i64 t254) := (blk_cell BK256.out 1).trans rfl
      have hfz143_0 := blk_frozen BK256.out 0
      have hfz143_1 := blk_frozen BK256.out 1
      go_wp2_with (first | ((with_reducible refine gate_callee (f := 15) rfl ?_); refine goesL_ (some 50) rfl rfl Try.func15 (by kernel_rfl) rfl #[.agg #[.slice Ao19 t239.length co19, .int .i64 t242], .agg #[.slice Ao34 t251.length co34, .int .i64 t254]] rfl (by (try simp only [List.map_toArray, List.map_cons, List.map_nil]); first | done | rfl | (simp only [List.length_drop, List.length_take]; rfl)) ?_; (with_reducible refine (rialtoref12_Same.calls k _ _ t239 t242 _ _ t251 t254 false _ ?side1 ?side2 ?side3 ?side4 A50.out).mono ?_); (case side1 => refine (Kd.R_reads' (e := 31) (base := w.heap.size) (ok := fun k_ => ((((True ∧ some k_ ≠ (.slice Ao14 t234.length co14 : Value).ownBlock) ∧ some k_ ≠ (.slice Ao26 t245.length co26 : Value).ownBlock) ∧ some k_ ≠ (.slice Ao34 t251.length co34 : Value).ownBlock) ∧ some k_ ≠ (.slice Ao43 t257.length co43 : Value).ownBlock)) (n := t239.length) (c := co19) ?_).2.2; exact (by (with_reducible repeat (first | apply Kd.R_alloc | apply Kd.R_drewN | apply Kd.R_drew)); exact (Kd.R_mono (Kd.R_far (p := ⟨gb262, 1, none⟩) (Kd.R_far (p := ⟨gb262, 0, none⟩) (Kd.R_types HO241.out BK262.out (by decide)) (fun _ hk => hk.2) (.slice Ao43 t257.length co43)) (fun _ hk => hk.2) (.int .i64 t260)) (fun _ h_ => h_.1)))); (case side2 => exact (Kd.R_reads' HO241.out).2.1); (case side3 => refine (Kd.R_reads' (e := 31) (base := w.heap.size) (ok := fun k_ => ((((True ∧ some k_ ≠ (.slice Ao14 t234.length co14 : Value).ownBlock) ∧ some k_ ≠ (.slice Ao19 t239.length co19 : Value).ownBlock) ∧ some k_ ≠ (.slice Ao26 t245.length co26 : Value).ownBlock) ∧ some k_ ≠ (.slice Ao43 t257.length co43 : Value).ownBlock)) (n := t251.length) (c := co34) ?_).2.2; exact (by (with_reducible repeat (first | apply Kd.R_alloc | apply Kd.R_drewN | apply Kd.R_drew)); exact (Kd.R_mono (Kd.R_far (p := ⟨gb262, 1, none⟩) (Kd.R_far (p := ⟨gb262, 0, none⟩) (Kd.R_types HO253.out BK262.out (by decide)) (fun _ hk => hk.2) (.slice Ao43 t257.length co43)) (fun _ hk => hk.2) (.int .i64 t260)) (fun _ h_ => h_.1)))); (case side4 => exact (Kd.R_reads' HO253.out).2.1); rintro e w144 ⟨rfl, hb⟩; refine ⟨_, rfl, ?_⟩; have n0_ := Aside0.mk (Kd.R_below (by (with_reducible repeat (first | apply Kd.R_alloc | apply Kd.R_drewN | apply Kd.R_drew)); exact (Kd.R_mono (Kd.R_far (p := ⟨gb262, 1, none⟩) (Kd.R_far (p := ⟨gb262, 0, none⟩) (Kd.R_types HO236.out BK262.out (by decide)) (fun _ hk => hk.2) (.slice Ao43 t257.length co43)) (fun _ hk => hk.2) (.int .i64 t260)) (fun _ h_ => h_.1))) hb); have n1_ := Aside0.mk (Kd.R_below (by (with_reducible repeat (first | apply Kd.R_alloc | apply Kd.R_drewN | apply Kd.R_drew)); exact (Kd.R_mono (Kd.R_far (p := ⟨gb262, 1, none⟩) (Kd.R_far (p := ⟨gb262, 0, none⟩) (Kd.R_types HO241.out BK262.out (by decide)) (fun _ hk => hk.2) (.slice Ao43 t257.length co43)) (fun _ hk => hk.2) (.int .i64 t260)) (fun _ h_ => h_.1))) hb); have n2_ := Aside0.mk (Kd.R_below (by (with_reducible repeat (first | apply Kd.R_alloc | apply Kd.R_drewN | apply Kd.R_drew)); exact (Kd.R_mono (Kd.R_far (p := ⟨gb262, 1, none⟩) (Kd.R_far (p := ⟨gb262, 0, none⟩) (Kd.R_types HO247.out BK262.out (by decide)) (fun _ hk => hk.2) (.slice Ao43 t257.length co43)) (fun _ hk => hk.2) (.int .i64 t260)) (fun _ h_ => h_.1))) hb); have n3_ := Aside0.mk (Kd.R_below (by (with_reducible repeat (first | apply Kd.R_alloc | apply Kd.R_drewN | apply Kd.R_drew)); exact (Kd.R_mono (Kd.R_far (p := ⟨gb262, 1, none⟩) (Kd.R_far (p := ⟨gb262, 0, none⟩) (Kd.R_types HO253.out BK262.out (by decide)) (fun _ hk => hk.2) (.slice Ao43 t257.length co43)) (fun _ hk => hk.2) (.int .i64 t260)) (fun _ h_ => h_.1))) hb); have n4_ := Aside0.mk (Kd.R_below (by (with_reducible repeat (first | apply Kd.R_alloc | apply Kd.R_drewN | apply Kd.R_drew)); exact (Kd.R_mono (Kd.R_far (p := ⟨gb262, 1, none⟩) (Kd.R_far (p := ⟨gb262, 0, none⟩) (Kd.R_types HO259.out BK262.out (by decide)) (fun _ hk => hk.2) (.slice Ao43 t257.length co43)) (fun _ hk => hk.2) (.int .i64 t260)) (fun _ h_ => h_.1))) hb); have n5_ := Aside0.mk (blk_below (g := gb233) (o := .cells #[.slice A0_0 l0_0.length c0_0, .int .i64 a0_1] 24 (0, 0)) (by (with_reducible repeat (first | refine blk_drewN ?_ _ | refine blk_drew ?_ | refine blk_alloc ?_ _)); refine blk_far ?_ NB233_262.out _; (with_reducible repeat (first | refine blk_drewN ?_ _ | refine blk_drew ?_ | refine blk_alloc ?_ _)); refine blk_far ?_ NB233_262.out _; (with_reducible repeat (first | refine blk_drewN ?_ _ | refine blk_drew ?_ | refine blk_alloc ?_ _)); exact BK233.out) hb); have n6_ := Aside0.mk (blk_below (g := gb238) (o := .cells #[.slice Ao14 t234.length co14, .int .i64 t237] 24 (0, 0)) (by (with_reducible repeat (first | refine blk_drewN ?_ _ | refine blk_drew ?_ | refine blk_alloc ?_ _)); refine blk_far ?_ NB238_262.out _; (with_reducible repeat (first | refine blk_drewN ?_ _ | refine blk_drew ?_ | refine blk_alloc ?_ _)); refine blk_far ?_ NB238_262.out _; (with_reducible repeat (first | refine blk_drewN ?_ _ | refine blk_drew ?_ | refine blk_alloc ?_ _)); exact BK238.out) hb); have n7_ := Aside0.mk (blk_below (g := gb244) (o := .cells #[.slice Ao19 t239.length co19, .int .i64 t242] 24 (0, 0)) (by (with_reducible repeat (first | refine blk_drewN ?_ _ | refine blk_drew ?_ | refine blk_alloc ?_ _)); refine blk_far ?_ NB244_262.out _; (with_reducible repeat (first | refine blk_drewN ?_ _ | refine blk_drew ?_ | refine blk_alloc ?_ _)); refine blk_far ?_ NB244_262.out _; (with_reducible repeat (first | refine blk_drewN ?_ _ | refine blk_drew ?_ | refine blk_alloc ?_ _)); exact BK244.out) hb); have n8_ := Aside0.mk (blk_below (g := gb250) (o := .cells #[.slice Ao26 t245.length co26, .int .i64 t248] 24 (0, 0)) (by (with_reducible repeat (first | refine blk_drewN ?_ _ | refine blk_drew ?_ | refine blk_alloc ?_ _)); refine blk_far ?_ NB250_262.out _; (with_reducible repeat (first | refine blk_drewN ?_ _ | refine blk_drew ?_ | refine blk_alloc ?_ _)); refine blk_far ?_ NB250_262.out _; (with_reducible repeat (first | refine blk_drewN ?_ _ | refine blk_drew ?_ | refine blk_alloc ?_ _)); exact BK250.out) hb); have n9_ := Aside0.mk (blk_below (g := gb256) (o := .cells #[.slice Ao34 t251.length co34, .int .i64 t254] 24 (0, 0)) (by (with_reducible repeat (first | refine blk_drewN ?_ _ | refine blk_drew ?_ | refine blk_alloc ?_ _)); refine blk_far ?_ NB256_262.out _; (with_reducible repeat (first | refine blk_drewN ?_ _ | refine blk_drew ?_ | refine blk_alloc ?_ _)); refine blk_far ?_ NB256_262.out _; (with_reducible repeat (first | refine blk_drewN ?_ _ | refine blk_drew ?_ | refine blk_alloc ?_ _)); exact BK256.out) hb); have n10_ := Aside0.mk (blk_below (g := gb262) (o := .cells #[.slice Ao43 t257.length co43, .int .i64 t260] 24 (0, 0)) (by (with_reducible repeat (first | refine blk_drewN ?_ _ | refine blk_drew ?_ | refine blk_alloc ?_ _)); refine blk_put (cs := #[.slice Ao43 t257.length co43, .int .i64 0]) ?_ 1 _ rfl; (with_reducible repeat (first | refine blk_drewN ?_ _ | refine blk_drew ?_ | refine blk_alloc ?_ _)); refine blk_put (cs := #[.slice none 0 0, .int .i64 0]) ?_ 0 _ rfl; (with_reducible repeat (first | refine blk_drewN ?_ _ | refine blk_drew ?_ | refine blk_alloc ?_ _)); exact BK262.out) hb); have n11_ := Aside0.mk (below_step (by repeat (first | (with_reducible first | exact HB.out | apply below_alloc | apply pw_below_drewN | apply below_drew1 | refine below_set ?_ GE233.out | refine below_set ?_ GE238.out | refine below_set ?_ GE244.out | refine below_set ?_ GE250.out | refine below_set ?_ GE256.out | refine below_set ?_ GE262.out) | exact HB.out)) hb); clear HO236; clear HO241; clear HO247; clear HO253; clear HO259; clear BK233; clear BK238; clear BK244; clear BK250; clear BK256; clear BK262; clear HB; have HO236 := n0_; have HO241 := n1_; have HO247 := n2_; have HO253 := n3_; have HO259 := n4_; have BK233 := n5_; have BK238 := n6_; have BK244 := n7_; have BK250 := n8_; have BK256 := n9_; have BK262 := n10_; have HB := n11_; clear n0_ n1_ n2_ n3_ n4_ n5_ n6_ n7_ n8_ n9_ n10_ n11_; (try clear hb); (try clear hb2); (try clear hk); (try clear hi)))
      go_meet
      case rel => exact ⟨_, (true), (by first | rfl | (simp; done) | (simp [*]; done)), H', ⟨by first | omega | exact Nat.le_refl _⟩, ⟨by (with_reducible repeat (first | apply Kd.R_alloc | apply Kd.R_drewN | apply Kd.R_drew)); exact Kd.R_mono HO236.out (fun _ hk => ⟨hk.1.1.1.2, ⟨hk.1.1.2, ⟨hk.1.2, hk.2⟩⟩⟩)⟩, ⟨by (with_reducible repeat (first | apply Kd.R_alloc | apply Kd.R_drewN | apply Kd.R_drew)); exact Kd.R_mono HO241.out (fun _ hk => ⟨hk.1.1.1.2, ⟨hk.1.1.2, ⟨hk.1.2, hk.2⟩⟩⟩)⟩, ⟨by (with_reducible repeat (first | apply Kd.R_alloc | apply Kd.R_drewN | apply Kd.R_drew)); exact Kd.R_mono HO247.out (fun _ hk => ⟨hk.1.1.1.2, ⟨hk.1.1.2, ⟨hk.1.2, hk.2⟩⟩⟩)⟩, ⟨by (with_reducible repeat (first | apply Kd.R_alloc | apply Kd.R_drewN | apply Kd.R_drew)); exact Kd.R_mono HO253.out (fun _ hk => ⟨hk.1.1.1.2, ⟨hk.1.1.2, ⟨hk.1.2, hk.2⟩⟩⟩)⟩, ⟨by (with_reducible repeat (first | apply Kd.R_alloc | apply Kd.R_drewN | apply Kd.R_drew)); exact Kd.R_mono HO259.out (fun _ hk => ⟨hk.1.1.1.2, ⟨hk.1.1.2, ⟨hk.1.2, hk.2⟩⟩⟩)⟩, ⟨by (with_reducible repeat (first | refine blk_drewN ?_ _ | refine blk_drew ?_ | refine blk_alloc ?_ _)); exact BK233.out⟩, ⟨by (with_reducible repeat (first | refine blk_drewN ?_ _ | refine blk_drew ?_ | refine blk_alloc ?_ _)); exact BK238.out⟩, ⟨by (with_reducible repeat (first | refine blk_drewN ?_ _ | refine blk_drew ?_ | refine blk_alloc ?_ _)); exact BK244.out⟩, ⟨by (with_reducible repeat (first | refine blk_drewN ?_ _ | refine blk_drew ?_ | refine blk_alloc ?_ _)); exact BK250.out⟩, ⟨by (with_reducible repeat (first | refine blk_drewN ?_ _ | refine blk_drew ?_ | refine blk_alloc ?_ _)); exact BK256.out⟩, ⟨by (with_reducible repeat (first | refine blk_drewN ?_ _ | refine blk_drew ?_ | refine blk_alloc ?_ _)); exact BK262.out⟩, ⟨by repeat (first | (with_reducible first | exact HB.out | apply below_alloc | apply pw_below_drewN | apply below_drew1 | refine below_set ?_ GE233.out | refine below_set ?_ GE238.out | refine below_set ?_ GE244.out | refine below_set ?_ GE250.out | refine below_set ?_ GE256.out | refine below_set ?_ GE262.out) | exact HB.out)⟩⟩
  case rest =>
    clear HC9
    try clear c1
    try clear c2
    try clear p2
    try clear c3
    try clear c4
    try clear c5
    try clear c6
    try clear c7
    try clear c8
    try clear c9
    try clear c10
    try clear c11
    try clear c12
    try clear c13
    try clear c14
    try clear c15
    try clear c20
    try clear c21
    try clear c27
    try clear c28
    try clear c29
    try clear c35
    try clear c36
    try clear c37
    try clear c38
    try clear c44
    try clear c45
    try clear c46
    try clear c47
    try clear c48
    try clear c51
    try clear c52
    try clear c52b0
    try clear c52b1
    try clear c54
    try clear c55
    try clear c55b0
    try clear c55b1
    try clear c57
    try clear c58
    try clear c59
    try clear c60
    try clear c61
    try clear c63
    try clear c64
    try clear c65
    try clear c66
    try clear c69
    try clear c70
    try clear c71
    try clear c73
    try clear c74
    try clear c77
    try clear c81
    try clear c82
    try clear c83
    try clear c84
    try clear c85
    try clear c87
    try clear c88
    try clear c89
    try clear c90
    try clear c93
    try clear c94
    try clear c95
    try clear c97
    try clear c98
    try clear c101
    try clear c102
    try clear c103
    try clear c104
    try clear c105
    try clear c107
    try clear c108
    try clear c109
    try clear c110
    try clear c113
    try clear c114
    try clear c115
    try clear c117
    try clear c118
    try clear c121
    try clear c122
    try clear c123
    try clear c124
    try clear c125
    try clear c127
    try clear c128
    try clear c129
    try clear c130
    try clear c133
    try clear c134
    try clear c135
    try clear c136
    try clear c137
    try clear c139
    try clear c140
    try clear c141
    try clear c142
    try clear hcz106_0
    try clear hcz106_1
    try clear hcz111_0
    try clear hcz111_1
    try clear hcz116_0
    try clear hcz116_1
    try clear hcz119_0
    try clear hcz119_1
    try clear hcz11_0
    try clear hcz11_1
    try clear hcz126_0
    try clear hcz126_1
    try clear hcz131_0
    try clear hcz131_1
    try clear hcz138_0
    try clear hcz138_1
    try clear hcz143_0
    try clear hcz143_1
    try clear hcz16_0
    try clear hcz16_1
    try clear hcz22_0
    try clear hcz22_1
    try clear hcz23_0
    try clear hcz23_1
    try clear hcz30_0
    try clear hcz30_1
    try clear hcz31_0
    try clear hcz31_1
    try clear hcz39_0
    try clear hcz39_1
    try clear hcz40_0
    try clear hcz40_1
    try clear hcz49_0
    try clear hcz49_1
    try clear hcz62_0
    try clear hcz62_1
    try clear hcz67_0
    try clear hcz67_1
    try clear hcz72_0
    try clear hcz72_1
    try clear hcz75_0
    try clear hcz75_1
    try clear hcz78_0
    try clear hcz78_1
    try clear hcz79_0
    try clear hcz79_1
    try clear hcz86_0
    try clear hcz86_1
    try clear hcz91_0
    try clear hcz91_1
    try clear hcz96_0
    try clear hcz96_1
    try clear hcz99_0
    try clear hcz99_1
    try clear hfz106_0
    try clear hfz106_1
    try clear hfz111_0
    try clear hfz111_1
    try clear hfz116_0
    try clear hfz116_1
    try clear hfz119_0
    try clear hfz119_1
    try clear hfz11_0
    try clear hfz11_1
    try clear hfz126_0
    try clear hfz126_1
    try clear hfz131_0
    try clear hfz131_1
    try clear hfz138_0
    try clear hfz138_1
    try clear hfz143_0
    try clear hfz143_1
    try clear hfz16_0
    try clear hfz16_1
    try clear hfz22_0
    try clear hfz22_1
    try clear hfz23_0
    try clear hfz23_1
    try clear hfz30_0
    try clear hfz30_1
    try clear hfz31_0
    try clear hfz31_1
    try clear hfz39_0
    try clear hfz39_1
    try clear hfz40_0
    try clear hfz40_1
    try clear hfz49_0
    try clear hfz49_1
    try clear hfz62_0
    try clear hfz62_1
    try clear hfz67_0
    try clear hfz67_1
    try clear hfz72_0
    try clear hfz72_1
    try clear hfz75_0
    try clear hfz75_1
    try clear hfz78_0
    try clear hfz78_1
    try clear hfz79_0
    try clear hfz79_1
    try clear hfz86_0
    try clear hfz86_1
    try clear hfz91_0
    try clear hfz91_1
    try clear hfz96_0
    try clear hfz96_1
    try clear hfz99_0
    try clear hfz99_1
    obtain ⟨kq, x73_8, rfl, HA, HJ8, HO_239000, HO_245000, HO_251000, HO_257000, HO_263000, BK233, BK238, BK244, BK250, BK256, BK262, HB⟩ := hcut
    cases kq with
    | zero => exact absurd HA.out (by simp [rialtolaw12_LedgerMoves.j0])
    | succ kj8 =>
      have H := HA.out
      clear HA
      simp only [rialtolaw12_LedgerMoves.j0] at H
      by_cases c145 : x73_8 = true
      · subst c145
        have H1 : (some false) = some r := by rw [if_pos rfl] at H; exact H
        clear H
        have H := H1
        clear H1
        obtain rfl := Option.some.inj H
        go_wp2
        go_ret
        exact ⟨by first | rfl | (simp [errW_none, errW_some] <;> rfl) | (simp [*, errW_none, errW_some] <;> rfl), by repeat (first | (with_reducible first | exact HB.out | apply below_alloc | apply pw_below_drewN | apply below_drew1 | refine below_set ?_ GE233.out | refine below_set ?_ GE238.out | refine below_set ?_ GE244.out | refine below_set ?_ GE250.out | refine below_set ?_ GE256.out | refine below_set ?_ GE262.out) | exact HB.out)⟩
      · replace c145 := Bool.eq_false_iff.mpr c145
        subst c145
        have H1 : (rialtolaw12_LedgerMoves.l0 kj8 0 l0_0 a0_1 t234 t237 t239 t242 t245 t248) = some r := by rw [if_neg (show ¬ (false = true) by decide)] at H; exact H
        clear H
        have H := H1
        clear H1
        have H' := Aside0.mk H
        clear H
        go_wp2
        go_loopg [16] kj8 (fun kq v16 w' => ∃ (x16_2 : Int) (x239000_2 : List (S31)) (x245000_2 : List (S31)) (x251000_2 : List (S31)) (x257000_2 : List (S31)) (x263000_2 : List (S31)) (u239000 : Value) (u245000 : Value) (u251000 : Value) (u257000 : Value) (u263000 : Value), v16 = .int .i64 x16_2 ∧ Aside0 (rialtolaw12_LedgerMoves.l0 kq x16_2 l0_0 a0_1 x239000_2 t237 x245000_2 t242 x251000_2 t248 = some r) ∧ Aside0 (kq ≤ kj8) ∧ Aside0 (Kd.R k31 31 w' w.heap.size (fun k_ => some k_ ≠ (u245000 : Value).ownBlock ∧ some k_ ≠ (u251000 : Value).ownBlock ∧ some k_ ≠ (u257000 : Value).ownBlock ∧ some k_ ≠ (u263000 : Value).ownBlock) u239000 x239000_2) ∧ Aside0 (Kd.R k31 31 w' w.heap.size (fun k_ => some k_ ≠ (u239000 : Value).ownBlock ∧ some k_ ≠ (u251000 : Value).ownBlock ∧ some k_ ≠ (u257000 : Value).ownBlock ∧ some k_ ≠ (u263000 : Value).ownBlock) u245000 x245000_2) ∧ Aside0 (Kd.R k31 31 w' w.heap.size (fun k_ => some k_ ≠ (u239000 : Value).ownBlock ∧ some k_ ≠ (u245000 : Value).ownBlock ∧ some k_ ≠ (u257000 : Value).ownBlock ∧ some k_ ≠ (u263000 : Value).ownBlock) u251000 x251000_2) ∧ Aside0 (Kd.R k31 31 w' w.heap.size (fun k_ => some k_ ≠ (u239000 : Value).ownBlock ∧ some k_ ≠ (u245000 : Value).ownBlock ∧ some k_ ≠ (u251000 : Value).ownBlock ∧ some k_ ≠ (u263000 : Value).ownBlock) u257000 x257000_2) ∧ Aside0 (Kd.R k31 31 w' w.heap.size (fun k_ => some k_ ≠ (u239000 : Value).ownBlock ∧ some k_ ≠ (u245000 : Value).ownBlock ∧ some k_ ≠ (u251000 : Value).ownBlock ∧ some k_ ≠ (u257000 : Value).ownBlock) u263000 x263000_2) ∧ Aside0 (w'.heap[gb233]? = some (.cells #[(.slice A0_0 l0_0.length c0_0), .int .i64 a0_1] 24 (0, 0))) ∧ Aside0 (w'.heap[gb238]? = some (.cells #[u239000, .int .i64 t237] 24 (0, 0))) ∧ Aside0 (w'.heap[gb244]? = some (.cells #[u245000, .int .i64 t242] 24 (0, 0))) ∧ Aside0 (w'.heap[gb250]? = some (.cells #[u251000, .int .i64 t248] 24 (0, 0))) ∧ Aside0 (w'.heap[gb256]? = some (.cells #[u257000, .int .i64 t254] 24 (0, 0))) ∧ Aside0 (w'.heap[gb262]? = some (.cells #[u263000, .int .i64 t260] 24 (0, 0))) ∧ Aside0 (Below w.heap.size w w'))
        case atStart => exact ⟨(0), (t234), (t239), (t245), (t251), (t257), (.slice Ao14 t234.length co14), (.slice Ao19 t239.length co19), (.slice Ao26 t245.length co26), (.slice Ao34 t251.length co34), (.slice Ao43 t257.length co43), (by first | rfl | (simp; done) | (simp [*]; done)), H', ⟨Nat.le_refl _⟩, ⟨by (with_reducible repeat (first | apply Kd.R_alloc | apply Kd.R_drewN | apply Kd.R_drew)); exact HO_239000.out⟩, ⟨by (with_reducible repeat (first | apply Kd.R_alloc | apply Kd.R_drewN | apply Kd.R_drew)); exact HO_245000.out⟩, ⟨by (with_reducible repeat (first | apply Kd.R_alloc | apply Kd.R_drewN | apply Kd.R_drew)); exact HO_251000.out⟩, ⟨by (with_reducible repeat (first | apply Kd.R_alloc | apply Kd.R_drewN | apply Kd.R_drew)); exact HO_257000.out⟩, ⟨by (with_reducible repeat (first | apply Kd.R_alloc | apply Kd.R_drewN | apply Kd.R_drew)); exact HO_263000.out⟩, ⟨by (with_reducible repeat (first | refine blk_drewN ?_ _ | refine blk_drew ?_ | refine blk_alloc ?_ _)); exact BK233.out⟩, ⟨by (with_reducible repeat (first | refine blk_drewN ?_ _ | refine blk_drew ?_ | refine blk_alloc ?_ _)); exact BK238.out⟩, ⟨by (with_reducible repeat (first | refine blk_drewN ?_ _ | refine blk_drew ?_ | refine blk_alloc ?_ _)); exact BK244.out⟩, ⟨by (with_reducible repeat (first | refine blk_drewN ?_ _ | refine blk_drew ?_ | refine blk_alloc ?_ _)); exact BK250.out⟩, ⟨by (with_reducible repeat (first | refine blk_drewN ?_ _ | refine blk_drew ?_ | refine blk_alloc ?_ _)); exact BK256.out⟩, ⟨by (with_reducible repeat (first | refine blk_drewN ?_ _ | refine blk_drew ?_ | refine blk_alloc ?_ _)); exact BK262.out⟩, ⟨by repeat (first | (with_reducible first | exact HB.out | apply below_alloc | apply pw_below_drewN | apply below_drew1 | refine below_set ?_ GE233.out | refine below_set ?_ GE238.out | refine below_set ?_ GE244.out | refine below_set ?_ GE250.out | refine below_set ?_ GE256.out | refine below_set ?_ GE262.out) | exact HB.out)⟩⟩
        case round =>
          clear H'
          try clear c1
          try clear c2
          try clear p2
          try clear c3
          try clear c4
          try clear c5
          try clear c6
          try clear c7
          try clear c8
          try clear c9
          try clear c10
          try clear c11
          try clear c12
          try clear c13
          try clear c14
          try clear c15
          try clear c20
          try clear c21
          try clear c27
          try clear c28
          try clear c29
          try clear c35
          try clear c36
          try clear c37
          try clear c38
          try clear c44
          try clear c45
          try clear c46
          try clear c47
          try clear c48
          try clear c51
          try clear c52
          try clear c52b0
          try clear c52b1
          try clear c54
          try clear c55
          try clear c55b0
          try clear c55b1
          try clear c57
          try clear c58
          try clear c59
          try clear c60
          try clear c61
          try clear c63
          try clear c64
          try clear c65
          try clear c66
          try clear c69
          try clear c70
          try clear c71
          try clear c73
          try clear c74
          try clear c77
          try clear c81
          try clear c82
          try clear c83
          try clear c84
          try clear c85
          try clear c87
          try clear c88
          try clear c89
          try clear c90
          try clear c93
          try clear c94
          try clear c95
          try clear c97
          try clear c98
          try clear c101
          try clear c102
          try clear c103
          try clear c104
          try clear c105
          try clear c107
          try clear c108
          try clear c109
          try clear c110
          try clear c113
          try clear c114
          try clear c115
          try clear c117
          try clear c118
          try clear c121
          try clear c122
          try clear c123
          try clear c124
          try clear c125
          try clear c127
          try clear c128
          try clear c129
          try clear c130
          try clear c133
          try clear c134
          try clear c135
          try clear c136
          try clear c137
          try clear c139
          try clear c140
          try clear c141
          try clear c142
          try clear c145
          try clear hcz106_0
          try clear hcz106_1
          try clear hcz111_0
          try clear hcz111_1
          try clear hcz116_0
          try clear hcz116_1
          try clear hcz119_0
          try clear hcz119_1
          try clear hcz11_0
          try clear hcz11_1
          try clear hcz126_0
          try clear hcz126_1
          try clear hcz131_0
          try clear hcz131_1
          try clear hcz138_0
          try clear hcz138_1
          try clear hcz143_0
          try clear hcz143_1
          try clear hcz16_0
          try clear hcz16_1
          try clear hcz22_0
          try clear hcz22_1
          try clear hcz23_0
          try clear hcz23_1
          try clear hcz30_0
          try clear hcz30_1
          try clear hcz31_0
          try clear hcz31_1
          try clear hcz39_0
          try clear hcz39_1
          try clear hcz40_0
          try clear hcz40_1
          try clear hcz49_0
          try clear hcz49_1
          try clear hcz62_0
          try clear hcz62_1
          try clear hcz67_0
          try clear hcz67_1
          try clear hcz72_0
          try clear hcz72_1
          try clear hcz75_0
          try clear hcz75_1
          try clear hcz78_0
          try clear hcz78_1
          try clear hcz79_0
          try clear hcz79_1
          try clear hcz86_0
          try clear hcz86_1
          try clear hcz91_0
          try clear hcz91_1
          try clear hcz96_0
          try clear hcz96_1
          try clear hcz99_0
          try clear hcz99_1
          try clear hfz106_0
          try clear hfz106_1
          try clear hfz111_0
          try clear hfz111_1
          try clear hfz116_0
          try clear hfz116_1
          try clear hfz119_0
          try clear hfz119_1
          try clear hfz11_0
          try clear hfz11_1
          try clear hfz126_0
          try clear hfz126_1
          try clear hfz131_0
          try clear hfz131_1
          try clear hfz138_0
          try clear hfz138_1
          try clear hfz143_0
          try clear hfz143_1
          try clear hfz16_0
          try clear hfz16_1
          try clear hfz22_0
          try clear hfz22_1
          try clear hfz23_0
          try clear hfz23_1
          try clear hfz30_0
          try clear hfz30_1
          try clear hfz31_0
          try clear hfz31_1
          try clear hfz39_0
          try clear hfz39_1
          try clear hfz40_0
          try clear hfz40_1
          try clear hfz49_0
          try clear hfz49_1
          try clear hfz62_0
          try clear hfz62_1
          try clear hfz67_0
          try clear hfz67_1
          try clear hfz72_0
          try clear hfz72_1
          try clear hfz75_0
          try clear hfz75_1
          try clear hfz78_0
          try clear hfz78_1
          try clear hfz79_0
          try clear hfz79_1
          try clear hfz86_0
          try clear hfz86_1
          try clear hfz91_0
          try clear hfz91_1
          try clear hfz96_0
          try clear hfz96_1
          try clear hfz99_0
          try clear hfz99_1
          try clear p2
          obtain ⟨x16_2, x239000_2, x245000_2, x251000_2, x257000_2, x263000_2, u239000, u245000, u251000, u257000, u263000, rfl, HA, HK2, HO_239000, HO_245000, HO_251000, HO_257000, HO_263000, BK233, BK238, BK244, BK250, BK256, BK262, HB⟩ := hrel
          cases gk with
          | zero => exact absurd HA.out (by simp [rialtolaw12_LedgerMoves.l0])
          | succ k2 =>
            have H := HA.out
            clear HA
            simp only [rialtolaw12_LedgerMoves.l0] at H
            by_cases c146 : x16_2 < (x245000_2.length : Int)
            · rw [if_pos c146] at H
              have c146b0 : decide (x16_2 < (x245000_2.length : Int)) = true := decide_eq_true c146
              clear c146
              by_cases c147 : 0 ≤ x16_2
              · rw [if_pos c147] at H
                have c147b0 : decide (0 ≤ x16_2) = true := decide_eq_true c147
                clear c147
                obtain ⟨y266, hy266⟩ : ∃ y_ : List (S31), y_ = (x245000_2.set (x16_2 : Int).toNat (⟨(rd_T31 x245000_2 x16_2).f0, (-1)⟩ : S31)) := ⟨_, rfl⟩
                replace H : (rialtolaw12_LedgerMoves.l0 k2 (wrap64 (x16_2 + 1)) l0_0 a0_1 x239000_2 t237 y266 t242 x251000_2 t248) = some r := by first | (rw [hy266]; with_reducible exact H) | (have H2_ := (Option.bind_some _ _).symm.trans H; rw [hy266]; with_reducible exact H2_) | (have H2_ := (Option.bind_some _ _).symm.trans H; with_reducible exact H2_) | with_reducible exact H | (rw [hy266]; exact H) | exact H
                have Ny266 := Aside0.mk hy266
                clear hy266
                have H' := Aside0.mk H
                clear H
                have hnb149 := NB244_233.out
                have hnc149 := NB233_244.out
                have hnb150 := NB244_238.out
                have hnc150 := NB238_244.out
                have hnb151 := NB244_250.out
                have hnc151 := NB250_244.out
                have hnb152 := NB244_256.out
                have hnc152 := NB256_244.out
                have hnb153 := NB244_262.out
                have hnc153 := NB262_244.out
                have hcz154_0 : wr.cell? ⟨gb244, 0, none⟩ = some (u245000) := (blk_cell BK244.out 0).trans rfl
                have hcz154_1 : wr.cell? ⟨gb244, 1, none⟩ = some (.int .i64 t242) := (blk_cell BK244.out 1).trans rfl
                have hfz154_0 := blk_frozen BK244.out 0
                have hfz154_1 := blk_frozen BK244.out 1
                obtain ⟨Ao155, co155, eo155⟩ := Kd.R_slice HO_245000.out
                subst eo155
                have p148 : 0 ≤ (x16_2 : Int) := of_decide_eq_true (by first | (with_reducible assumption) | assumption)
                have q148 : (x16_2 : Int) < ((x245000_2.length : Int) : Int) := of_decide_eq_true (by first | (with_reducible assumption) | assumption)
                obtain ⟨go148, co148, eo148, gb148, gl148, cl148, HG148⟩ := Kd.R_form HO_245000.out (by omega)
                (first | cases eo148 | (injection eo148 with ea_ en_ ec_; (first | subst ea_ | (injection ea_ with ea_; subst ea_)); subst ec_; clear en_))
                have GB148 := Aside0.mk gb148
                have GG148 := Aside0.mk HG148
                clear gb148 gl148 HG148
                obtain ⟨ce148, hcl148, hM148, hcc148, hfr148⟩ := Kd.R_elem HO_245000.out z31 (x16_2 : Int) p148 q148
                obtain rfl := k31_openM hM148
                have hx148_0 : wr.cell? ⟨go148, (x16_2 : Int).toNat * 2, none⟩ = some (.int .i64 ((rd_T31 x245000_2 x16_2).f0)) := hcc148 0 _ rfl
                have hx148_1 : wr.cell? ⟨go148, (x16_2 : Int).toNat * 2 + 1, none⟩ = some (.int .i64 ((rd_T31 x245000_2 x16_2).f1)) := hcc148 1 _ rfl
                have hf148_0 : wr.frozen? ⟨go148, (x16_2 : Int).toNat * 2, none⟩ = false := hfr148 0
                have hf148_1 : wr.frozen? ⟨go148, (x16_2 : Int).toNat * 2 + 1, none⟩ = false := hfr148 1
                clear hcl148 hcc148 hfr148 hM148
                replace p148 := eq_true p148
                replace q148 := eq_true q148
                have HX156 := Aside0.mk (show Kd.R k31 31 wr w.heap.size (fun k_ => some k_ ≠ (u239000 : Value).ownBlock ∧ some k_ ≠ (u251000 : Value).ownBlock ∧ some k_ ≠ (u257000 : Value).ownBlock ∧ some k_ ≠ (u263000 : Value).ownBlock) (.slice (some ⟨go148, 0, none⟩) x245000_2.length co155) x245000_2 from (by (with_reducible repeat (first | apply Kd.R_alloc | apply Kd.R_drewN | apply Kd.R_drew)); exact HO_245000.out))
                obtain ⟨ce156, hcl156, hM156, hcc156, hfr156⟩ := Kd.R_elem HX156.out z31 (x16_2 : Int) (of_decide_eq_true (by first | (with_reducible assumption) | assumption)) (by have h_ : (x16_2 : Int) < ((x245000_2.length : Int) : Int) := of_decide_eq_true (by first | (with_reducible assumption) | assumption); first | exact h_ | (have e_ := (Kd.R_reads' HO_245000.out).1; omega) | simpa using h_)
                obtain rfl := k31_openM hM156
                have HP156 := Kd.R_seg HX156.out (x16_2 : Int) (of_decide_eq_true (by first | (with_reducible assumption) | assumption)) (by have h_ : (x16_2 : Int) < ((x245000_2.length : Int) : Int) := of_decide_eq_true (by first | (with_reducible assumption) | assumption); first | exact h_ | (have e_ := (Kd.R_reads' HO_245000.out).1; omega) | simpa using h_) (seg := [.int .i64 (-1)]) (j := 1) hcl156 hcc156 (show 2 ≤ 2 from by decide) (x' := (⟨(rd_T31 x245000_2 x16_2).f0, (-1)⟩ : S31)) (k31_mkM _ _ _ (⟨(rd_T31 x245000_2 x16_2).f0, (-1)⟩ : S31) ) (fun _ hk => hk)
                have hx156_1 := hcc156 1 _ rfl
                (try simp only [show (k31).sz = 2 from rfl, Nat.mul_one, Nat.add_zero] at hx156_1)
                have hf156_1 := hfr156 1
                (try simp only [show (k31).sz = 2 from rfl, Nat.mul_one, Nat.add_zero] at hf156_1)
                clear hcl156 hcc156 hfr156 hM156
                go_wp2_with (first | ((with_reducible refine gate_store (t := 3) (p := 85) rfl ?_); refine store_event (t := 3) (p := 85) (v := ?vo_w157) (w1 := (wr.setCell ⟨go148, (x16_2 : Int).toNat * 2 + 1, none⟩ (.int .i64 (-1)))) ?hg ?ho ?hn ?hr ?_; (case ho => rfl); (case hg => rfl); (case hn => rfl); (case hr => first | (go_simp; done) | (go_simp; rfl)); intro w157 hw; have hg : wr.grownBy w157 (some go148) := (by rw [hw]; exact HP156.2); have hp_ : Kd.R k31 31 w157 w.heap.size (fun k_ => some k_ ≠ (u239000 : Value).ownBlock ∧ some k_ ≠ (u251000 : Value).ownBlock ∧ some k_ ≠ (u257000 : Value).ownBlock ∧ some k_ ≠ (u263000 : Value).ownBlock) (.slice (some ⟨go148, 0, none⟩) x245000_2.length co155) y266 := (by rw [hw, Ny266.out]; exact HP156.1); clear HP156; have n0_ := Aside0.mk (Kd.R_after (v := (.slice (some ⟨go148, 0, none⟩) x245000_2.length co155)) (v1 := (.slice (some ⟨go148, 0, none⟩) x245000_2.length co155)) (ok := (fun k_ => some k_ ≠ (u251000 : Value).ownBlock ∧ some k_ ≠ (u257000 : Value).ownBlock ∧ some k_ ≠ (u263000 : Value).ownBlock)) (by (with_reducible repeat (first | apply Kd.R_alloc | apply Kd.R_drewN | apply Kd.R_drew)); exact Kd.R_mono HO_239000.out (fun _ hk => ⟨⟨hk.2.1, ⟨hk.2.2.1, hk.2.2.2⟩⟩, hk.1⟩)) hg (.inl rfl)); have n1_ := Aside0.mk (hp_); have n2_ := Aside0.mk (Kd.R_after (v := (.slice (some ⟨go148, 0, none⟩) x245000_2.length co155)) (v1 := (.slice (some ⟨go148, 0, none⟩) x245000_2.length co155)) (ok := (fun k_ => some k_ ≠ (u239000 : Value).ownBlock ∧ some k_ ≠ (u257000 : Value).ownBlock ∧ some k_ ≠ (u263000 : Value).ownBlock)) (by (with_reducible repeat (first | apply Kd.R_alloc | apply Kd.R_drewN | apply Kd.R_drew)); exact Kd.R_mono HO_251000.out (fun _ hk => ⟨⟨hk.1, ⟨hk.2.2.1, hk.2.2.2⟩⟩, hk.2.1⟩)) hg (.inl rfl)); have n3_ := Aside0.mk (Kd.R_after (v := (.slice (some ⟨go148, 0, none⟩) x245000_2.length co155)) (v1 := (.slice (some ⟨go148, 0, none⟩) x245000_2.length co155)) (ok := (fun k_ => some k_ ≠ (u239000 : Value).ownBlock ∧ some k_ ≠ (u251000 : Value).ownBlock ∧ some k_ ≠ (u263000 : Value).ownBlock)) (by (with_reducible repeat (first | apply Kd.R_alloc | apply Kd.R_drewN | apply Kd.R_drew)); exact Kd.R_mono HO_257000.out (fun _ hk => ⟨⟨hk.1, ⟨hk.2.2.1, hk.2.2.2⟩⟩, hk.2.1⟩)) hg (.inl rfl)); have n4_ := Aside0.mk (Kd.R_after (v := (.slice (some ⟨go148, 0, none⟩) x245000_2.length co155)) (v1 := (.slice (some ⟨go148, 0, none⟩) x245000_2.length co155)) (ok := (fun k_ => some k_ ≠ (u239000 : Value).ownBlock ∧ some k_ ≠ (u251000 : Value).ownBlock ∧ some k_ ≠ (u257000 : Value).ownBlock)) (by (with_reducible repeat (first | apply Kd.R_alloc | apply Kd.R_drewN | apply Kd.R_drew)); exact Kd.R_mono HO_263000.out (fun _ hk => ⟨⟨hk.1, ⟨hk.2.2.1, hk.2.2.2⟩⟩, hk.2.1⟩)) hg (.inl rfl)); have n5_ := Aside0.mk (blk_grown (g := gb233) (o := .cells #[.slice A0_0 l0_0.length c0_0, .int .i64 a0_1] 24 (0, 0)) (by (with_reducible repeat (first | refine blk_drewN ?_ _ | refine blk_drew ?_ | refine blk_alloc ?_ _)); exact BK233.out) hg (Kd.R_ne HO_245000.out BK233.out (by decide))); have n6_ := Aside0.mk (blk_grown (g := gb238) (o := .cells #[u239000, .int .i64 t237] 24 (0, 0)) (by (with_reducible repeat (first | refine blk_drewN ?_ _ | refine blk_drew ?_ | refine blk_alloc ?_ _)); exact BK238.out) hg (Kd.R_ne HO_245000.out BK238.out (by decide))); have n7_ := Aside0.mk (blk_grown (g := gb244) (o := .cells #[.slice (some ⟨go148, 0, none⟩) x245000_2.length co155, .int .i64 t242] 24 (0, 0)) (by (with_reducible repeat (first | refine blk_drewN ?_ _ | refine blk_drew ?_ | refine blk_alloc ?_ _)); exact BK244.out) hg (Kd.R_ne HO_245000.out BK244.out (by decide))); have n8_ := Aside0.mk (blk_grown (g := gb250) (o := .cells #[u251000, .int .i64 t248] 24 (0, 0)) (by (with_reducible repeat (first | refine blk_drewN ?_ _ | refine blk_drew ?_ | refine blk_alloc ?_ _)); exact BK250.out) hg (Kd.R_ne HO_245000.out BK250.out (by decide))); have n9_ := Aside0.mk (blk_grown (g := gb256) (o := .cells #[u257000, .int .i64 t254] 24 (0, 0)) (by (with_reducible repeat (first | refine blk_drewN ?_ _ | refine blk_drew ?_ | refine blk_alloc ?_ _)); exact BK256.out) hg (Kd.R_ne HO_245000.out BK256.out (by decide))); have n10_ := Aside0.mk (blk_grown (g := gb262) (o := .cells #[u263000, .int .i64 t260] 24 (0, 0)) (by (with_reducible repeat (first | refine blk_drewN ?_ _ | refine blk_drew ?_ | refine blk_alloc ?_ _)); exact BK262.out) hg (Kd.R_ne HO_245000.out BK262.out (by decide))); have n11_ := Aside0.mk ((by rw [hw]; exact below_set (HB.out) GB148.out : Below w.heap.size w w157)); clear HO_239000; clear HO_245000; clear HO_251000; clear HO_257000; clear HO_263000; clear BK233; clear BK238; clear BK244; clear BK250; clear BK256; clear BK262; clear HB; have HO_239000 := n0_; have HO_245000 := n1_; have HO_251000 := n2_; have HO_257000 := n3_; have HO_263000 := n4_; have BK233 := n5_; have BK238 := n6_; have BK244 := n7_; have BK250 := n8_; have BK256 := n9_; have BK262 := n10_; have HB := n11_; clear n0_ n1_ n2_ n3_ n4_ n5_ n6_ n7_ n8_ n9_ n10_ n11_; clear hg hw hp_))
                go_roundg k2
                case measure => have := HJ8.out; have := HK2.out; omega
                case rel => exact ⟨(wrap64 (x16_2 + 1)), (x239000_2), (y266), (x251000_2), (x257000_2), (x263000_2), (u239000), (.slice (some ⟨go148, 0, none⟩) x245000_2.length co155), (u251000), (u257000), (u263000), (by first | rfl | (simp; done) | (simp [*]; done)), H', ⟨by have := HJ8.out; have := HK2.out; omega⟩, ⟨by (with_reducible repeat (first | apply Kd.R_alloc | apply Kd.R_drewN | apply Kd.R_drew)); exact Kd.R_mono HO_239000.out (fun _ hk => ⟨hk.2, ⟨hk.1.1, ⟨hk.1.2.1, hk.1.2.2⟩⟩⟩)⟩, ⟨by (with_reducible repeat (first | apply Kd.R_alloc | apply Kd.R_drewN | apply Kd.R_drew)); exact HO_245000.out⟩, ⟨by (with_reducible repeat (first | apply Kd.R_alloc | apply Kd.R_drewN | apply Kd.R_drew)); exact Kd.R_mono HO_251000.out (fun _ hk => ⟨hk.1.1, ⟨hk.2, ⟨hk.1.2.1, hk.1.2.2⟩⟩⟩)⟩, ⟨by (with_reducible repeat (first | apply Kd.R_alloc | apply Kd.R_drewN | apply Kd.R_drew)); exact Kd.R_mono HO_257000.out (fun _ hk => ⟨hk.1.1, ⟨hk.2, ⟨hk.1.2.1, hk.1.2.2⟩⟩⟩)⟩, ⟨by (with_reducible repeat (first | apply Kd.R_alloc | apply Kd.R_drewN | apply Kd.R_drew)); exact Kd.R_mono HO_263000.out (fun _ hk => ⟨hk.1.1, ⟨hk.2, ⟨hk.1.2.1, hk.1.2.2⟩⟩⟩)⟩, ⟨by (with_reducible repeat (first | refine blk_drewN ?_ _ | refine blk_drew ?_ | refine blk_alloc ?_ _)); exact BK233.out⟩, ⟨by (with_reducible repeat (first | refine blk_drewN ?_ _ | refine blk_drew ?_ | refine blk_alloc ?_ _)); exact BK238.out⟩, ⟨by (with_reducible repeat (first | refine blk_drewN ?_ _ | refine blk_drew ?_ | refine blk_alloc ?_ _)); exact BK244.out⟩, ⟨by (with_reducible repeat (first | refine blk_drewN ?_ _ | refine blk_drew ?_ | refine blk_alloc ?_ _)); exact BK250.out⟩, ⟨by (with_reducible repeat (first | refine blk_drewN ?_ _ | refine blk_drew ?_ | refine blk_alloc ?_ _)); exact BK256.out⟩, ⟨by (with_reducible repeat (first | refine blk_drewN ?_ _ | refine blk_drew ?_ | refine blk_alloc ?_ _)); exact BK262.out⟩, ⟨by repeat (first | (with_reducible first | exact HB.out | apply below_alloc | apply pw_below_drewN | apply below_drew1 | refine below_set ?_ GE233.out | refine below_set ?_ GE238.out | refine below_set ?_ GE244.out | refine below_set ?_ GE250.out | refine below_set ?_ GE256.out | refine below_set ?_ GE262.out) | exact HB.out)⟩⟩
              · rw [if_neg c147] at H
                exact absurd H (by simp)
            · rw [if_neg c146] at H
              have c146b0 : decide (x16_2 < (x245000_2.length : Int)) = false := decide_eq_false c146
              clear c146
              have H' := Aside0.mk H
              clear H
              have hnb158 := NB244_233.out
              have hnc158 := NB233_244.out
              have hnb159 := NB244_238.out
              have hnc159 := NB238_244.out
              have hnb160 := NB244_250.out
              have hnc160 := NB250_244.out
              have hnb161 := NB244_256.out
              have hnc161 := NB256_244.out
              have hnb162 := NB244_262.out
              have hnc162 := NB262_244.out
              have hcz163_0 : wr.cell? ⟨gb244, 0, none⟩ = some (u245000) := (blk_cell BK244.out 0).trans rfl
              have hcz163_1 : wr.cell? ⟨gb244, 1, none⟩ = some (.int .i64 t242) := (blk_cell BK244.out 1).trans rfl
              have hfz163_0 := blk_frozen BK244.out 0
              have hfz163_1 := blk_frozen BK244.out 1
              obtain ⟨Ao164, co164, eo164⟩ := Kd.R_slice HO_245000.out
              subst eo164
              go_wp2
              go_loopg [17] k2 (fun kq v17 w' => ∃ (x17_3 : Int) (x239000_3 : List (S31)) (x245000_3 : List (S31)) (x251000_3 : List (S31)) (x257000_3 : List (S31)) (x263000_3 : List (S31)) (u239000 : Value) (u245000 : Value) (u251000 : Value) (u257000 : Value) (u263000 : Value), v17 = .int .i64 x17_3 ∧ Aside0 (rialtolaw12_LedgerMoves.l1 kq x17_3 l0_0 a0_1 x239000_3 t237 x251000_3 t248 = some r) ∧ Aside0 (kq ≤ k2) ∧ Aside0 (Kd.R k31 31 w' w.heap.size (fun k_ => some k_ ≠ (u245000 : Value).ownBlock ∧ some k_ ≠ (u251000 : Value).ownBlock ∧ some k_ ≠ (u257000 : Value).ownBlock ∧ some k_ ≠ (u263000 : Value).ownBlock) u239000 x239000_3) ∧ Aside0 (Kd.R k31 31 w' w.heap.size (fun k_ => some k_ ≠ (u239000 : Value).ownBlock ∧ some k_ ≠ (u251000 : Value).ownBlock ∧ some k_ ≠ (u257000 : Value).ownBlock ∧ some k_ ≠ (u263000 : Value).ownBlock) u245000 x245000_3) ∧ Aside0 (Kd.R k31 31 w' w.heap.size (fun k_ => some k_ ≠ (u239000 : Value).ownBlock ∧ some k_ ≠ (u245000 : Value).ownBlock ∧ some k_ ≠ (u257000 : Value).ownBlock ∧ some k_ ≠ (u263000 : Value).ownBlock) u251000 x251000_3) ∧ Aside0 (Kd.R k31 31 w' w.heap.size (fun k_ => some k_ ≠ (u239000 : Value).ownBlock ∧ some k_ ≠ (u245000 : Value).ownBlock ∧ some k_ ≠ (u251000 : Value).ownBlock ∧ some k_ ≠ (u263000 : Value).ownBlock) u257000 x257000_3) ∧ Aside0 (Kd.R k31 31 w' w.heap.size (fun k_ => some k_ ≠ (u239000 : Value).ownBlock ∧ some k_ ≠ (u245000 : Value).ownBlock ∧ some k_ ≠ (u251000 : Value).ownBlock ∧ some k_ ≠ (u257000 : Value).ownBlock) u263000 x263000_3) ∧ Aside0 (w'.heap[gb233]? = some (.cells #[(.slice A0_0 l0_0.length c0_0), .int .i64 a0_1] 24 (0, 0))) ∧ Aside0 (w'.heap[gb238]? = some (.cells #[u239000, .int .i64 t237] 24 (0, 0))) ∧ Aside0 (w'.heap[gb244]? = some (.cells #[u245000, .int .i64 t242] 24 (0, 0))) ∧ Aside0 (w'.heap[gb250]? = some (.cells #[u251000, .int .i64 t248] 24 (0, 0))) ∧ Aside0 (w'.heap[gb256]? = some (.cells #[u257000, .int .i64 t254] 24 (0, 0))) ∧ Aside0 (w'.heap[gb262]? = some (.cells #[u263000, .int .i64 t260] 24 (0, 0))) ∧ Aside0 (Below w.heap.size w w'))
              case atStart => exact ⟨(0), (x239000_2), (x245000_2), (x251000_2), (x257000_2), (x263000_2), (u239000), (.slice Ao164 x245000_2.length co164), (u251000), (u257000), (u263000), (by first | rfl | (simp; done) | (simp [*]; done)), H', ⟨Nat.le_refl _⟩, ⟨by (with_reducible repeat (first | apply Kd.R_alloc | apply Kd.R_drewN | apply Kd.R_drew)); exact HO_239000.out⟩, ⟨by (with_reducible repeat (first | apply Kd.R_alloc | apply Kd.R_drewN | apply Kd.R_drew)); exact HO_245000.out⟩, ⟨by (with_reducible repeat (first | apply Kd.R_alloc | apply Kd.R_drewN | apply Kd.R_drew)); exact HO_251000.out⟩, ⟨by (with_reducible repeat (first | apply Kd.R_alloc | apply Kd.R_drewN | apply Kd.R_drew)); exact HO_257000.out⟩, ⟨by (with_reducible repeat (first | apply Kd.R_alloc | apply Kd.R_drewN | apply Kd.R_drew)); exact HO_263000.out⟩, ⟨by (with_reducible repeat (first | refine blk_drewN ?_ _ | refine blk_drew ?_ | refine blk_alloc ?_ _)); exact BK233.out⟩, ⟨by (with_reducible repeat (first | refine blk_drewN ?_ _ | refine blk_drew ?_ | refine blk_alloc ?_ _)); exact BK238.out⟩, ⟨by (with_reducible repeat (first | refine blk_drewN ?_ _ | refine blk_drew ?_ | refine blk_alloc ?_ _)); exact BK244.out⟩, ⟨by (with_reducible repeat (first | refine blk_drewN ?_ _ | refine blk_drew ?_ | refine blk_alloc ?_ _)); exact BK250.out⟩, ⟨by (with_reducible repeat (first | refine blk_drewN ?_ _ | refine blk_drew ?_ | refine blk_alloc ?_ _)); exact BK256.out⟩, ⟨by (with_reducible repeat (first | refine blk_drewN ?_ _ | refine blk_drew ?_ | refine blk_alloc ?_ _)); exact BK262.out⟩, ⟨by repeat (first | (with_reducible first | exact HB.out | apply below_alloc | apply pw_below_drewN | apply below_drew1 | refine below_set ?_ GE233.out | refine below_set ?_ GE238.out | refine below_set ?_ GE244.out | refine below_set ?_ GE250.out | refine below_set ?_ GE256.out | refine below_set ?_ GE262.out) | exact HB.out)⟩⟩
              case round =>
                clear H'
                try clear c1
                try clear p1
                try clear q1
                try clear hx1
                try clear c2
                try clear p2
                try clear c3
                try clear c4
                try clear c5
                try clear c6
                try clear p6
                try clear c7
                try clear c8
                try clear c9
                try clear c10
                try clear c11
                try clear c12
                try clear c13
                try clear c14
                try clear p14
                try clear q14
                try clear hx14
                try clear hf14
                try clear c15
                try clear hx15
                try clear hf15
                try clear c16
                try clear c20
                try clear c21
                try clear c27
                try clear c28
                try clear c29
                try clear c35
                try clear c36
                try clear c37
                try clear c38
                try clear c44
                try clear c45
                try clear c46
                try clear c47
                try clear c48
                try clear c51
                try clear c52
                try clear c52b0
                try clear c52b1
                try clear c54
                try clear c55
                try clear c55b0
                try clear c55b1
                try clear c57
                try clear c58
                try clear c59
                try clear c60
                try clear c61
                try clear c63
                try clear c64
                try clear p64
                try clear c65
                try clear c66
                try clear c69
                try clear c70
                try clear c71
                try clear c73
                try clear c74
                try clear c77
                try clear c81
                try clear c82
                try clear c83
                try clear c84
                try clear c85
                try clear c87
                try clear c88
                try clear c89
                try clear c90
                try clear c93
                try clear c94
                try clear c95
                try clear c97
                try clear c98
                try clear c101
                try clear c102
                try clear c103
                try clear c104
                try clear c105
                try clear c107
                try clear c108
                try clear c109
                try clear c110
                try clear c113
                try clear c114
                try clear c115
                try clear c117
                try clear c118
                try clear c121
                try clear c122
                try clear c123
                try clear c124
                try clear c125
                try clear c127
                try clear c128
                try clear c129
                try clear c130
                try clear c133
                try clear c134
                try clear c135
                try clear c136
                try clear c137
                try clear c139
                try clear c140
                try clear c141
                try clear c142
                try clear c145
                try clear c146
                try clear c146b0
                try clear c147
                try clear c147b0
                try clear c148
                try clear p148
                try clear q148
                try clear hx148
                try clear hf148
                try clear c149
                try clear c150
                try clear c151
                try clear c152
                try clear c153
                try clear c156
                try clear hx156
                try clear hf156
                try clear c158
                try clear c159
                try clear c160
                try clear c161
                try clear c162
                try clear hcz106_0
                try clear hcz106_1
                try clear hcz111_0
                try clear hcz111_1
                try clear hcz116_0
                try clear hcz116_1
                try clear hcz119_0
                try clear hcz119_1
                try clear hcz11_0
                try clear hcz11_1
                try clear hcz126_0
                try clear hcz126_1
                try clear hcz131_0
                try clear hcz131_1
                try clear hcz138_0
                try clear hcz138_1
                try clear hcz143_0
                try clear hcz143_1
                try clear hcz154_0
                try clear hcz154_1
                try clear hcz163_0
                try clear hcz163_1
                try clear hcz16_0
                try clear hcz16_1
                try clear hcz22_0
                try clear hcz22_1
                try clear hcz23_0
                try clear hcz23_1
                try clear hcz30_0
                try clear hcz30_1
                try clear hcz31_0
                try clear hcz31_1
                try clear hcz39_0
                try clear hcz39_1
                try clear hcz40_0
                try clear hcz40_1
                try clear hcz49_0
                try clear hcz49_1
                try clear hcz62_0
                try clear hcz62_1
                try clear hcz67_0
                try clear hcz67_1
                try clear hcz72_0
                try clear hcz72_1
                try clear hcz75_0
                try clear hcz75_1
                try clear hcz78_0
                try clear hcz78_1
                try clear hcz79_0
                try clear hcz79_1
                try clear hcz86_0
                try clear hcz86_1
                try clear hcz91_0
                try clear hcz91_1
                try clear hcz96_0
                try clear hcz96_1
                try clear hcz99_0
                try clear hcz99_1
                try clear hfz106_0
                try clear hfz106_1
                try clear hfz111_0
                try clear hfz111_1
                try clear hfz116_0
                try clear hfz116_1
                try clear hfz119_0
                try clear hfz119_1
                try clear hfz11_0
                try clear hfz11_1
                try clear hfz126_0
                try clear hfz126_1
                try clear hfz131_0
                try clear hfz131_1
                try clear hfz138_0
                try clear hfz138_1
                try clear hfz143_0
                try clear hfz143_1
                try clear hfz154_0
                try clear hfz154_1
                try clear hfz163_0
                try clear hfz163_1
                try clear hfz16_0
                try clear hfz16_1
                try clear hfz22_0
                try clear hfz22_1
                try clear hfz23_0
                try clear hfz23_1
                try clear hfz30_0
                try clear hfz30_1
                try clear hfz31_0
                try clear hfz31_1
                try clear hfz39_0
                try clear hfz39_1
                try clear hfz40_0
                try clear hfz40_1
                try clear hfz49_0
                try clear hfz49_1
                try clear hfz62_0
                try clear hfz62_1
                try clear hfz67_0
                try clear hfz67_1
                try clear hfz72_0
                try clear hfz72_1
                try clear hfz75_0
                try clear hfz75_1
                try clear hfz78_0
                try clear hfz78_1
                try clear hfz79_0
                try clear hfz79_1
                try clear hfz86_0
                try clear hfz86_1
                try clear hfz91_0
                try clear hfz91_1
                try clear hfz96_0
                try clear hfz96_1
                try clear hfz99_0
                try clear hfz99_1
                try clear hx148_0
                try clear hx148_1
                try clear hx156_1
                try clear p148
                try clear p2
                try clear q148
                obtain ⟨x17_3, x239000_3, x245000_3, x251000_3, x257000_3, x263000_3, u239000, u245000, u251000, u257000, u263000, rfl, HA, HK3, HO_239000, HO_245000, HO_251000, HO_257000, HO_263000, BK233, BK238, BK244, BK250, BK256, BK262, HB⟩ := hrel
                cases gk with
                | zero => exact absurd HA.out (by simp [rialtolaw12_LedgerMoves.l1])
                | succ k3 =>
                  have H := HA.out
                  clear HA
                  simp only [rialtolaw12_LedgerMoves.l1] at H
                  by_cases c165 : x17_3 < (x251000_3.length : Int)
                  · rw [if_pos c165] at H
                    have c165b0 : decide (x17_3 < (x251000_3.length : Int)) = true := decide_eq_true c165
                    clear c165
                    by_cases c166 : 0 ≤ x17_3
                    · rw [if_pos c166] at H
                      have c166b0 : decide (0 ≤ x17_3) = true := decide_eq_true c166
                      clear c166
                      obtain ⟨y267, hy267⟩ : ∃ y_ : List (S31), y_ = (x251000_3.set (x17_3 : Int).toNat (⟨(rd_T31 x251000_3 x17_3).f0, (-2)⟩ : S31)) := ⟨_, rfl⟩
                      replace H : (rialtolaw12_LedgerMoves.l1 k3 (wrap64 (x17_3 + 1)) l0_0 a0_1 x239000_3 t237 y267 t248) = some r := by first | (rw [hy267]; with_reducible exact H) | (have H2_ := (Option.bind_some _ _).symm.trans H; rw [hy267]; with_reducible exact H2_) | (have H2_ := (Option.bind_some _ _).symm.trans H; with_reducible exact H2_) | with_reducible exact H | (rw [hy267]; exact H) | exact H
                      have Ny267 := Aside0.mk hy267
                      clear hy267
                      have H' := Aside0.mk H
                      clear H
                      have hnb168 := NB250_233.out
                      have hnc168 := NB233_250.out
                      have hnb169 := NB250_238.out
                      have hnc169 := NB238_250.out
                      have hnb170 := NB250_244.out
                      have hnc170 := NB244_250.out
                      have hnb171 := NB250_256.out
                      have hnc171 := NB256_250.out
                      have hnb172 := NB250_262.out
                      have hnc172 := NB262_250.out
                      have hcz173_0 : wr.cell? ⟨gb250, 0, none⟩ = some (u251000) := (blk_cell BK250.out 0).trans rfl
                      have hcz173_1 : wr.cell? ⟨gb250, 1, none⟩ = some (.int .i64 t248) := (blk_cell BK250.out 1).trans rfl
                      have hfz173_0 := blk_frozen BK250.out 0
                      have hfz173_1 := blk_frozen BK250.out 1
                      obtain ⟨Ao174, co174, eo174⟩ := Kd.R_slice HO_251000.out
                      subst eo174
                      have p167 : 0 ≤ (x17_3 : Int) := of_decide_eq_true (by first | (with_reducible assumption) | assumption)
                      have q167 : (x17_3 : Int) < ((x251000_3.length : Int) : Int) := of_decide_eq_true (by first | (with_reducible assumption) | assumption)
                      obtain ⟨go167, co167, eo167, gb167, gl167, cl167, HG167⟩ := Kd.R_form HO_251000.out (by omega)
                      (first | cases eo167 | (injection eo167 with ea_ en_ ec_; (first | subst ea_ | (injection ea_ with ea_; subst ea_)); subst ec_; clear en_))
                      have GB167 := Aside0.mk gb167
                      have GG167 := Aside0.mk HG167
                      clear gb167 gl167 HG167
                      obtain ⟨ce167, hcl167, hM167, hcc167, hfr167⟩ := Kd.R_elem HO_251000.out z31 (x17_3 : Int) p167 q167
                      obtain rfl := k31_openM hM167
                      have hx167_0 : wr.cell? ⟨go167, (x17_3 : Int).toNat * 2, none⟩ = some (.int .i64 ((rd_T31 x251000_3 x17_3).f0)) := hcc167 0 _ rfl
                      have hx167_1 : wr.cell? ⟨go167, (x17_3 : Int).toNat * 2 + 1, none⟩ = some (.int .i64 ((rd_T31 x251000_3 x17_3).f1)) := hcc167 1 _ rfl
                      have hf167_0 : wr.frozen? ⟨go167, (x17_3 : Int).toNat * 2, none⟩ = false := hfr167 0
                      have hf167_1 : wr.frozen? ⟨go167, (x17_3 : Int).toNat * 2 + 1, none⟩ = false := hfr167 1
                      clear hcl167 hcc167 hfr167 hM167
                      replace p167 := eq_true p167
                      replace q167 := eq_true q167
                      have HX175 := Aside0.mk (show Kd.R k31 31 wr w.heap.size (fun k_ => some k_ ≠ (u239000 : Value).ownBlock ∧ some k_ ≠ (u245000 : Value).ownBlock ∧ some k_ ≠ (u257000 : Value).ownBlock ∧ some k_ ≠ (u263000 : Value).ownBlock) (.slice (some ⟨go167, 0, none⟩) x251000_3.length co174) x251000_3 from (by (with_reducible repeat (first | apply Kd.R_alloc | apply Kd.R_drewN | apply Kd.R_drew)); exact HO_251000.out))
                      obtain ⟨ce175, hcl175, hM175, hcc175, hfr175⟩ := Kd.R_elem HX175.out z31 (x17_3 : Int) (of_decide_eq_true (by first | (with_reducible assumption) | assumption)) (by have h_ : (x17_3 : Int) < ((x251000_3.length : Int) : Int) := of_decide_eq_true (by first | (with_reducible assumption) | assumption); first | exact h_ | (have e_ := (Kd.R_reads' HO_251000.out).1; omega) | simpa using h_)
                      obtain rfl := k31_openM hM175
                      have HP175 := Kd.R_seg HX175.out (x17_3 : Int) (of_decide_eq_true (by first | (with_reducible assumption) | assumption)) (by have h_ : (x17_3 : Int) < ((x251000_3.length : Int) : Int) := of_decide_eq_true (by first | (with_reducible assumption) | assumption); first | exact h_ | (have e_ := (Kd.R_reads' HO_251000.out).1; omega) | simpa using h_) (seg := [.int .i64 (-2)]) (j := 1) hcl175 hcc175 (show 2 ≤ 2 from by decide) (x' := (⟨(rd_T31 x251000_3 x17_3).f0, (-2)⟩ : S31)) (k31_mkM _ _ _ (⟨(rd_T31 x251000_3 x17_3).f0, (-2)⟩ : S31) ) (fun _ hk => hk)
                      have hx175_1 := hcc175 1 _ rfl
                      (try simp only [show (k31).sz = 2 from rfl, Nat.mul_one, Nat.add_zero] at hx175_1)
                      have hf175_1 := hfr175 1
                      (try simp only [show (k31).sz = 2 from rfl, Nat.mul_one, Nat.add_zero] at hf175_1)
                      clear hcl175 hcc175 hfr175 hM175
                      go_wp2_with (first | ((with_reducible refine gate_store (t := 3) (p := 97) rfl ?_); refine store_event (t := 3) (p := 97) (v := ?vo_w176) (w1 := (wr.setCell ⟨go167, (x17_3 : Int).toNat * 2 + 1, none⟩ (.int .i64 (-2)))) ?hg ?ho ?hn ?hr ?_; (case ho => rfl); (case hg => rfl); (case hn => rfl); (case hr => first | (go_simp; done) | (go_simp; rfl)); intro w176 hw; have hg : wr.grownBy w176 (some go167) := (by rw [hw]; exact HP175.2); have hp_ : Kd.R k31 31 w176 w.heap.size (fun k_ => some k_ ≠ (u239000 : Value).ownBlock ∧ some k_ ≠ (u245000 : Value).ownBlock ∧ some k_ ≠ (u257000 : Value).ownBlock ∧ some k_ ≠ (u263000 : Value).ownBlock) (.slice (some ⟨go167, 0, none⟩) x251000_3.length co174) y267 := (by rw [hw, Ny267.out]; exact HP175.1); clear HP175; have n0_ := Aside0.mk (Kd.R_after (v := (.slice (some ⟨go167, 0, none⟩) x251000_3.length co174)) (v1 := (.slice (some ⟨go167, 0, none⟩) x251000_3.length co174)) (ok := (fun k_ => some k_ ≠ (u245000 : Value).ownBlock ∧ some k_ ≠ (u257000 : Value).ownBlock ∧ some k_ ≠ (u263000 : Value).ownBlock)) (by (with_reducible repeat (first | apply Kd.R_alloc | apply Kd.R_drewN | apply Kd.R_drew)); exact Kd.R_mono HO_239000.out (fun _ hk => ⟨⟨hk.1, ⟨hk.2.2.1, hk.2.2.2⟩⟩, hk.2.1⟩)) hg (.inl rfl)); have n1_ := Aside0.mk (Kd.R_after (v := (.slice (some ⟨go167, 0, none⟩) x251000_3.length co174)) (v1 := (.slice (some ⟨go167, 0, none⟩) x251000_3.length co174)) (ok := (fun k_ => some k_ ≠ (u239000 : Value).ownBlock ∧ some k_ ≠ (u257000 : Value).ownBlock ∧ some k_ ≠ (u263000 : Value).ownBlock)) (by (with_reducible repeat (first | apply Kd.R_alloc | apply Kd.R_drewN | apply Kd.R_drew)); exact Kd.R_mono HO_245000.out (fun _ hk => ⟨⟨hk.1, ⟨hk.2.2.1, hk.2.2.2⟩⟩, hk.2.1⟩)) hg (.inl rfl)); have n2_ := Aside0.mk (hp_); have n3_ := Aside0.mk (Kd.R_after (v := (.slice (some ⟨go167, 0, none⟩) x251000_3.length co174)) (v1 := (.slice (some ⟨go167, 0, none⟩) x251000_3.length co174)) (ok := (fun k_ => some k_ ≠ (u239000 : Value).ownBlock ∧ some k_ ≠ (u245000 : Value).ownBlock ∧ some k_ ≠ (u263000 : Value).ownBlock)) (by (with_reducible repeat (first | apply Kd.R_alloc | apply Kd.R_drewN | apply Kd.R_drew)); exact Kd.R_mono HO_257000.out (fun _ hk => ⟨⟨hk.1, ⟨hk.2.1, hk.2.2.2⟩⟩, hk.2.2.1⟩)) hg (.inl rfl)); have n4_ := Aside0.mk (Kd.R_after (v := (.slice (some ⟨go167, 0, none⟩) x251000_3.length co174)) (v1 := (.slice (some ⟨go167, 0, none⟩) x251000_3.length co174)) (ok := (fun k_ => some k_ ≠ (u239000 : Value).ownBlock ∧ some k_ ≠ (u245000 : Value).ownBlock ∧ some k_ ≠ (u257000 : Value).ownBlock)) (by (with_reducible repeat (first | apply Kd.R_alloc | apply Kd.R_drewN | apply Kd.R_drew)); exact Kd.R_mono HO_263000.out (fun _ hk => ⟨⟨hk.1, ⟨hk.2.1, hk.2.2.2⟩⟩, hk.2.2.1⟩)) hg (.inl rfl)); have n5_ := Aside0.mk (blk_grown (g := gb233) (o := .cells #[.slice A0_0 l0_0.length c0_0, .int .i64 a0_1] 24 (0, 0)) (by (with_reducible repeat (first | refine blk_drewN ?_ _ | refine blk_drew ?_ | refine blk_alloc ?_ _)); exact BK233.out) hg (Kd.R_ne HO_251000.out BK233.out (by decide))); have n6_ := Aside0.mk (blk_grown (g := gb238) (o := .cells #[u239000, .int .i64 t237] 24 (0, 0)) (by (with_reducible repeat (first | refine blk_drewN ?_ _ | refine blk_drew ?_ | refine blk_alloc ?_ _)); exact BK238.out) hg (Kd.R_ne HO_251000.out BK238.out (by decide))); have n7_ := Aside0.mk (blk_grown (g := gb244) (o := .cells #[u245000, .int .i64 t242] 24 (0, 0)) (by (with_reducible repeat (first | refine blk_drewN ?_ _ | refine blk_drew ?_ | refine blk_alloc ?_ _)); exact BK244.out) hg (Kd.R_ne HO_251000.out BK244.out (by decide))); have n8_ := Aside0.mk (blk_grown (g := gb250) (o := .cells #[.slice (some ⟨go167, 0, none⟩) x251000_3.length co174, .int .i64 t248] 24 (0, 0)) (by (with_reducible repeat (first | refine blk_drewN ?_ _ | refine blk_drew ?_ | refine blk_alloc ?_ _)); exact BK250.out) hg (Kd.R_ne HO_251000.out BK250.out (by decide))); have n9_ := Aside0.mk (blk_grown (g := gb256) (o := .cells #[u257000, .int .i64 t254] 24 (0, 0)) (by (with_reducible repeat (first | refine blk_drewN ?_ _ | refine blk_drew ?_ | refine blk_alloc ?_ _)); exact BK256.out) hg (Kd.R_ne HO_251000.out BK256.out (by decide))); have n10_ := Aside0.mk (blk_grown (g := gb262) (o := .cells #[u263000, .int .i64 t260] 24 (0, 0)) (by (with_reducible repeat (first | refine blk_drewN ?_ _ | refine blk_drew ?_ | refine blk_alloc ?_ _)); exact BK262.out) hg (Kd.R_ne HO_251000.out BK262.out (by decide))); have n11_ := Aside0.mk ((by rw [hw]; exact below_set (HB.out) GB167.out : Below w.heap.size w w176)); clear HO_239000; clear HO_245000; clear HO_251000; clear HO_257000; clear HO_263000; clear BK233; clear BK238; clear BK244; clear BK250; clear BK256; clear BK262; clear HB; have HO_239000 := n0_; have HO_245000 := n1_; have HO_251000 := n2_; have HO_257000 := n3_; have HO_263000 := n4_; have BK233 := n5_; have BK238 := n6_; have BK244 := n7_; have BK250 := n8_; have BK256 := n9_; have BK262 := n10_; have HB := n11_; clear n0_ n1_ n2_ n3_ n4_ n5_ n6_ n7_ n8_ n9_ n10_ n11_; clear hg hw hp_))
                      go_roundg k3
                      case measure => have := HJ8.out; have := HK2.out; have := HK3.out; omega
                      case rel => exact ⟨(wrap64 (x17_3 + 1)), (x239000_3), (x245000_3), (y267), (x257000_3), (x263000_3), (u239000), (u245000), (.slice (some ⟨go167, 0, none⟩) x251000_3.length co174), (u257000), (u263000), (by first | rfl | (simp; done) | (simp [*]; done)), H', ⟨by have := HJ8.out; have := HK2.out; have := HK3.out; omega⟩, ⟨by (with_reducible repeat (first | apply Kd.R_alloc | apply Kd.R_drewN | apply Kd.R_drew)); exact Kd.R_mono HO_239000.out (fun _ hk => ⟨hk.1.1, ⟨hk.2, ⟨hk.1.2.1, hk.1.2.2⟩⟩⟩)⟩, ⟨by (with_reducible repeat (first | apply Kd.R_alloc | apply Kd.R_drewN | apply Kd.R_drew)); exact Kd.R_mono HO_245000.out (fun _ hk => ⟨hk.1.1, ⟨hk.2, ⟨hk.1.2.1, hk.1.2.2⟩⟩⟩)⟩, ⟨by (with_reducible repeat (first | apply Kd.R_alloc | apply Kd.R_drewN | apply Kd.R_drew)); exact HO_251000.out⟩, ⟨by (with_reducible repeat (first | apply Kd.R_alloc | apply Kd.R_drewN | apply Kd.R_drew)); exact Kd.R_mono HO_257000.out (fun _ hk => ⟨hk.1.1, ⟨hk.1.2.1, ⟨hk.2, hk.1.2.2⟩⟩⟩)⟩, ⟨by (with_reducible repeat (first | apply Kd.R_alloc | apply Kd.R_drewN | apply Kd.R_drew)); exact Kd.R_mono HO_263000.out (fun _ hk => ⟨hk.1.1, ⟨hk.1.2.1, ⟨hk.2, hk.1.2.2⟩⟩⟩)⟩, ⟨by (with_reducible repeat (first | refine blk_drewN ?_ _ | refine blk_drew ?_ | refine blk_alloc ?_ _)); exact BK233.out⟩, ⟨by (with_reducible repeat (first | refine blk_drewN ?_ _ | refine blk_drew ?_ | refine blk_alloc ?_ _)); exact BK238.out⟩, ⟨by (with_reducible repeat (first | refine blk_drewN ?_ _ | refine blk_drew ?_ | refine blk_alloc ?_ _)); exact BK244.out⟩, ⟨by (with_reducible repeat (first | refine blk_drewN ?_ _ | refine blk_drew ?_ | refine blk_alloc ?_ _)); exact BK250.out⟩, ⟨by (with_reducible repeat (first | refine blk_drewN ?_ _ | refine blk_drew ?_ | refine blk_alloc ?_ _)); exact BK256.out⟩, ⟨by (with_reducible repeat (first | refine blk_drewN ?_ _ | refine blk_drew ?_ | refine blk_alloc ?_ _)); exact BK262.out⟩, ⟨by repeat (first | (with_reducible first | exact HB.out | apply below_alloc | apply pw_below_drewN | apply below_drew1 | refine below_set ?_ GE233.out | refine below_set ?_ GE238.out | refine below_set ?_ GE244.out | refine below_set ?_ GE250.out | refine below_set ?_ GE256.out | refine below_set ?_ GE262.out) | exact HB.out)⟩⟩
                    · rw [if_neg c166] at H
                      exact absurd H (by simp)
                  · rw [if_neg c165] at H
                    have c165b0 : decide (x17_3 < (x251000_3.length : Int)) = false := decide_eq_false c165
                    clear c165
                    replace H := Option.bind_eq_some_iff.mp H
                    obtain ⟨t268, A1770, H⟩ := H
                    replace H : (if t268 = true then ((rialtolaw12_live.f k3).bind fun t269 => (some t269)) else (some false)) = some r := H
                    have A177 := Aside0.mk A1770
                    clear A1770
                    by_cases c178 : t268 = true
                    · subst c178
                      have H1 : ((rialtolaw12_live.f k3).bind fun t269 => (some t269)) = some r := by rw [if_pos rfl] at H; exact H
                      clear H
                      have H := H1
                      clear H1
                      replace H := Option.bind_eq_some_iff.mp H
                      obtain ⟨t269, A1790, H⟩ := H
                      replace H : (some t269) = some r := H
                      have A179 := Aside0.mk A1790
                      clear A1790
                      obtain rfl := Option.some.inj H
                      have hnb180 := NB250_233.out
                      have hnc180 := NB233_250.out
                      have hnb181 := NB250_238.out
                      have hnc181 := NB238_250.out
                      have hnb182 := NB250_244.out
                      have hnc182 := NB244_250.out
                      have hnb183 := NB250_256.out
                      have hnc183 := NB256_250.out
                      have hnb184 := NB250_262.out
                      have hnc184 := NB262_250.out
                      have hcz185_0 : wr.cell? ⟨gb250, 0, none⟩ = some (u251000) := (blk_cell BK250.out 0).trans rfl
                      have hcz185_1 : wr.cell? ⟨gb250, 1, none⟩ = some (.int .i64 t248) := (blk_cell BK250.out 1).trans rfl
                      have hfz185_0 := blk_frozen BK250.out 0
                      have hfz185_1 := blk_frozen BK250.out 1
                      obtain ⟨Ao186, co186, eo186⟩ := Kd.R_slice HO_251000.out
                      subst eo186
                      have hnb187 := NB238_233.out
                      have hnc187 := NB233_238.out
                      have hnb188 := NB238_244.out
                      have hnc188 := NB244_238.out
                      have hnb189 := NB238_256.out
                      have hnc189 := NB256_238.out
                      have hnb190 := NB238_262.out
                      have hnc190 := NB262_238.out
                      have hcz191_0 : wr.cell? ⟨gb238, 0, none⟩ = some (u239000) := (blk_cell BK238.out 0).trans rfl
                      have hcz191_1 : wr.cell? ⟨gb238, 1, none⟩ = some (.int .i64 t237) := (blk_cell BK238.out 1).trans rfl
                      have hfz191_0 := blk_frozen BK238.out 0
                      have hfz191_1 := blk_frozen BK238.out 1
                      have hnb192 := NB233_244.out
                      have hnc192 := NB244_233.out
                      have hnb193 := NB233_256.out
                      have hnc193 := NB256_233.out
                      have hnb194 := NB233_262.out
                      have hnc194 := NB262_233.out
                      have hcz195_0 : wr.cell? ⟨gb233, 0, none⟩ = some (.slice A0_0 l0_0.length c0_0) := (blk_cell BK233.out 0).trans rfl
                      have hcz195_1 : wr.cell? ⟨gb233, 1, none⟩ = some (.int .i64 a0_1) := (blk_cell BK233.out 1).trans rfl
                      have hfz195_0 := blk_frozen BK233.out 0
                      have hfz195_1 := blk_frozen BK233.out 1
                      obtain ⟨Ao196, co196, eo196⟩ := Kd.R_slice HO_239000.out
                      subst eo196
                      go_wp2_with (first | ((with_reducible refine gate_callee (f := 15) rfl ?_); refine goesL_ (some 100) rfl rfl Try.func15 (by kernel_rfl) rfl #[.agg #[.slice Ao196 x239000_3.length co196, .int .i64 t237], .agg #[.slice A0_0 l0_0.length c0_0, .int .i64 a0_1]] rfl (by (try simp only [List.map_toArray, List.map_cons, List.map_nil]); first | done | rfl | (simp only [List.length_drop, List.length_take]; rfl)) ?_; (with_reducible refine (rialtoref12_Same.calls k3 _ _ x239000_3 t237 _ _ l0_0 a0_1 true _ ?side1 ?side2 ?side3 ?side4 A177.out).mono ?_); (case side1 => repeat (first | exact (Kd.R_reads' HO_239000.out).2.2 | (with_reducible refine Kd.C_alloc ?_ _) | (with_reducible refine Kd.C_drewN ?_ _) | (with_reducible refine Kd.C_drew ?_))); (case side2 => exact (Kd.R_reads' HO_239000.out).2.1); (case side3 => repeat (first | exact (Kd.C_below HR0_0.out HB.out) | (with_reducible refine Kd.C_alloc ?_ _) | (with_reducible refine Kd.C_drewN ?_ _) | (with_reducible refine Kd.C_drew ?_))); (case side4 => exact HC0_0.out); rintro e w197 ⟨rfl, hb⟩; refine ⟨_, rfl, ?_⟩; have n0_ := Aside0.mk (Kd.R_below (by (with_reducible repeat (first | apply Kd.R_alloc | apply Kd.R_drewN | apply Kd.R_drew)); exact HO_239000.out) hb); have n1_ := Aside0.mk (Kd.R_below (by (with_reducible repeat (first | apply Kd.R_alloc | apply Kd.R_drewN | apply Kd.R_drew)); exact HO_245000.out) hb); have n2_ := Aside0.mk (Kd.R_below (by (with_reducible repeat (first | apply Kd.R_alloc | apply Kd.R_drewN | apply Kd.R_drew)); exact HO_251000.out) hb); have n3_ := Aside0.mk (Kd.R_below (by (with_reducible repeat (first | apply Kd.R_alloc | apply Kd.R_drewN | apply Kd.R_drew)); exact HO_257000.out) hb); have n4_ := Aside0.mk (Kd.R_below (by (with_reducible repeat (first | apply Kd.R_alloc | apply Kd.R_drewN | apply Kd.R_drew)); exact HO_263000.out) hb); have n5_ := Aside0.mk (blk_below (g := gb233) (o := .cells #[.slice A0_0 l0_0.length c0_0, .int .i64 a0_1] 24 (0, 0)) (by (with_reducible repeat (first | refine blk_drewN ?_ _ | refine blk_drew ?_ | refine blk_alloc ?_ _)); exact BK233.out) hb); have n6_ := Aside0.mk (blk_below (g := gb238) (o := .cells #[.slice Ao196 x239000_3.length co196, .int .i64 t237] 24 (0, 0)) (by (with_reducible repeat (first | refine blk_drewN ?_ _ | refine blk_drew ?_ | refine blk_alloc ?_ _)); exact BK238.out) hb); have n7_ := Aside0.mk (blk_below (g := gb244) (o := .cells #[u245000, .int .i64 t242] 24 (0, 0)) (by (with_reducible repeat (first | refine blk_drewN ?_ _ | refine blk_drew ?_ | refine blk_alloc ?_ _)); exact BK244.out) hb); have n8_ := Aside0.mk (blk_below (g := gb250) (o := .cells #[.slice Ao186 x251000_3.length co186, .int .i64 t248] 24 (0, 0)) (by (with_reducible repeat (first | refine blk_drewN ?_ _ | refine blk_drew ?_ | refine blk_alloc ?_ _)); exact BK250.out) hb); have n9_ := Aside0.mk (blk_below (g := gb256) (o := .cells #[u257000, .int .i64 t254] 24 (0, 0)) (by (with_reducible repeat (first | refine blk_drewN ?_ _ | refine blk_drew ?_ | refine blk_alloc ?_ _)); exact BK256.out) hb); have n10_ := Aside0.mk (blk_below (g := gb262) (o := .cells #[u263000, .int .i64 t260] 24 (0, 0)) (by (with_reducible repeat (first | refine blk_drewN ?_ _ | refine blk_drew ?_ | refine blk_alloc ?_ _)); exact BK262.out) hb); have n11_ := Aside0.mk (below_step (by repeat (first | (with_reducible first | exact HB.out | apply below_alloc | apply pw_below_drewN | apply below_drew1 | refine below_set ?_ GE233.out | refine below_set ?_ GE238.out | refine below_set ?_ GE244.out | refine below_set ?_ GE250.out | refine below_set ?_ GE256.out | refine below_set ?_ GE262.out) | exact HB.out)) hb); clear HO_239000; clear HO_245000; clear HO_251000; clear HO_257000; clear HO_263000; clear BK233; clear BK238; clear BK244; clear BK250; clear BK256; clear BK262; clear HB; have HO_239000 := n0_; have HO_245000 := n1_; have HO_251000 := n2_; have HO_257000 := n3_; have HO_263000 := n4_; have BK233 := n5_; have BK238 := n6_; have BK244 := n7_; have BK250 := n8_; have BK256 := n9_; have BK262 := n10_; have HB := n11_; clear n0_ n1_ n2_ n3_ n4_ n5_ n6_ n7_ n8_ n9_ n10_ n11_; (try clear hb); (try clear hb2); (try clear hk); (try clear hi)) | (go_at_call 16; (with_reducible refine (rialtolaw12_live.calls k3  t269 _ A179.out).mono ?_); rintro e w198 ⟨rfl, hb⟩; have n0_ := Aside0.mk (Kd.R_below (by (with_reducible repeat (first | apply Kd.R_alloc | apply Kd.R_drewN | apply Kd.R_drew)); exact HO_239000.out) hb); have n1_ := Aside0.mk (Kd.R_below (by (with_reducible repeat (first | apply Kd.R_alloc | apply Kd.R_drewN | apply Kd.R_drew)); exact HO_245000.out) hb); have n2_ := Aside0.mk (Kd.R_below (by (with_reducible repeat (first | apply Kd.R_alloc | apply Kd.R_drewN | apply Kd.R_drew)); exact HO_251000.out) hb); have n3_ := Aside0.mk (Kd.R_below (by (with_reducible repeat (first | apply Kd.R_alloc | apply Kd.R_drewN | apply Kd.R_drew)); exact HO_257000.out) hb); have n4_ := Aside0.mk (Kd.R_below (by (with_reducible repeat (first | apply Kd.R_alloc | apply Kd.R_drewN | apply Kd.R_drew)); exact HO_263000.out) hb); have n5_ := Aside0.mk (blk_below (g := gb233) (o := .cells #[.slice A0_0 l0_0.length c0_0, .int .i64 a0_1] 24 (0, 0)) (by (with_reducible repeat (first | refine blk_drewN ?_ _ | refine blk_drew ?_ | refine blk_alloc ?_ _)); exact BK233.out) hb); have n6_ := Aside0.mk (blk_below (g := gb238) (o := .cells #[.slice Ao196 x239000_3.length co196, .int .i64 t237] 24 (0, 0)) (by (with_reducible repeat (first | refine blk_drewN ?_ _ | refine blk_drew ?_ | refine blk_alloc ?_ _)); exact BK238.out) hb); have n7_ := Aside0.mk (blk_below (g := gb244) (o := .cells #[u245000, .int .i64 t242] 24 (0, 0)) (by (with_reducible repeat (first | refine blk_drewN ?_ _ | refine blk_drew ?_ | refine blk_alloc ?_ _)); exact BK244.out) hb); have n8_ := Aside0.mk (blk_below (g := gb250) (o := .cells #[.slice Ao186 x251000_3.length co186, .int .i64 t248] 24 (0, 0)) (by (with_reducible repeat (first | refine blk_drewN ?_ _ | refine blk_drew ?_ | refine blk_alloc ?_ _)); exact BK250.out) hb); have n9_ := Aside0.mk (blk_below (g := gb256) (o := .cells #[u257000, .int .i64 t254] 24 (0, 0)) (by (with_reducible repeat (first | refine blk_drewN ?_ _ | refine blk_drew ?_ | refine blk_alloc ?_ _)); exact BK256.out) hb); have n10_ := Aside0.mk (blk_below (g := gb262) (o := .cells #[u263000, .int .i64 t260] 24 (0, 0)) (by (with_reducible repeat (first | refine blk_drewN ?_ _ | refine blk_drew ?_ | refine blk_alloc ?_ _)); exact BK262.out) hb); have n11_ := Aside0.mk (below_step (by repeat (first | (with_reducible first | exact HB.out | apply below_alloc | apply pw_below_drewN | apply below_drew1 | refine below_set ?_ GE233.out | refine below_set ?_ GE238.out | refine below_set ?_ GE244.out | refine below_set ?_ GE250.out | refine below_set ?_ GE256.out | refine below_set ?_ GE262.out) | exact HB.out)) hb); clear HO_239000; clear HO_245000; clear HO_251000; clear HO_257000; clear HO_263000; clear BK233; clear BK238; clear BK244; clear BK250; clear BK256; clear BK262; clear HB; have HO_239000 := n0_; have HO_245000 := n1_; have HO_251000 := n2_; have HO_257000 := n3_; have HO_263000 := n4_; have BK233 := n5_; have BK238 := n6_; have BK244 := n7_; have BK250 := n8_; have BK256 := n9_; have BK262 := n10_; have HB := n11_; clear n0_ n1_ n2_ n3_ n4_ n5_ n6_ n7_ n8_ n9_ n10_ n11_; (try clear hb); (try clear hb2); (try clear hk); (try clear hi)))
                      go_ret
                      exact ⟨by first | rfl | (simp [errW_none, errW_some] <;> rfl) | (simp [*, errW_none, errW_some] <;> rfl), by repeat (first | (with_reducible first | exact HB.out | apply below_alloc | apply pw_below_drewN | apply below_drew1 | refine below_set ?_ GE233.out | refine below_set ?_ GE238.out | refine below_set ?_ GE244.out | refine below_set ?_ GE250.out | refine below_set ?_ GE256.out | refine below_set ?_ GE262.out) | exact HB.out)⟩
                    · replace c178 := Bool.eq_false_iff.mpr c178
                      subst c178
                      have H1 : (some false) = some r := by rw [if_neg (show ¬ (false = true) by decide)] at H; exact H
                      clear H
                      have H := H1
                      clear H1
                      obtain rfl := Option.some.inj H
                      have hnb199 := NB250_233.out
                      have hnc199 := NB233_250.out
                      have hnb200 := NB250_238.out
                      have hnc200 := NB238_250.out
                      have hnb201 := NB250_244.out
                      have hnc201 := NB244_250.out
                      have hnb202 := NB250_256.out
                      have hnc202 := NB256_250.out
                      have hnb203 := NB250_262.out
                      have hnc203 := NB262_250.out
                      have hcz204_0 : wr.cell? ⟨gb250, 0, none⟩ = some (u251000) := (blk_cell BK250.out 0).trans rfl
                      have hcz204_1 : wr.cell? ⟨gb250, 1, none⟩ = some (.int .i64 t248) := (blk_cell BK250.out 1).trans rfl
                      have hfz204_0 := blk_frozen BK250.out 0
                      have hfz204_1 := blk_frozen BK250.out 1
                      obtain ⟨Ao205, co205, eo205⟩ := Kd.R_slice HO_251000.out
                      subst eo205
                      have hnb206 := NB238_233.out
                      have hnc206 := NB233_238.out
                      have hnb207 := NB238_244.out
                      have hnc207 := NB244_238.out
                      have hnb208 := NB238_256.out
                      have hnc208 := NB256_238.out
                      have hnb209 := NB238_262.out
                      have hnc209 := NB262_238.out
                      have hcz210_0 : wr.cell? ⟨gb238, 0, none⟩ = some (u239000) := (blk_cell BK238.out 0).trans rfl
                      have hcz210_1 : wr.cell? ⟨gb238, 1, none⟩ = some (.int .i64 t237) := (blk_cell BK238.out 1).trans rfl
                      have hfz210_0 := blk_frozen BK238.out 0
                      have hfz210_1 := blk_frozen BK238.out 1
                      have hnb211 := NB233_244.out
                      have hnc211 := NB244_233.out
                      have hnb212 := NB233_256.out
                      have hnc212 := NB256_233.out
                      have hnb213 := NB233_262.out
                      have hnc213 := NB262_233.out
                      have hcz214_0 : wr.cell? ⟨gb233, 0, none⟩ = some (.slice A0_0 l0_0.length c0_0) := (blk_cell BK233.out 0).trans rfl
                      have hcz214_1 : wr.cell? ⟨gb233, 1, none⟩ = some (.int .i64 a0_1) := (blk_cell BK233.out 1).trans rfl
                      have hfz214_0 := blk_frozen BK233.out 0
                      have hfz214_1 := blk_frozen BK233.out 1
                      obtain ⟨Ao215, co215, eo215⟩ := Kd.R_slice HO_239000.out
                      subst eo215
                      go_wp2_with (first | ((with_reducible refine gate_callee (f := 15) rfl ?_); refine goesL_ (some 100) rfl rfl Try.func15 (by kernel_rfl) rfl #[.agg #[.slice Ao215 x239000_3.length co215, .int .i64 t237], .agg #[.slice A0_0 l0_0.length c0_0, .int .i64 a0_1]] rfl (by (try simp only [List.map_toArray, List.map_cons, List.map_nil]); first | done | rfl | (simp only [List.length_drop, List.length_take]; rfl)) ?_; (with_reducible refine (rialtoref12_Same.calls k3 _ _ x239000_3 t237 _ _ l0_0 a0_1 false _ ?side1 ?side2 ?side3 ?side4 A177.out).mono ?_); (case side1 => repeat (first | exact (Kd.R_reads' HO_239000.out).2.2 | (with_reducible refine Kd.C_alloc ?_ _) | (with_reducible refine Kd.C_drewN ?_ _) | (with_reducible refine Kd.C_drew ?_))); (case side2 => exact (Kd.R_reads' HO_239000.out).2.1); (case side3 => repeat (first | exact (Kd.C_below HR0_0.out HB.out) | (with_reducible refine Kd.C_alloc ?_ _) | (with_reducible refine Kd.C_drewN ?_ _) | (with_reducible refine Kd.C_drew ?_))); (case side4 => exact HC0_0.out); rintro e w216 ⟨rfl, hb⟩; refine ⟨_, rfl, ?_⟩; have n0_ := Aside0.mk (Kd.R_below (by (with_reducible repeat (first | apply Kd.R_alloc | apply Kd.R_drewN | apply Kd.R_drew)); exact HO_239000.out) hb); have n1_ := Aside0.mk (Kd.R_below (by (with_reducible repeat (first | apply Kd.R_alloc | apply Kd.R_drewN | apply Kd.R_drew)); exact HO_245000.out) hb); have n2_ := Aside0.mk (Kd.R_below (by (with_reducible repeat (first | apply Kd.R_alloc | apply Kd.R_drewN | apply Kd.R_drew)); exact HO_251000.out) hb); have n3_ := Aside0.mk (Kd.R_below (by (with_reducible repeat (first | apply Kd.R_alloc | apply Kd.R_drewN | apply Kd.R_drew)); exact HO_257000.out) hb); have n4_ := Aside0.mk (Kd.R_below (by (with_reducible repeat (first | apply Kd.R_alloc | apply Kd.R_drewN | apply Kd.R_drew)); exact HO_263000.out) hb); have n5_ := Aside0.mk (blk_below (g := gb233) (o := .cells #[.slice A0_0 l0_0.length c0_0, .int .i64 a0_1] 24 (0, 0)) (by (with_reducible repeat (first | refine blk_drewN ?_ _ | refine blk_drew ?_ | refine blk_alloc ?_ _)); exact BK233.out) hb); have n6_ := Aside0.mk (blk_below (g := gb238) (o := .cells #[.slice Ao215 x239000_3.length co215, .int .i64 t237] 24 (0, 0)) (by (with_reducible repeat (first | refine blk_drewN ?_ _ | refine blk_drew ?_ | refine blk_alloc ?_ _)); exact BK238.out) hb); have n7_ := Aside0.mk (blk_below (g := gb244) (o := .cells #[u245000, .int .i64 t242] 24 (0, 0)) (by (with_reducible repeat (first | refine blk_drewN ?_ _ | refine blk_drew ?_ | refine blk_alloc ?_ _)); exact BK244.out) hb); have n8_ := Aside0.mk (blk_below (g := gb250) (o := .cells #[.slice Ao205 x251000_3.length co205, .int .i64 t248] 24 (0, 0)) (by (with_reducible repeat (first | refine blk_drewN ?_ _ | refine blk_drew ?_ | refine blk_alloc ?_ _)); exact BK250.out) hb); have n9_ := Aside0.mk (blk_below (g := gb256) (o := .cells #[u257000, .int .i64 t254] 24 (0, 0)) (by (with_reducible repeat (first | refine blk_drewN ?_ _ | refine blk_drew ?_ | refine blk_alloc ?_ _)); exact BK256.out) hb); have n10_ := Aside0.mk (blk_below (g := gb262) (o := .cells #[u263000, .int .i64 t260] 24 (0, 0)) (by (with_reducible repeat (first | refine blk_drewN ?_ _ | refine blk_drew ?_ | refine blk_alloc ?_ _)); exact BK262.out) hb); have n11_ := Aside0.mk (below_step (by repeat (first | (with_reducible first | exact HB.out | apply below_alloc | apply pw_below_drewN | apply below_drew1 | refine below_set ?_ GE233.out | refine below_set ?_ GE238.out | refine below_set ?_ GE244.out | refine below_set ?_ GE250.out | refine below_set ?_ GE256.out | refine below_set ?_ GE262.out) | exact HB.out)) hb); clear HO_239000; clear HO_245000; clear HO_251000; clear HO_257000; clear HO_263000; clear BK233; clear BK238; clear BK244; clear BK250; clear BK256; clear BK262; clear HB; have HO_239000 := n0_; have HO_245000 := n1_; have HO_251000 := n2_; have HO_257000 := n3_; have HO_263000 := n4_; have BK233 := n5_; have BK238 := n6_; have BK244 := n7_; have BK250 := n8_; have BK256 := n9_; have BK262 := n10_; have HB := n11_; clear n0_ n1_ n2_ n3_ n4_ n5_ n6_ n7_ n8_ n9_ n10_ n11_; (try clear hb); (try clear hb2); (try clear hk); (try clear hi)))
                      go_ret
                      exact ⟨by first | rfl | (simp [errW_none, errW_some] <;> rfl) | (simp [*, errW_none, errW_some] <;> rfl), by repeat (first | (with_reducible first | exact HB.out | apply below_alloc | apply pw_below_drewN | apply below_drew1 | refine below_set ?_ GE233.out | refine below_set ?_ GE238.out | refine below_set ?_ GE244.out | refine below_set ?_ GE250.out | refine below_set ?_ GE256.out | refine below_set ?_ GE262.out) | exact HB.out)⟩

open Go.Proofs.YthblegfihenflaaG
def B31 (x : S31) : Prop := ((Lit.int .i64 x.f0).wf = true) ∧ ((Lit.int .i64 x.f1).wf = true)
theorem opens31 : Opens Try.prog k31 31 B31 := opens_struct (g := fun y => (⟨y.1, y.2⟩ : S31)) Try.underlying31 (by kernel_rfl) (fun _ => rfl) (opensL_cons rfl (by kernel_rfl) (opens_int Try.underlying3) (opensL_one rfl (by kernel_rfl) (opens_int Try.underlying3)))
def B24 (x : S24) : Prop := ((x.f0.length * 16 ≤ 140737488351232 ∧ x.f0.length ≤ 9223372036854775807 ∧ ∀ y_ ∈ x.f0, B31 y_)) ∧ ((Lit.int .i64 x.f1).wf = true)
theorem opens24 : Opens Try.prog k24 24 B24 := opens_struct (g := fun y => (⟨y.1, y.2⟩ : S24)) Try.underlying24 (by kernel_rfl) (fun _ => rfl) (opensL_cons rfl (by kernel_rfl) (opens_slice Try.underlying22 (by kernel_rfl) (by kernel_rfl) opens31) (opensL_one rfl (by kernel_rfl) (opens_int Try.underlying3)))
/-- THE PURE STATEMENT of rialtolaw12_LedgerMoves. -/
def rialtolaw12_LedgerMoves.Pure : Prop := ∀ (x0 : S24) (x1 : Int) (x2 : Int), (B24 x0) → ((Lit.int .i64 x1).wf = true) → ((Lit.int .i64 x2).wf = true) → ∃ k, rialtolaw12_LedgerMoves.f k x0.f0 x0.f1 x1 x2 = some true

end Go.Proofs.Ythblegfihenflaa.P
