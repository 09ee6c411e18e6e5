/- Functions that the laws reach, told as plain functions, each with a proof that the call computes it; for every input. Written by a program of ours out of the translation. -/
import Derived.Test.YthblegfihenflaaPx0
import Derived.Test.YthblegfihenflaaPx2
namespace Go.Proofs.Ythblegfihenflaa.P
open Go.RowKit Go.Proofs.YthblegfihenflaaW.PrintWords Go.Proofs.YthblegfihenflaaW.PrintLast Go.Proofs.YthblegfihenflaaW.PrintMore
open Go.Proofs.YthblegfihenflaaG (bk_ bl_ rk_)
attribute [local go_sem] max2_int min2_int max_two min_two max_three min_three max_four min_four   -- for this text's walks alone
set_option linter.unusedVariables false
set_option linter.unusedSimpArgs false

/-! ### ledger_Total: function 22 -/
open Go.Proofs.YthblegfihenflaaG
def tot_add : List S31 → List Int → Option (List Int)
 | [], s => some s
 | x :: r, s => if 0 ≤ x.f0 ∧ x.f0 < 4 then tot_add r (s.set x.f0.toNat (wrap64 (s.getD x.f0.toNat 0 + x.f1))) else none
def tot_out (s : List Int) : Nat → List S31
 | 0 => []
 | j + 1 => if 0 < s.getD (4 - (j + 1)) 0 then (⟨((4 - (j + 1) : Nat) : Int), s.getD (4 - (j + 1)) 0⟩ : S31) :: tot_out s j else tot_out s j
def tot_l (k : Nat) : List S24 → List Int → Option (List S31 × Int)
 | [], s => some (tot_out s 4, 0)
 | a :: r, s => (ledger_Check.f k a.f0 a.f1).bind fun e => if e = 0 then (tot_add a.f0 s).bind (tot_l k r) else some ([], e)
def ledger_Total.f (k : Nat) (l0 : List S24) : Option (List S31 × Int) := if (l0.length : Int) > 1000 then some ([], 120) else tot_l k l0 [0, 0, 0, 0]
theorem tot_l_mono (k : Nat) : ∀ (l : List S24) (s : List Int), LeO (tot_l k l s) (tot_l (k + 1) l s)
 | [], s => LeO.refl _
 | a :: r, s => by
  simp only [tot_l]
  refine LeO.bind (ledger_Check.mono _ _ _) (fun e => ?_)
  refine LeO.ite ?_ (LeO.refl _)
  exact LeO.bind (LeO.refl _) (fun s' => tot_l_mono k r s')
theorem ledger_Total.mono : ∀ a0 k, LeO (ledger_Total.f k a0) (ledger_Total.f (k + 1) a0) := fun l k => by
 unfold ledger_Total.f
 exact LeO.ite (LeO.refl _) (tot_l_mono k l _)
theorem tot_drop {l : List S24} {i : Int} (h0 : 0 ≤ i) (h1 : i < l.length) : l.drop i.toNat = rd_T24 l i :: l.drop (i + 1).toNat := by
 have hi : i.toNat < l.length := by omega
 rw [List.drop_eq_getElem_cons hi]
 congr 1
 ·unfold rd_T24; rw [List.getD_eq_getElem?_getD, List.getElem?_eq_getElem hi]; rfl
 ·congr 1; omega
theorem tot_drop1 {l : List S31} {i : Int} (h0 : 0 ≤ i) (h1 : i < l.length) : l.drop i.toNat = rd_T31 l i :: l.drop (i + 1).toNat := by
 have hi : i.toNat < l.length := by omega
 rw [List.drop_eq_getElem_cons hi]
 congr 1
 ·unfold rd_T31; rw [List.getD_eq_getElem?_getD, List.getElem?_eq_getElem hi]; rfl
 ·congr 1; omega
def cellsI (s : List Int) : Array Value := (s.map (Value.int .i64)).toArray
theorem cellsI_set (s : List Int) (i : Nat) (x : Int) : (cellsI s).setIfInBounds i (.int .i64 x) = cellsI (s.set i x) := by
 unfold cellsI
 rw [List.setIfInBounds_toArray, ← List.map_set]
theorem cellsI_get {s : List Int} {i : Nat} (h : i < s.length) : (cellsI s)[i]? = some (.int .i64 (s.getD i 0)) := by
 unfold cellsI
 simp [List.getElem?_eq_getElem h]
theorem blk_cells2 {w : World} {g : Nat} {t : TypeId} {a b : Value} (h : w.heap[g]? = some (.cells #[a, b] t (0, 0))) : w.cell? ⟨g, 0, none⟩ = some a ∧ w.cell? ⟨g, 1, none⟩ = some b := ⟨(blk_cell h 0).trans rfl, (blk_cell h 1).trans rfl⟩
set_option maxHeartbeats 4000000 in
set_option maxRecDepth 100000 in
theorem ledger_Total.calls (k : Nat) (A0 : Option Addr) (c0 : Nat) (l0 : List (S24)) (r1 : List (S31)) (r2 : Int) (w : World) (hr0 : Kd.C k24 w A0 l0.length l0) (hc0 : l0.length ≤ c0) (h : ledger_Total.f k l0 = some (r1, r2)) :
  Calls Try.prog 22 #[.slice A0 l0.length c0] w fun e w' => ∃ v0_ : Value, e = .returned (.tuple #[v0_, .int .i64 r2]) ∧ Kd.R k31 31 w' w.heap.size (fun _ => True) v0_ r1 ∧ Below w.heap.size w w' := by
 have hu24 := Try.underlying24
 have hu31 := Try.underlying31
 have HR0 := Aside0.mk hr0
 have HC0 := Aside0.mk hc0
 clear hr0 hc0
 have HB := Aside0.mk (Below.refl w.heap.size w)
 unfold ledger_Total.f at h
 by_cases c2 : (l0.length : Int) > 1000
 ·rw [if_pos c2] at h
  have c2b0 : decide (1000 < (l0.length : Int)) = true := decide_eq_true c2
  have c2b1 : decide (1000 < l0.length) = true := decide_eq_true (by omega)
  clear c2
  simp only [Option.some.injEq, Prod.mk.injEq] at h
  obtain ⟨rfl, rfl⟩ := h
  go_enter Try.func22, Try.ntmps22
  go_wp2
  go_ret2
  exact ⟨_, rfl, Kd.R_nil _ _ _ _ _, by exact bl_ HB.out⟩
 ·rw [if_neg c2] at h
  have c2b0 : decide (1000 < (l0.length : Int)) = false := decide_eq_false c2
  have c2b1 : decide (1000 < l0.length) = false := decide_eq_false (by omega)
  have HL := Aside0.mk (show l0.length ≤ 1000 by omega)
  clear c2
  have H' := Aside0.mk h
  clear h
  go_enter Try.func22, Try.ntmps22
  go_wp2
  generalize hg0 : w.heap.size = g0
  have HG0 := Aside0.mk hg0
  have HBK := Aside0.mk (show (w.alloc (.cells #[.int .i64 0, .int .i64 0, .int .i64 0, .int .i64 0] 57)).heap[g0]? = some (.cells (cellsI [0, 0, 0, 0]) 57 (0, 0)) from hg0 ▸ blk_new w _)
  have HBA := Aside0.mk (show Below w.heap.size w (w.alloc (.cells #[.int .i64 0, .int .i64 0, .int .i64 0, .int .i64 0] 57)) from below_alloc (Below.refl _ _) _)
  clear hg0
  go_loopg [18] l0.length (fun kq v18 w' => ∃ (x : Int) (s : List Int), v18 = .int .i64 x ∧ Aside0 (0 ≤ x ∧ x + kq = l0.length) ∧ Aside0 (tot_l k (l0.drop x.toNat) s = some (r1, r2)) ∧ Aside0 (s.length = 4) ∧ Aside0 (w'.heap[g0]? = some (.cells (cellsI s) 57 (0, 0))) ∧ Aside0 (Below w.heap.size w w'))
  case atStart => exact ⟨0, [0, 0, 0, 0], rfl, ⟨by omega⟩, H', ⟨rfl⟩, HBK, HBA⟩
  case round =>
   clear H' HBK HBA HB
   obtain ⟨x, s, rfl, HX, H', HS, HBK, HB⟩ := hrel
   obtain ⟨hx0, hx1⟩ := HX.out
   by_cases c3 : x < (l0.length : Int)
   ·have c3b0 : decide (x < (l0.length : Int)) = true := decide_eq_true c3
    obtain ⟨ad, A1, c1, e1, hx_0, hx_1, hl_0, hi_0⟩ := at_T24 HR0.out x hx0 c3
    have H := H'.out
    rw [tot_drop hx0 c3] at H
    simp only [tot_l] at H
    obtain ⟨t, ht, H⟩ := Option.bind_eq_some_iff.1 H
    clear H'
    have HT := Aside0.mk ht
    cases e1
    replace hx_0 := (HB.out.cell (World.block_lt_of_cell? w _ hx_0)).trans hx_0
    replace hx_1 := (HB.out.cell (World.block_lt_of_cell? w _ hx_1)).trans hx_1
    have HR1 := Aside0.mk hi_0
    have HC1 := Aside0.mk hl_0
    have HXG := HX
    clear HX
    have HX := Aside0.mk (And.intro hx0 c3)
    have hL := HL.out
    clear hi_0 hl_0 ht
    replace hx0 := eq_true hx0
    replace c3 := eq_true c3
    clear hx1
    clear hx0 c3
    have hx0 := HX.out.1
    have c3 := HX.out.2
    go_wp2_with fail
    have n0_ := Aside0.mk (below_alloc HB.out (.cells #[.slice A1 (rd_T24 l0 x).f0.length c1, .int .i64 (rd_T24 l0 x).f1] 24))
    have n1_ := Aside0.mk (blk_alloc HBK.out (.cells #[.slice A1 (rd_T24 l0 x).f0.length c1, .int .i64 (rd_T24 l0 x).f1] 24))
    have n2_ := Kd.C_below (Kd.C_below HR1.out HB.out) (below_alloc (Below.refl _ _) (.cells #[.slice A1 (rd_T24 l0 x).f0.length c1, .int .i64 (rd_T24 l0 x).f1] 24))
    refine (ledger_Check.calls k _ _ (rd_T24 l0 x).f0 (rd_T24 l0 x).f1 t _ n2_ HC1.out HT.out).mono ?_
    clear hx_0 hx_1 HBK
    rintro e w7 ⟨rfl, hb⟩
    have HBK := Aside0.mk (blk_below n1_.out hb)
    have HBB := Aside0.mk (below_step n0_.out hb)
    have n3_ := blk_cells2 (blk_below (blk_new wr (.cells #[.slice A1 (rd_T24 l0 x).f0.length c1, .int .i64 (rd_T24 l0 x).f1] 24)) hb)
    obtain ⟨hc6_0, hc6_1⟩ := n3_
    clear n0_ n1_ n2_ hb HB HT
    by_cases ct : t = 0
    ·rw [if_pos ct] at H
     have ctb : (t != 0) = false := bne_eq_false_iff_eq.mpr ct
     clear ct
     have H' := Aside0.mk H
     clear H
     go_wp2
     go_loopg [30] (rd_T24 l0 x).f0.length (fun kq v30 w' => ∃ (y : Int) (s' : List Int), v30 = .int .i64 y ∧ Aside0 (0 ≤ y ∧ y + kq = (rd_T24 l0 x).f0.length) ∧ Aside0 ((tot_add ((rd_T24 l0 x).f0.drop y.toNat) s').bind (tot_l k (l0.drop (x + 1).toNat)) = some (r1, r2)) ∧ Aside0 (s'.length = 4) ∧ Aside0 (w'.heap[g0]? = some (.cells (cellsI s') 57 (0, 0))) ∧ Aside0 (Below w.heap.size w w'))
     case atStart => exact ⟨0, s, rfl, ⟨by omega⟩, H', HS, HBK, HBB⟩
     case round =>
      clear H' HS HBK HBB hc6_0 hc6_1
      obtain ⟨y, s', rfl, HY, H', HS, HBK, HB⟩ := hrel
      obtain ⟨hy0, hy1⟩ := HY.out
      by_cases c4 : y < ((rd_T24 l0 x).f0.length : Int)
      ·have c4b0 : decide (y < ((rd_T24 l0 x).f0.length : Int)) = true := decide_eq_true c4
       obtain ⟨ad2, e2, hz_0, hz_1⟩ := at_T31 (Kd.C_below HR1.out HB.out) y hy0 c4
       have H := H'.out
       rw [tot_drop1 hy0 c4] at H
       simp only [tot_add] at H
       clear H'
       by_cases hin : 0 ≤ (rd_T31 (rd_T24 l0 x).f0 y).f0 ∧ (rd_T31 (rd_T24 l0 x).f0 y).f0 < 4
       ·rw [if_pos hin] at H
        have H' := Aside0.mk H
        clear H
        cases e2
        obtain ⟨hin0, hin1⟩ := hin
        generalize hq : rd_T31 (rd_T24 l0 x).f0 y = q at hin0 hin1 hz_0 hz_1 H'
        clear hq
        have hm := HR1.out.2.1
        go_wp2_with fail
        obtain ⟨gb, hgb⟩ : ∃ gb, gb = wr.heap.size := ⟨_, rfl⟩
        have h9 : (wr.alloc (.cells #[.int .i64 q.f0, .int .i64 q.f1] 31)).heap[gb]? = some (.cells #[.int .i64 q.f0, .int .i64 q.f1] 31 (0, 0)) := hgb ▸ blk_new _ _
        have h8 := blk_alloc HBK.out (.cells #[.int .i64 q.f0, .int .i64 q.f1] 31)
        have h7 := below_alloc HB.out (.cells #[.int .i64 q.f0, .int .i64 q.f1] 31)
        rw [← hgb]
        clear hz_0 hz_1 hgb
        generalize wr.alloc (.cells #[.int .i64 q.f0, .int .i64 q.f1] 31) = wb at h7 h8 h9 ⊢
        have B8 := Aside0.mk h8
        have B7 := Aside0.mk h7
        have hcell : wb.cell? ⟨g0, q.f0.toNat, none⟩ = some (.int .i64 (s'.getD q.f0.toNat 0)) := (blk_cell h8 _).trans (cellsI_get (by have := HS.out; omega))
        have hfz : wb.frozen? ⟨g0, q.f0.toNat, none⟩ = false := blk_frozen h8 _
        obtain ⟨hb0, hb1⟩ := blk_cells2 h9
        clear h7 h8 h9
        go_region
        have hyb : y + 1 ≤ 9223372036854775807 := by omega
        go_wp2
        go_roundg ((rd_T24 l0 x).f0.length - (y + 1).toNat)
        case measure => omega
        case rel =>
         have hlt : q.f0.toNat < s'.length := by have := HS.out; omega
         exact ⟨y + 1, s'.set q.f0.toNat (wrap64 (s'.getD q.f0.toNat 0 + q.f1)), rfl, ⟨by omega⟩, H', ⟨by rw [List.length_set]; exact HS.out⟩,
          ⟨blk_put (show (wb.drew).heap[g0]? = _ from B8.out) _ _ (by rw [← List.getD_eq_getElem?_getD, cellsI_set])⟩, ⟨(below_drew (below_set B7.out (Nat.le_of_eq HG0.out)))⟩⟩
       ·rw [if_neg hin] at H
        cases H
      ·have c4b0 : decide (y < ((rd_T24 l0 x).f0.length : Int)) = false := decide_eq_false c4
       have H' := Aside0.mk (show tot_l k (l0.drop (x + 1).toNat) s' = some (r1, r2) by have H := H'.out; rw [List.drop_eq_nil_of_le (by omega)] at H; exact H)
       clear c4
       go_wp2
       go_roundg (l0.length - (x + 1).toNat)
       case measure => have := HX.out; have := HXG.out; omega
       case rel => exact ⟨x + 1, s', rfl, ⟨by have := HX.out; omega⟩, H', HS, HBK, HB⟩
    ·rw [if_neg ct] at H
     have ctb : (t != 0) = true := bne_iff_ne.mpr ct
     clear ct
     simp only [Option.some.injEq, Prod.mk.injEq] at H
     obtain ⟨rfl, rfl⟩ := H
     go_wp2
     go_ret2
     exact ⟨_, rfl, Kd.R_nil _ _ _ _ _, HBB.out⟩
   ·have c3b0 : decide (x < (l0.length : Int)) = false := decide_eq_false c3
    have H := H'.out
    rw [List.drop_eq_nil_of_le (by omega)] at H
    simp only [tot_l, Option.some.injEq, Prod.mk.injEq] at H
    obtain ⟨H, rfl⟩ := H
    obtain ⟨a, b, c, d, rfl⟩ : ∃ a b c d, s = [a, b, c, d] := by
     have := HS.out
     match s, this with
     | [a, b, c, d], _ => exact ⟨a, b, c, d, rfl⟩
    have hq0 : wr.cell? ⟨g0, 0, none⟩ = some (.int .i64 a) := (blk_cell HBK.out 0).trans rfl
    have hq1 : wr.cell? ⟨g0, 1, none⟩ = some (.int .i64 b) := (blk_cell HBK.out 1).trans rfl
    have hq2 : wr.cell? ⟨g0, 2, none⟩ = some (.int .i64 c) := (blk_cell HBK.out 2).trans rfl
    have hq3 : wr.cell? ⟨g0, 3, none⟩ = some (.int .i64 d) := (blk_cell HBK.out 3).trans rfl
    have H' := Aside0.mk H
    clear H c3 HX hx0 hx1
    go_wp2
    go_loopg [10, 45] 4 (fun kq v10 v45 w' => ∃ (y : Nat) (acc : List S31), v45 = .int .i64 (y : Int) ∧ Aside0 (y + kq = 4) ∧ Aside0 (acc ++ tot_out [a, b, c, d] kq = r1) ∧ Aside0 (acc.length ≤ y) ∧ Aside0 (Kd.R k31 31 w' w.heap.size (fun _ => True) v10 acc) ∧ Aside0 (Below w.heap.size w w'))
    case atStart => exact ⟨0, [], rfl, ⟨rfl⟩, H', ⟨Nat.le_refl _⟩, ⟨Kd.R_nil _ _ _ _ _⟩, HB⟩
    case round =>
     clear H' HB HBK hq0 hq1 hq2 hq3
     obtain ⟨y, acc, rfl, HY, H', HA, HO, HB⟩ := hrel
     have hy := HY.out
     obtain rfl | hgk : gk = 0 ∨ 0 < gk := by omega
     ·obtain rfl : y = 4 := by omega
      have hr : acc = r1 := by have := H'.out; simpa [tot_out] using this
      subst hr
      clear hy
      go_wp2
      go_ret2
      exact ⟨_, rfl, HO.out, HB.out⟩
     ·obtain ⟨m, rfl⟩ : ∃ m, gk = m + 1 := ⟨gk - 1, by omega⟩
      obtain ⟨n, hn⟩ : ∃ n, n = [a, b, c, d].getD y 0 := ⟨_, rfl⟩
      have h4 : 4 - (m + 1) = y := by omega
      have hidx : ∀ W : World, (Instr.index 57 (.agg #[.int .i64 a, .int .i64 b, .int .i64 c, .int .i64 d]) (.int .i64 (y : Int))).run Try.prog W = .ok (.int .i64 n) W := by
       subst hn
       obtain rfl | rfl | rfl | rfl : y = 0 ∨ y = 1 ∨ y = 2 ∨ y = 3 := by omega
       ·intro W; kernel_rfl
       ·intro W; kernel_rfl
       ·intro W; kernel_rfl
       ·intro W; kernel_rfl
      have hlt : decide ((y : Int) < 4) = true := decide_eq_true (by omega)
      have hy3 : y ≤ 3 := by omega
      have H := H'.out
      simp only [tot_out, h4, ← hn] at H
      have hx := hidx wr
      clear hidx hn hy h4 H'
      by_cases hpos : 0 < n
      ·rw [if_pos hpos] at H
       have H' := Aside0.mk H
       clear H
       have hposb : decide (0 < n) = true := decide_eq_true hpos
       clear hpos
       go_wp2_with (first | ((with_reducible refine gate_builtin (b := .append) (xs := #[.tmp 51, .tmp 55]) rfl ?_); at_builtin; refine Kd.R_append k31 (w0 := w) w.heap.size rfl (.tmp 51) (.tmp 55) 22 31 (.agg #[(.int .i64 0), (.int .i64 0)]) 16 rfl Try.underlying22 info31 rfl (by decide) (by omega) _ acc (⟨(y : Int), n⟩ : S31) [.int .i64 (y : Int), .int .i64 n] (fun _ => True) (fun _ => False) rfl rfl ?aP (fun _ hk => hk.elim) ?aF ?aO ?aB ?aS ?aL ?_; (case aP => exact k31_mkM _ _ _ (⟨(y : Int), n⟩ : S31)); (case aB => exact (by exact bl_ HB.out)); (case aF => exact (fun _ _ => trivial)); (case aO => exact (by exact rk_ HO.out)); (case aS => exact (below_size (by exact bl_ HB.out))); (case aL => have := HA.out; omega); intro v202 w16 ho hb hg hat; have n0_ := Aside0.mk (hb); have n1_ := Aside0.mk (ho); clear HB; clear HO; have HB := n0_; have HO := n1_; clear n0_ n1_; clear ho hb hg hat))
       go_roundg m
       case measure => omega
       case rel => exact ⟨y + 1, acc ++ [(⟨(y : Int), n⟩ : S31)], by go_num, ⟨by have := HY.out; omega⟩, ⟨by rw [List.append_assoc]; exact H'.out⟩, ⟨by have := HA.out; rw [List.length_append]; simp; omega⟩, HO, HB⟩
      ·rw [if_neg hpos] at H
       have H' := Aside0.mk H
       have hposb : decide (0 < n) = false := decide_eq_false hpos
       clear H
       go_wp2
       go_roundg m
       case measure => omega
       case rel => exact ⟨y + 1, acc, by go_num, ⟨by have := HY.out; omega⟩, H', ⟨by have := HA.out; omega⟩, HO, HB⟩

end Go.Proofs.Ythblegfihenflaa.P
