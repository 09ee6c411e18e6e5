/- Functions that the laws reach, told as plain functions, each with a proof that the call computes it; for every input. Written by a program of ours out of the translation. -/
import Derived.Test.YthblegfihenflaaPx0
import Derived.Test.YthblegfihenflaaPx9
import Derived.Test.YthblegfihenflaaPx11
import Derived.Test.YthblegfihenflaaPx12
import Derived.Test.YthblegfihenflaaPx13
import Derived.Test.YthblegfihenflaaPx14
namespace Go.Proofs.Ythblegfihenflaa.P
open Go.RowKit Go.Proofs.YthblegfihenflaaW.PrintWords Go.Proofs.YthblegfihenflaaW.PrintLast Go.Proofs.YthblegfihenflaaW.PrintMore
open Go.Proofs.YthblegfihenflaaG (bk_ bl_ rk_)
attribute [local go_sem] max2_int min2_int max_two min_two max_three min_three max_four min_four   -- for this text's walks alone
set_option linter.unusedVariables false
set_option linter.unusedSimpArgs false

/-! ### rialtolaw12_LedgerKeeps: function 9 -/
open Go.Proofs.YthblegfihenflaaG
def rialtolaw12_LedgerKeeps.f (k : Nat) (l0_0 : List S31) (a0_1 : Int) (l0_2 : List S31) (a0_3 : Int) (a0_4 : Int) (a0_5 : Int) : Option Bool :=
 (ledger_Debit.f k l0_0 a0_1 a0_4 a0_5).bind fun x => (ledger_Credit.f k l0_2 a0_3 a0_4 a0_5).bind fun y =>
  if x.2.2 = 0 ∧ y.2.2 = 0 then (ledger_Total.f k [⟨l0_0, a0_1⟩, ⟨l0_2, a0_3⟩]).bind fun was => (ledger_Total.f k [⟨x.1, x.2.1⟩, ⟨y.1, y.2.1⟩]).bind fun now =>
   if was.2 = 0 then if now.2 = 0 then (rialtoref12_SameAmounts.f k was.1 now.1).bind fun s => if s = true then rialtolaw12_live.f k else some false else some false else some false
  else rialtolaw12_live.f k
theorem rialtolaw12_LedgerKeeps.mono : ∀ a0 a1 a2 a3 a4 a5 k, LeO (rialtolaw12_LedgerKeeps.f k a0 a1 a2 a3 a4 a5) (rialtolaw12_LedgerKeeps.f (k + 1) a0 a1 a2 a3 a4 a5) := by
 intro a0 a1 a2 a3 a4 a5 k
 unfold rialtolaw12_LedgerKeeps.f
 refine LeO.bind (ledger_Debit.mono _ _ _ _ _) (fun x => LeO.bind (ledger_Credit.mono _ _ _ _ _) (fun y => LeO.ite ?_ (rialtolaw12_live.mono _)))
 refine LeO.bind (ledger_Total.mono _ _) (fun was => LeO.bind (ledger_Total.mono _ _) (fun now => LeO.ite (LeO.ite (LeO.bind (rialtoref12_SameAmounts.mono _ _ _) (fun s => LeO.ite (rialtolaw12_live.mono _) (LeO.refl _))) (LeO.refl _)) (LeO.refl _)))
theorem two_C {W : World} {g : Nat} {t : TypeId} {A A' : Option Addr} {c c' : Nat} {a b : S24} (h : W.heap[g]? = some (.cells #[.slice A a.f0.length c, .int .i64 a.f1, .slice A' b.f0.length c', .int .i64 b.f1] t (0, 0)))
  (l : a.f0.length ≤ c) (l' : b.f0.length ≤ c') (r : Kd.C k31 W A a.f0.length a.f0) (r' : Kd.C k31 W A' b.f0.length b.f0) : Kd.C k24 W (some ⟨g, 0, none⟩) [a, b].length [a, b] := by
 refine ⟨rfl, by simp, fun _ => ⟨_, rfl, fun j p hj => ?_⟩⟩
 match j, hj with
 | 0, hj =>
  cases hj
  refine ⟨_, rfl, k24_mk W a l r, fun i u hu => ?_⟩
  have h1 := blk_cell h i
  match i, hu with
  | 0, hu => exact h1.trans (by cases hu; rfl)
  | 1, hu => exact h1.trans (by cases hu; rfl)
 | 1, hj =>
  cases hj
  refine ⟨_, rfl, k24_mk W b l' r', fun i u hu => ?_⟩
  have h1 := blk_cell h (2 + i)
  match i, hu with
  | 0, hu => exact h1.trans (by cases hu; rfl)
  | 1, hu => exact h1.trans (by cases hu; rfl)
set_option maxHeartbeats 4000000 in
set_option maxRecDepth 100000 in
theorem rialtolaw12_LedgerKeeps.calls (k : Nat) (A0_0 : Option Addr) (c0_0 : Nat) (l0_0 : List (S31)) (a0_1 : Int) (A0_2 : Option Addr) (c0_2 : Nat) (l0_2 : List (S31)) (a0_3 : Int) (a0_4 : Int) (a0_5 : Int) (r : Bool) (w : World) (hr0_0 : Kd.C k31 w A0_0 l0_0.length l0_0) (hc0_0 : l0_0.length ≤ c0_0) (hr0_2 : Kd.C k31 w A0_2 l0_2.length l0_2) (hc0_2 : l0_2.length ≤ c0_2) (h : rialtolaw12_LedgerKeeps.f k l0_0 a0_1 l0_2 a0_3 a0_4 a0_5 = some r) :
  Calls Try.prog 9 #[.agg #[.slice A0_0 l0_0.length c0_0, .int .i64 a0_1, .slice A0_2 l0_2.length c0_2, .int .i64 a0_3, .int .i64 a0_4, .int .i64 a0_5]] w fun e w' => e = .returned (.bool r) ∧ Below w.heap.size w w' := by
 have hu24 := Try.underlying24
 have HR0 := Aside0.mk hr0_0
 have HC0 := Aside0.mk hc0_0
 have HR2 := Aside0.mk hr0_2
 have HC2 := Aside0.mk hc0_2
 clear hr0_0 hc0_0 hr0_2 hc0_2
 have HB := Aside0.mk (Below.refl w.heap.size w)
 have H := h
 clear h
 unfold rialtolaw12_LedgerKeeps.f at H
 obtain ⟨⟨x0, x1, x2⟩, hx, H1⟩ := Option.bind_eq_some_iff.1 H
 obtain ⟨⟨y0, y1, y2⟩, hy, H2⟩ := Option.bind_eq_some_iff.1 H1
 have HX := Aside0.mk hx
 have HY := Aside0.mk hy
 have H' := Aside0.mk H2
 clear H H1 H2 hx hy
 go_enter Try.func9, Try.ntmps9
 go_wp2
 go_cut [3, 4, 5, 6] (fun v3 v4 v5 v6 wc => ∃ g3 g4 : Nat, v3 = .pointer (some ⟨g3, 0, none⟩) ∧ v4 = .pointer (some ⟨g4, 0, none⟩) ∧ v5 = .int .i64 a0_4 ∧ v6 = .int .i64 a0_5 ∧ Aside0 (wc.heap[g3]? = some (.cells #[.slice A0_0 l0_0.length c0_0, .int .i64 a0_1] 24 (0, 0))) ∧ Aside0 (wc.heap[g4]? = some (.cells #[.slice A0_2 l0_2.length c0_2, .int .i64 a0_3] 24 (0, 0))) ∧ Aside0 (Below w.heap.size w wc))
 case first =>
  go_region
  ·go_wp2
   go_meet
   case rel =>
    refine ⟨_, _, rfl, rfl, rfl, rfl, ⟨?_⟩, ⟨?_⟩, ⟨below_drew (below_alloc (below_alloc (below_alloc (Below.refl _ _) _) _) _)⟩⟩
    ·exact blk_drew (blk_alloc (by have := blk_new (w.alloc (.cells #[.slice A0_0 l0_0.length c0_0, .int .i64 a0_1, .slice A0_2 l0_2.length c0_2, .int .i64 a0_3, .int .i64 a0_4, .int .i64 a0_5] 47)) (.cells #[.slice A0_0 l0_0.length c0_0, .int .i64 a0_1] 24); simpa using this) _)
    ·exact blk_drew (by have := blk_new ((w.alloc (.cells #[.slice A0_0 l0_0.length c0_0, .int .i64 a0_1, .slice A0_2 l0_2.length c0_2, .int .i64 a0_3, .int .i64 a0_4, .int .i64 a0_5] 47)).alloc (.cells #[.slice A0_0 l0_0.length c0_0, .int .i64 a0_1] 24)) (.cells #[.slice A0_2 l0_2.length c0_2, .int .i64 a0_3] 24); simpa using this)
  ·go_wp2
   go_meet
   case rel =>
    refine ⟨_, _, rfl, rfl, rfl, rfl, ⟨?_⟩, ⟨?_⟩, ⟨below_drew (below_alloc (below_alloc (below_alloc (Below.refl _ _) _) _) _)⟩⟩
    ·exact blk_drew (by have := blk_new ((w.alloc (.cells #[.slice A0_0 l0_0.length c0_0, .int .i64 a0_1, .slice A0_2 l0_2.length c0_2, .int .i64 a0_3, .int .i64 a0_4, .int .i64 a0_5] 47)).alloc (.cells #[.slice A0_2 l0_2.length c0_2, .int .i64 a0_3] 24)) (.cells #[.slice A0_0 l0_0.length c0_0, .int .i64 a0_1] 24); simpa using this)
    ·exact blk_drew (blk_alloc (by have := blk_new (w.alloc (.cells #[.slice A0_0 l0_0.length c0_0, .int .i64 a0_1, .slice A0_2 l0_2.length c0_2, .int .i64 a0_3, .int .i64 a0_4, .int .i64 a0_5] 47)) (.cells #[.slice A0_2 l0_2.length c0_2, .int .i64 a0_3] 24); simpa using this) _)
 case rest =>
  clear HB
  obtain ⟨g3, g4, rfl, rfl, rfl, rfl, BK3, BK4, HB⟩ := hcut
  obtain ⟨h30, h31⟩ := blk_cells2 BK3.out
  go_wp2_with fail
  refine (ledger_Debit.calls k _ _ l0_0 a0_1 a0_4 a0_5 x0 x1 x2 _ (Kd.C_below HR0.out HB.out) HC0.out HX.out).mono ?_
  rintro e w7 ⟨v7, rfl, ho7, hb⟩
  obtain ⟨A7, c7, rfl, hl7, hC7⟩ := Kd.R_reads ho7
  have n0_ := Aside0.mk (below_step HB.out hb)
  have n1_ := Aside0.mk (blk_below BK3.out hb)
  have n2_ := Aside0.mk (blk_below BK4.out hb)
  have R7 := Aside0.mk hC7
  have L7 := Aside0.mk hl7
  clear h30 h31 BK3 BK4 HB hb hl7 hC7 ho7 HX
  have HB := n0_
  have BK3 := n1_
  have BK4 := n2_
  clear n0_ n1_ n2_
  have n1_ := Aside0.mk (blk_alloc BK3.out (.cells #[.slice A7 x0.length c7, .int .i64 x1] 24))
  have n2_ := Aside0.mk (blk_alloc BK4.out (.cells #[.slice A7 x0.length c7, .int .i64 x1] 24))
  have n3_ := Aside0.mk (blk_new w7 (.cells #[.slice A7 x0.length c7, .int .i64 x1] 24))
  have n4_ := Aside0.mk (below_alloc HB.out (.cells #[.slice A7 x0.length c7, .int .i64 x1] 24))
  have n5_ := Aside0.mk (Kd.C_below R7.out (below_alloc (Below.refl _ _) (.cells #[.slice A7 x0.length c7, .int .i64 x1] 24)))
  clear BK3 BK4 HB R7
  have BK3 := n1_
  have BK4 := n2_
  have BK7 := n3_
  have HB := n4_
  have R7 := n5_
  clear n1_ n2_ n3_ n4_ n5_
  obtain ⟨h40, h41⟩ := blk_cells2 BK4.out
  go_wp2_with fail
  refine (ledger_Credit.calls k _ _ l0_2 a0_3 a0_4 a0_5 y0 y1 y2 _ (Kd.C_below HR2.out HB.out) HC2.out HY.out).mono ?_
  clear h40 h41 HY
  obtain ⟨g7, hg7⟩ : ∃ g7, g7 = w7.heap.size := ⟨_, rfl⟩
  rw [← hg7] at BK7 ⊢
  clear hg7
  generalize w7.alloc (.cells #[.slice A7 x0.length c7, .int .i64 x1] 24) = wb at BK3 BK4 BK7 HB R7 ⊢
  rintro e w9 ⟨v9, rfl, ho9, hb⟩
  obtain ⟨A9, c9, rfl, hl9, hC9⟩ := Kd.R_reads ho9
  have n0_ := Aside0.mk (below_alloc (below_step HB.out hb) (.cells #[.slice A9 y0.length c9, .int .i64 y1] 24))
  have n1_ := Aside0.mk (blk_alloc (blk_below BK3.out hb) (.cells #[.slice A9 y0.length c9, .int .i64 y1] 24))
  have n2_ := Aside0.mk (blk_alloc (blk_below BK4.out hb) (.cells #[.slice A9 y0.length c9, .int .i64 y1] 24))
  have n3_ := Aside0.mk (blk_alloc (blk_below BK7.out hb) (.cells #[.slice A9 y0.length c9, .int .i64 y1] 24))
  have n4_ := Aside0.mk (blk_new w9 (.cells #[.slice A9 y0.length c9, .int .i64 y1] 24))
  have n5_ := Aside0.mk (Kd.C_below (Kd.C_below R7.out hb) (below_alloc (Below.refl _ _) (.cells #[.slice A9 y0.length c9, .int .i64 y1] 24)))
  have n6_ := Aside0.mk (Kd.C_below hC9 (below_alloc (Below.refl _ _) (.cells #[.slice A9 y0.length c9, .int .i64 y1] 24)))
  have L9 := Aside0.mk hl9
  clear BK3 BK4 BK7 HB R7 hb ho9 hC9 hl9
  by_cases hxy : x2 = 0 ∧ y2 = 0
  ·have H := H'.out
   rw [if_pos hxy] at H
   obtain ⟨rfl, rfl⟩ := hxy
   obtain ⟨⟨s0, s1⟩, hs, H1⟩ := Option.bind_eq_some_iff.1 H
   obtain ⟨⟨t0, t1⟩, ht, H2⟩ := Option.bind_eq_some_iff.1 H1
   have HS := Aside0.mk hs
   have HT := Aside0.mk ht
   clear H' hs ht H H1
   have H' := Aside0.mk H2
   clear H2
   have BK3 := n1_
   have BK4 := n2_
   have BK7 := n3_
   have BK9 := n4_
   have HB := n0_
   have R7 := n5_
   have R9 := n6_
   clear n0_ n1_ n2_ n3_ n4_ n5_ n6_
   obtain ⟨h30, h31⟩ := blk_cells2 BK3.out
   obtain ⟨h40, h41⟩ := blk_cells2 BK4.out
   go_wp2_with fail
   obtain ⟨w5, hw5⟩ : ∃ w5, w5 = (w9.alloc (.cells #[.slice A9 y0.length c9, .int .i64 y1] 24)).alloc (.cells #[.slice A0_0 l0_0.length c0_0, .int .i64 a0_1, .slice A0_2 l0_2.length c0_2, .int .i64 a0_3] 24) := ⟨_, rfl⟩
   have n0_ := below_alloc HB.out (.cells #[.slice A0_0 l0_0.length c0_0, .int .i64 a0_1, .slice A0_2 l0_2.length c0_2, .int .i64 a0_3] 24)
   have n7_ := blk_alloc BK7.out (.cells #[.slice A0_0 l0_0.length c0_0, .int .i64 a0_1, .slice A0_2 l0_2.length c0_2, .int .i64 a0_3] 24)
   have n9_ := blk_alloc BK9.out (.cells #[.slice A0_0 l0_0.length c0_0, .int .i64 a0_1, .slice A0_2 l0_2.length c0_2, .int .i64 a0_3] 24)
   have n5_ := blk_new (w9.alloc (.cells #[.slice A9 y0.length c9, .int .i64 y1] 24)) (.cells #[.slice A0_0 l0_0.length c0_0, .int .i64 a0_1, .slice A0_2 l0_2.length c0_2, .int .i64 a0_3] 24)
   have m7_ := Kd.C_below R7.out (below_alloc (Below.refl _ _) (.cells #[.slice A0_0 l0_0.length c0_0, .int .i64 a0_1, .slice A0_2 l0_2.length c0_2, .int .i64 a0_3] 24))
   have m9_ := Kd.C_below R9.out (below_alloc (Below.refl _ _) (.cells #[.slice A0_0 l0_0.length c0_0, .int .i64 a0_1, .slice A0_2 l0_2.length c0_2, .int .i64 a0_3] 24))
   rw [show (w9.alloc (.cells #[.slice A9 y0.length c9, .int .i64 y1] 24)).heap.size = w9.heap.size + 1 by simp] at n5_
   obtain ⟨g9, hg9⟩ : ∃ g9, g9 = w9.heap.size := ⟨_, rfl⟩
   rw [← hw5] at n0_ n7_ n9_ n5_ m7_ m9_ ⊢
   rw [← hg9] at n5_ n9_ ⊢
   have N0 := Aside0.mk n0_
   have N7 := Aside0.mk n7_
   have N9 := Aside0.mk n9_
   have M7 := Aside0.mk m7_
   have M9 := Aside0.mk m9_
   clear BK3 BK4 BK7 BK9 HB R7 R9 h30 h31 h40 h41 hw5 hg9 n0_ n7_ n9_ m7_ m9_
   refine (ledger_Total.calls k (some ⟨g9 + 1, 0, none⟩) 2 [⟨l0_0, a0_1⟩, ⟨l0_2, a0_3⟩] s0 s1 _ (two_C n5_ HC0.out HC2.out (Kd.C_below HR0.out N0.out) (Kd.C_below HR2.out N0.out)) (Nat.le_refl _) HS.out).mono ?_
   clear n5_
   rintro e w6 ⟨v6, rfl, ho6, hb⟩
   obtain ⟨A6, c6, rfl, hl6, hC6⟩ := Kd.R_reads ho6
   have HB := Aside0.mk (below_step N0.out hb)
   have BK7 := Aside0.mk (blk_below N7.out hb)
   have BK9 := Aside0.mk (blk_below N9.out hb)
   have R7 := Aside0.mk (Kd.C_below M7.out hb)
   have R9 := Aside0.mk (Kd.C_below M9.out hb)
   have R6 := Aside0.mk hC6
   have L6 := Aside0.mk hl6
   clear N0 N7 N9 M7 M9 hb hC6 hl6 ho6 HS
   obtain ⟨h70, h71⟩ := blk_cells2 BK7.out
   obtain ⟨h90, h91⟩ := blk_cells2 BK9.out
   go_wp2_with fail
   have n0_ := below_alloc HB.out (.cells #[.slice A7 x0.length c7, .int .i64 x1, .slice A9 y0.length c9, .int .i64 y1] 24)
   have n5_ := blk_new w6 (.cells #[.slice A7 x0.length c7, .int .i64 x1, .slice A9 y0.length c9, .int .i64 y1] 24)
   have m7_ := Kd.C_below R7.out (below_alloc (Below.refl _ _) (.cells #[.slice A7 x0.length c7, .int .i64 x1, .slice A9 y0.length c9, .int .i64 y1] 24))
   have m9_ := Kd.C_below R9.out (below_alloc (Below.refl _ _) (.cells #[.slice A7 x0.length c7, .int .i64 x1, .slice A9 y0.length c9, .int .i64 y1] 24))
   have m6_ := Kd.C_below R6.out (below_alloc (Below.refl _ _) (.cells #[.slice A7 x0.length c7, .int .i64 x1, .slice A9 y0.length c9, .int .i64 y1] 24))
   have N0 := Aside0.mk n0_
   have M6 := Aside0.mk m6_
   clear h70 h71 h90 h91 n0_ m6_ HB BK7 BK9 R7 R9 R6
   refine (ledger_Total.calls k (some ⟨w6.heap.size, 0, none⟩) 2 [⟨x0, x1⟩, ⟨y0, y1⟩] t0 t1 _ (two_C n5_ L7.out L9.out m7_ m9_) (Nat.le_refl _) HT.out).mono ?_
   clear n5_ m7_ m9_ HT L7 L9
   rintro e w8 ⟨v8, rfl, ho8, hb⟩
   obtain ⟨A8, c8, rfl, hl8, hC8⟩ := Kd.R_reads ho8
   have HB := Aside0.mk (below_step N0.out hb)
   have R6 := Aside0.mk (Kd.C_below M6.out hb)
   have R8 := Aside0.mk hC8
   have L8 := Aside0.mk hl8
   clear N0 M6 hb hC8 hl8 ho8
   have H := H'.out
   clear H'
   by_cases hs1 : s1 = 0
   ·subst hs1
    rw [if_pos rfl] at H
    by_cases ht1 : t1 = 0
    ·subst ht1
     rw [if_pos rfl] at H
     obtain ⟨q, hq, H1⟩ := Option.bind_eq_some_iff.1 H
     have HQ := Aside0.mk hq
     clear hq H
     by_cases hq1 : q = true
     ·subst hq1
      rw [if_pos rfl] at H1
      have H' := Aside0.mk H1
      clear H1
      go_wp2_with fail
      refine (rialtoref12_SameAmounts.calls k _ _ s0 _ _ t0 true _ R6.out L6.out R8.out L8.out HQ.out).mono ?_
      clear HQ R6 R8 L6 L8
      rintro e w' ⟨rfl, nd, rfl⟩
      go_wp2_with fail
      refine (rialtolaw12_live.calls k r _ H'.out).mono ?_
      rintro e w' ⟨rfl, hb⟩
      have n7_ := Aside0.mk (below_step (pw_below_drewN HB.out nd) hb)
      clear hb HB
      go_wp2
      go_ret
      exact ⟨rfl, n7_.out⟩
     ·have hqf : q = false := by cases q <;> simp_all
      subst hqf
      clear hq1
      rw [if_neg (by decide)] at H1
      obtain rfl : r = false := (Option.some.inj H1).symm
      clear H1
      go_wp2_with fail
      refine (rialtoref12_SameAmounts.calls k _ _ s0 _ _ t0 false _ R6.out L6.out R8.out L8.out HQ.out).mono ?_
      clear HQ R6 R8 L6 L8
      rintro e w' ⟨rfl, nd, rfl⟩
      have n7_ := Aside0.mk (pw_below_drewN HB.out nd)
      clear HB
      go_wp2
      go_ret
      exact ⟨rfl, n7_.out⟩
    ·rw [if_neg ht1] at H
     obtain rfl : r = false := (Option.some.inj H).symm
     have ht1b : (t1 == 0) = false := beq_eq_false_iff_ne.mpr ht1
     clear H ht1
     go_wp2
     go_ret
     exact ⟨rfl, HB.out⟩
   ·rw [if_neg hs1] at H
    obtain rfl : r = false := (Option.some.inj H).symm
    have hs1b : (s1 == 0) = false := beq_eq_false_iff_ne.mpr hs1
    clear H hs1
    go_wp2
    go_ret
    exact ⟨rfl, HB.out⟩
  ·have H := H'.out
   rw [if_neg hxy] at H
   clear H'
   have H' := Aside0.mk H
   clear H
   have hx2 : x2 = 0 ∨ x2 ≠ 0 := by omega
   rcases hx2 with rfl | hx2
   ·have hy2 : (y2 != 0) = true := bne_iff_ne.mpr (fun e => hxy ⟨rfl, e⟩)
    clear hxy
    go_wp2_with fail
    refine (rialtolaw12_live.calls k r _ H'.out).mono ?_
    rintro e w' ⟨rfl, hb⟩
    have n7_ := Aside0.mk (below_step n0_.out hb)
    clear hb n0_ n1_ n2_ n3_ n4_ n5_ n6_
    go_wp2
    go_ret
    exact ⟨rfl, n7_.out⟩
   ·have hx2 : (x2 != 0) = true := bne_iff_ne.mpr hx2
    clear hxy
    go_wp2_with fail
    refine (rialtolaw12_live.calls k r _ H'.out).mono ?_
    rintro e w' ⟨rfl, hb⟩
    have n7_ := Aside0.mk (below_step n0_.out hb)
    clear hb n0_ n1_ n2_ n3_ n4_ n5_ n6_
    go_wp2
    go_ret
    exact ⟨rfl, n7_.out⟩

open Go.Proofs.YthblegfihenflaaG
def B31 (x : S31) : Prop := ((Lit.int .i64 x.f0).wf = true) ∧ ((Lit.int .i64 x.f1).wf = true)
theorem opens31 : Opens Try.prog k31 31 B31 := opens_struct (g := fun y => (⟨y.1, y.2⟩ : S31)) Try.underlying31 (by kernel_rfl) (fun _ => rfl) (opensL_cons rfl (by kernel_rfl) (opens_int Try.underlying3) (opensL_one rfl (by kernel_rfl) (opens_int Try.underlying3)))
def B24 (x : S24) : Prop := ((x.f0.length * 16 ≤ 140737488351232 ∧ x.f0.length ≤ 9223372036854775807 ∧ ∀ y_ ∈ x.f0, B31 y_)) ∧ ((Lit.int .i64 x.f1).wf = true)
theorem opens24 : Opens Try.prog k24 24 B24 := opens_struct (g := fun y => (⟨y.1, y.2⟩ : S24)) Try.underlying24 (by kernel_rfl) (fun _ => rfl) (opensL_cons rfl (by kernel_rfl) (opens_slice Try.underlying22 (by kernel_rfl) (by kernel_rfl) opens31) (opensL_one rfl (by kernel_rfl) (opens_int Try.underlying3)))
def B47 (x : S47) : Prop := (B24 x.f0) ∧ (B24 x.f1) ∧ ((Lit.int .i64 x.f2).wf = true) ∧ ((Lit.int .i64 x.f3).wf = true)
theorem opens47 : Opens Try.prog k47 47 B47 := opens_struct (g := fun y => (⟨y.1, y.2.1, y.2.2.1, y.2.2.2⟩ : S47)) Try.underlying47 (by kernel_rfl) (fun _ => rfl) (opensL_cons rfl (by kernel_rfl) opens24 (opensL_cons rfl (by kernel_rfl) opens24 (opensL_cons rfl (by kernel_rfl) (opens_int Try.underlying3) (opensL_one rfl (by kernel_rfl) (opens_int Try.underlying3)))))
/-- THE PURE STATEMENT of rialtolaw12_LedgerKeeps. -/
def rialtolaw12_LedgerKeeps.Pure : Prop := ∀ (x0 : S47), (B47 x0) → ∃ k, rialtolaw12_LedgerKeeps.f k x0.f0.f0 x0.f0.f1 x0.f1.f0 x0.f1.f1 x0.f2 x0.f3 = some true

end Go.Proofs.Ythblegfihenflaa.P
