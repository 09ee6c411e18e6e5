/- Functions that the laws reach, told as plain functions, each with a proof that the call computes it; for every input. Written by a program of ours out of the translation. -/
import Derived.Test.YthblegfihenflaaPx0
namespace Go.Proofs.Ythblegfihenflaa.P
open Go.RowKit Go.Proofs.YthblegfihenflaaW.PrintWords Go.Proofs.YthblegfihenflaaW.PrintLast Go.Proofs.YthblegfihenflaaW.PrintMore
open Go.Proofs.YthblegfihenflaaG (bk_ bl_ rk_)
attribute [local go_sem] max2_int min2_int max_two min_two max_three min_three max_four min_four   -- for this text's walks alone
set_option linter.unusedVariables false
set_option linter.unusedSimpArgs false

/-! ### rialtoref12_Amounts: function 30 -/
def rialtoref12_Amounts.l0 : Nat → List (S31) → Int → Option (Bool)
 | 0, _, _ => none
 | k + 1, x0, x3 => if x3 < (x0.length : Int) then (if 0 ≤ x3 then (if ((rd_T31 x0 x3).f0) < 0 then (some false) else (if ((rd_T31 x0 x3).f0) > 3 then (some false) else (if ((rd_T31 x0 x3).f1) < 1 then (some false) else (if ((rd_T31 x0 x3).f1) > 9007199254740992 then (some false) else (if x3 > 0 then (if 0 ≤ (wrap64 (x3 - 1)) then (if (wrap64 (x3 - 1)) < (x0.length : Int) then (if ((rd_T31 x0 (wrap64 (x3 - 1))).f0) ≥ ((rd_T31 x0 x3).f0) then (some false) else (rialtoref12_Amounts.l0 k x0 (wrap64 (x3 + 1)))) else (none)) else (none)) else (rialtoref12_Amounts.l0 k x0 (wrap64 (x3 + 1)))))))) else (none)) else (some true)
def rialtoref12_Amounts.f (k : Nat) (l0 : List (S31)) : Option (Bool) := rialtoref12_Amounts.l0 k l0 0
theorem rialtoref12_Amounts.mono_l : ∀ k, (∀ y0 y1, LeO (rialtoref12_Amounts.l0 k y0 y1) (rialtoref12_Amounts.l0 (k + 1) y0 y1))
 | 0 => fun _ _ r h => by simp [rialtoref12_Amounts.l0] at h
 | k + 1 => by
  have ih0 := rialtoref12_Amounts.mono_l k
  ·intro y0 y1
   unfold rialtoref12_Amounts.l0
   repeat' first
   | (with_reducible exact ih0 _ _)
   | (with_reducible exact LeO.refl _)
   | (with_reducible exact LeO.none _)
   | (with_reducible refine LeO.ite ?_ ?_)
   | (with_reducible refine LeO.bind ?_ (fun _ => ?_))
   | exact ih0 _ _
   | exact LeO.none _
   | refine LeO.ite ?_ ?_
   | refine LeO.bind ?_ (fun _ => ?_)
theorem rialtoref12_Amounts.mono : ∀ a0 k, LeO (rialtoref12_Amounts.f k a0) (rialtoref12_Amounts.f (k + 1) a0) := by
 intro a0 k
 have ih0 := rialtoref12_Amounts.mono_l k
 unfold rialtoref12_Amounts.f
 repeat' first
   | (with_reducible exact ih0 _ _)
   | (with_reducible exact LeO.refl _)
   | (with_reducible exact LeO.none _)
   | (with_reducible refine LeO.ite ?_ ?_)
   | (with_reducible refine LeO.bind ?_ (fun _ => ?_))
   | exact ih0 _ _
   | exact LeO.none _
   | refine LeO.ite ?_ ?_
   | refine LeO.bind ?_ (fun _ => ?_)
set_option maxHeartbeats 8000000 in
set_option maxRecDepth 100000 in
theorem rialtoref12_Amounts.calls (k : Nat) (A0 : Option Addr) (c0 : Nat) (l0 : List (S31)) (r : Bool) (w : World) (hr0 : Kd.C k31 w A0 l0.length l0) (hc0 : l0.length ≤ c0) (h : rialtoref12_Amounts.f k l0 = some r) :
  Calls Try.prog 30 #[.slice A0 l0.length c0] w fun e w' => e = .returned (.bool r) ∧ Drawn0 w w' := by
 have HR0 := Aside0.mk hr0
 have HC0 := Aside0.mk hc0
 clear hr0 hc0
 have H : (rialtoref12_Amounts.l0 k l0 0) = some r := h
 clear h
 have H' := Aside0.mk H
 clear H
 go_enter Try.func30, Try.ntmps30
 go_wp2
 repeat (go_quiet (fail); try go_wp2)
 go_loopg [3] k (fun kq v3 w' => ∃ (x3_1 : Int), v3 = .int .i64 x3_1 ∧ Aside0 (rialtoref12_Amounts.l0 kq l0 x3_1 = some r) ∧ Aside0 (kq ≤ k) ∧ Drawn0 w w')
 case atStart => exact ⟨(0), (by first | rfl | (simp; done) | (simp [*]; done)), H', ⟨Nat.le_refl _⟩, by repeat (first | exact Drawn0.refl _ | apply Drawn0.step)⟩
 case round =>
  clear H'
  obtain ⟨x3_1, rfl, HA, HK1, ⟨m1, rfl⟩⟩ := hrel
  cases gk with
  | zero => exact absurd HA.out (by simp [rialtoref12_Amounts.l0])
  | succ k1 =>
   have H := HA.out
   clear HA
   simp only [rialtoref12_Amounts.l0] at H
   by_cases c2 : x3_1 < (l0.length : Int)
   ·rw [if_pos c2] at H
    have c2b0 : decide (x3_1 < (l0.length : Int)) = true := decide_eq_true c2
    clear c2
    by_cases c3 : 0 ≤ x3_1
    ·rw [if_pos c3] at H
     have c3b0 : decide (0 ≤ x3_1) = true := decide_eq_true c3
     clear c3
     by_cases c4 : ((rd_T31 l0 x3_1).f0) < 0
     ·rw [if_pos c4] at H
      have c4b0 : decide (((rd_T31 l0 x3_1).f0) < 0) = true := decide_eq_true c4
      clear c4
      obtain rfl := Option.some.inj H
      have p184 : 0 ≤ (x3_1 : Int) := of_decide_eq_true (by first | (with_reducible assumption) | assumption)
      have q184 : x3_1 < (l0.length : Int) := of_decide_eq_true (by first | (with_reducible assumption) | assumption)
      obtain ⟨ad184, e184, hx184_0, hx184_1⟩ := at_T31 HR0.out x3_1 p184 q184
      cases e184
      replace p184 := eq_true p184
      replace q184 := eq_true q184
      go_wp2
      repeat (go_quiet (fail); try go_wp2)
      go_ret
      exact ⟨by first | rfl | (simp; done) | (simp [*]; done), by repeat (first | exact Drawn0.refl _ | apply Drawn0.step)⟩
     ·rw [if_neg c4] at H
      have c4b0 : decide (((rd_T31 l0 x3_1).f0) < 0) = false := decide_eq_false c4
      clear c4
      by_cases c5 : ((rd_T31 l0 x3_1).f0) > 3
      ·rw [if_pos c5] at H
       have c5b0 : decide (3 < ((rd_T31 l0 x3_1).f0)) = true := decide_eq_true c5
       clear c5
       obtain rfl := Option.some.inj H
       have p184 : 0 ≤ (x3_1 : Int) := of_decide_eq_true (by first | (with_reducible assumption) | assumption)
       have q184 : x3_1 < (l0.length : Int) := of_decide_eq_true (by first | (with_reducible assumption) | assumption)
       obtain ⟨ad184, e184, hx184_0, hx184_1⟩ := at_T31 HR0.out x3_1 p184 q184
       cases e184
       replace p184 := eq_true p184
       replace q184 := eq_true q184
       have p185 : 0 ≤ (x3_1 : Int) := of_decide_eq_true (by first | (with_reducible assumption) | assumption)
       have q185 : x3_1 < (l0.length : Int) := of_decide_eq_true (by first | (with_reducible assumption) | assumption)
       obtain ⟨ad185, e185, hx185_0, hx185_1⟩ := at_T31 HR0.out x3_1 p185 q185
       obtain rfl : ad184 = ad185 := (by injection e185)
       replace p185 := eq_true p185
       replace q185 := eq_true q185
       go_wp2
       repeat (go_quiet (fail); try go_wp2)
       go_ret
       exact ⟨by first | rfl | (simp; done) | (simp [*]; done), by repeat (first | exact Drawn0.refl _ | apply Drawn0.step)⟩
      ·rw [if_neg c5] at H
       have c5b0 : decide (3 < ((rd_T31 l0 x3_1).f0)) = false := decide_eq_false c5
       clear c5
       by_cases c6 : ((rd_T31 l0 x3_1).f1) < 1
       ·rw [if_pos c6] at H
        have c6b0 : decide (((rd_T31 l0 x3_1).f1) < 1) = true := decide_eq_true c6
        clear c6
        obtain rfl := Option.some.inj H
        have p184 : 0 ≤ (x3_1 : Int) := of_decide_eq_true (by first | (with_reducible assumption) | assumption)
        have q184 : x3_1 < (l0.length : Int) := of_decide_eq_true (by first | (with_reducible assumption) | assumption)
        obtain ⟨ad184, e184, hx184_0, hx184_1⟩ := at_T31 HR0.out x3_1 p184 q184
        cases e184
        replace p184 := eq_true p184
        replace q184 := eq_true q184
        have p185 : 0 ≤ (x3_1 : Int) := of_decide_eq_true (by first | (with_reducible assumption) | assumption)
        have q185 : x3_1 < (l0.length : Int) := of_decide_eq_true (by first | (with_reducible assumption) | assumption)
        obtain ⟨ad185, e185, hx185_0, hx185_1⟩ := at_T31 HR0.out x3_1 p185 q185
        obtain rfl : ad184 = ad185 := (by injection e185)
        replace p185 := eq_true p185
        replace q185 := eq_true q185
        have p186 : 0 ≤ (x3_1 : Int) := of_decide_eq_true (by first | (with_reducible assumption) | assumption)
        have q186 : x3_1 < (l0.length : Int) := of_decide_eq_true (by first | (with_reducible assumption) | assumption)
        obtain ⟨ad186, e186, hx186_0, hx186_1⟩ := at_T31 HR0.out x3_1 p186 q186
        obtain rfl : ad184 = ad186 := (by injection e186)
        replace p186 := eq_true p186
        replace q186 := eq_true q186
        go_wp2
        repeat (go_quiet (fail); try go_wp2)
        go_ret
        exact ⟨by first | rfl | (simp; done) | (simp [*]; done), by repeat (first | exact Drawn0.refl _ | apply Drawn0.step)⟩
       ·rw [if_neg c6] at H
        have c6b0 : decide (((rd_T31 l0 x3_1).f1) < 1) = false := decide_eq_false c6
        clear c6
        by_cases c7 : ((rd_T31 l0 x3_1).f1) > 9007199254740992
        ·rw [if_pos c7] at H
         have c7b0 : decide (9007199254740992 < ((rd_T31 l0 x3_1).f1)) = true := decide_eq_true c7
         clear c7
         obtain rfl := Option.some.inj H
         have p184 : 0 ≤ (x3_1 : Int) := of_decide_eq_true (by first | (with_reducible assumption) | assumption)
         have q184 : x3_1 < (l0.length : Int) := of_decide_eq_true (by first | (with_reducible assumption) | assumption)
         obtain ⟨ad184, e184, hx184_0, hx184_1⟩ := at_T31 HR0.out x3_1 p184 q184
         cases e184
         replace p184 := eq_true p184
         replace q184 := eq_true q184
         have p185 : 0 ≤ (x3_1 : Int) := of_decide_eq_true (by first | (with_reducible assumption) | assumption)
         have q185 : x3_1 < (l0.length : Int) := of_decide_eq_true (by first | (with_reducible assumption) | assumption)
         obtain ⟨ad185, e185, hx185_0, hx185_1⟩ := at_T31 HR0.out x3_1 p185 q185
         obtain rfl : ad184 = ad185 := (by injection e185)
         replace p185 := eq_true p185
         replace q185 := eq_true q185
         have p186 : 0 ≤ (x3_1 : Int) := of_decide_eq_true (by first | (with_reducible assumption) | assumption)
         have q186 : x3_1 < (l0.length : Int) := of_decide_eq_true (by first | (with_reducible assumption) | assumption)
         obtain ⟨ad186, e186, hx186_0, hx186_1⟩ := at_T31 HR0.out x3_1 p186 q186
         obtain rfl : ad184 = ad186 := (by injection e186)
         replace p186 := eq_true p186
         replace q186 := eq_true q186
         have p187 : 0 ≤ (x3_1 : Int) := of_decide_eq_true (by first | (with_reducible assumption) | assumption)
         have q187 : x3_1 < (l0.length : Int) := of_decide_eq_true (by first | (with_reducible assumption) | assumption)
         obtain ⟨ad187, e187, hx187_0, hx187_1⟩ := at_T31 HR0.out x3_1 p187 q187
         obtain rfl : ad184 = ad187 := (by injection e187)
         replace p187 := eq_true p187
         replace q187 := eq_true q187
         go_wp2
         repeat (go_quiet (fail); try go_wp2)
         go_ret
         exact ⟨by first | rfl | (simp; done) | (simp [*]; done), by repeat (first | exact Drawn0.refl _ | apply Drawn0.step)⟩
        ·rw [if_neg c7] at H
         have c7b0 : decide (9007199254740992 < ((rd_T31 l0 x3_1).f1)) = false := decide_eq_false c7
         clear c7
         by_cases c8 : x3_1 > 0
         ·rw [if_pos c8] at H
          have c8b0 : decide (0 < x3_1) = true := decide_eq_true c8
          clear c8
          obtain ⟨ji9, hji9⟩ : ∃ j_ : Int, (wrap64 (x3_1 - 1)) = j_ := ⟨_, rfl⟩
          replace H : (if 0 ≤ (ji9) then (if (ji9) < (l0.length : Int) then (if ((rd_T31 l0 (ji9)).f0) ≥ ((rd_T31 l0 x3_1).f0) then (some false) else (rialtoref12_Amounts.l0 k1 l0 (wrap64 (x3_1 + 1)))) else (none)) else (none)) = some r := by first | (rw [hji9] at H; exact H) | (simp only [hji9] at H ⊢; exact H)
          have hji9w : (IntKind.i64.wrap (x3_1 - 1)) = ji9 := (i64_w _).trans hji9
          by_cases c10 : 0 ≤ (ji9)
          ·rw [if_pos c10] at H
           have c10b0 : decide (0 ≤ (ji9)) = true := decide_eq_true c10
           clear c10
           by_cases c11 : (ji9) < (l0.length : Int)
           ·rw [if_pos c11] at H
            have c11b0 : decide ((ji9) < (l0.length : Int)) = true := decide_eq_true c11
            clear c11
            by_cases c12 : ((rd_T31 l0 (ji9)).f0) ≥ ((rd_T31 l0 x3_1).f0)
            ·rw [if_pos c12] at H
             have c12b0 : decide (((rd_T31 l0 x3_1).f0) ≤ ((rd_T31 l0 (ji9)).f0)) = true := decide_eq_true c12
             clear c12
             obtain rfl := Option.some.inj H
             have p184 : 0 ≤ (x3_1 : Int) := of_decide_eq_true (by first | (with_reducible assumption) | assumption)
             have q184 : x3_1 < (l0.length : Int) := of_decide_eq_true (by first | (with_reducible assumption) | assumption)
             obtain ⟨ad184, e184, hx184_0, hx184_1⟩ := at_T31 HR0.out x3_1 p184 q184
             cases e184
             replace p184 := eq_true p184
             replace q184 := eq_true q184
             have p185 : 0 ≤ (x3_1 : Int) := of_decide_eq_true (by first | (with_reducible assumption) | assumption)
             have q185 : x3_1 < (l0.length : Int) := of_decide_eq_true (by first | (with_reducible assumption) | assumption)
             obtain ⟨ad185, e185, hx185_0, hx185_1⟩ := at_T31 HR0.out x3_1 p185 q185
             obtain rfl : ad184 = ad185 := (by injection e185)
             replace p185 := eq_true p185
             replace q185 := eq_true q185
             have p186 : 0 ≤ (x3_1 : Int) := of_decide_eq_true (by first | (with_reducible assumption) | assumption)
             have q186 : x3_1 < (l0.length : Int) := of_decide_eq_true (by first | (with_reducible assumption) | assumption)
             obtain ⟨ad186, e186, hx186_0, hx186_1⟩ := at_T31 HR0.out x3_1 p186 q186
             obtain rfl : ad184 = ad186 := (by injection e186)
             replace p186 := eq_true p186
             replace q186 := eq_true q186
             have p187 : 0 ≤ (x3_1 : Int) := of_decide_eq_true (by first | (with_reducible assumption) | assumption)
             have q187 : x3_1 < (l0.length : Int) := of_decide_eq_true (by first | (with_reducible assumption) | assumption)
             obtain ⟨ad187, e187, hx187_0, hx187_1⟩ := at_T31 HR0.out x3_1 p187 q187
             obtain rfl : ad184 = ad187 := (by injection e187)
             replace p187 := eq_true p187
             replace q187 := eq_true q187
             have p188 : 0 ≤ ((ji9) : Int) := of_decide_eq_true (by first | (with_reducible assumption) | assumption)
             have q188 : (ji9) < (l0.length : Int) := of_decide_eq_true (by first | (with_reducible assumption) | assumption)
             obtain ⟨ad188, e188, hx188_0, hx188_1⟩ := at_T31 HR0.out (ji9) p188 q188
             obtain rfl : ad184 = ad188 := (by injection e188)
             replace p188 := eq_true p188
             replace q188 := eq_true q188
             have p189 : 0 ≤ (x3_1 : Int) := of_decide_eq_true (by first | (with_reducible assumption) | assumption)
             have q189 : x3_1 < (l0.length : Int) := of_decide_eq_true (by first | (with_reducible assumption) | assumption)
             obtain ⟨ad189, e189, hx189_0, hx189_1⟩ := at_T31 HR0.out x3_1 p189 q189
             obtain rfl : ad184 = ad189 := (by injection e189)
             replace p189 := eq_true p189
             replace q189 := eq_true q189
             go_wp2
             repeat (go_quiet (fail); try go_wp2)
             go_ret
             exact ⟨by first | rfl | (simp; done) | (simp only [← hji9] <;> (first | rfl | simp)) | (simp [*]; done), by repeat (first | exact Drawn0.refl _ | apply Drawn0.step)⟩
            ·rw [if_neg c12] at H
             have c12b0 : decide (((rd_T31 l0 x3_1).f0) ≤ ((rd_T31 l0 (ji9)).f0)) = false := decide_eq_false c12
             clear c12
             have H' := Aside0.mk H
             clear H
             have p184 : 0 ≤ (x3_1 : Int) := of_decide_eq_true (by first | (with_reducible assumption) | assumption)
             have q184 : x3_1 < (l0.length : Int) := of_decide_eq_true (by first | (with_reducible assumption) | assumption)
             obtain ⟨ad184, e184, hx184_0, hx184_1⟩ := at_T31 HR0.out x3_1 p184 q184
             cases e184
             replace p184 := eq_true p184
             replace q184 := eq_true q184
             have p185 : 0 ≤ (x3_1 : Int) := of_decide_eq_true (by first | (with_reducible assumption) | assumption)
             have q185 : x3_1 < (l0.length : Int) := of_decide_eq_true (by first | (with_reducible assumption) | assumption)
             obtain ⟨ad185, e185, hx185_0, hx185_1⟩ := at_T31 HR0.out x3_1 p185 q185
             obtain rfl : ad184 = ad185 := (by injection e185)
             replace p185 := eq_true p185
             replace q185 := eq_true q185
             have p186 : 0 ≤ (x3_1 : Int) := of_decide_eq_true (by first | (with_reducible assumption) | assumption)
             have q186 : x3_1 < (l0.length : Int) := of_decide_eq_true (by first | (with_reducible assumption) | assumption)
             obtain ⟨ad186, e186, hx186_0, hx186_1⟩ := at_T31 HR0.out x3_1 p186 q186
             obtain rfl : ad184 = ad186 := (by injection e186)
             replace p186 := eq_true p186
             replace q186 := eq_true q186
             have p187 : 0 ≤ (x3_1 : Int) := of_decide_eq_true (by first | (with_reducible assumption) | assumption)
             have q187 : x3_1 < (l0.length : Int) := of_decide_eq_true (by first | (with_reducible assumption) | assumption)
             obtain ⟨ad187, e187, hx187_0, hx187_1⟩ := at_T31 HR0.out x3_1 p187 q187
             obtain rfl : ad184 = ad187 := (by injection e187)
             replace p187 := eq_true p187
             replace q187 := eq_true q187
             have p188 : 0 ≤ ((ji9) : Int) := of_decide_eq_true (by first | (with_reducible assumption) | assumption)
             have q188 : (ji9) < (l0.length : Int) := of_decide_eq_true (by first | (with_reducible assumption) | assumption)
             obtain ⟨ad188, e188, hx188_0, hx188_1⟩ := at_T31 HR0.out (ji9) p188 q188
             obtain rfl : ad184 = ad188 := (by injection e188)
             replace p188 := eq_true p188
             replace q188 := eq_true q188
             have p189 : 0 ≤ (x3_1 : Int) := of_decide_eq_true (by first | (with_reducible assumption) | assumption)
             have q189 : x3_1 < (l0.length : Int) := of_decide_eq_true (by first | (with_reducible assumption) | assumption)
             obtain ⟨ad189, e189, hx189_0, hx189_1⟩ := at_T31 HR0.out x3_1 p189 q189
             obtain rfl : ad184 = ad189 := (by injection e189)
             replace p189 := eq_true p189
             replace q189 := eq_true q189
             go_wp2
             repeat (go_quiet (fail); try go_wp2)
             go_roundg k1
             case measure => have := HK1.out; omega
             case rel => exact ⟨(wrap64 (x3_1 + 1)), (by first | rfl | (simp; done) | (simp [*]; done)), H', ⟨by have := HK1.out; omega⟩, by repeat (first | exact Drawn0.refl _ | apply Drawn0.step)⟩
           ·rw [if_neg c11] at H
            exact absurd H (by simp)
          ·rw [if_neg c10] at H
           exact absurd H (by simp)
         ·rw [if_neg c8] at H
          have c8b0 : decide (0 < x3_1) = false := decide_eq_false c8
          clear c8
          have H' := Aside0.mk H
          clear H
          have p184 : 0 ≤ (x3_1 : Int) := of_decide_eq_true (by first | (with_reducible assumption) | assumption)
          have q184 : x3_1 < (l0.length : Int) := of_decide_eq_true (by first | (with_reducible assumption) | assumption)
          obtain ⟨ad184, e184, hx184_0, hx184_1⟩ := at_T31 HR0.out x3_1 p184 q184
          cases e184
          replace p184 := eq_true p184
          replace q184 := eq_true q184
          have p185 : 0 ≤ (x3_1 : Int) := of_decide_eq_true (by first | (with_reducible assumption) | assumption)
          have q185 : x3_1 < (l0.length : Int) := of_decide_eq_true (by first | (with_reducible assumption) | assumption)
          obtain ⟨ad185, e185, hx185_0, hx185_1⟩ := at_T31 HR0.out x3_1 p185 q185
          obtain rfl : ad184 = ad185 := (by injection e185)
          replace p185 := eq_true p185
          replace q185 := eq_true q185
          have p186 : 0 ≤ (x3_1 : Int) := of_decide_eq_true (by first | (with_reducible assumption) | assumption)
          have q186 : x3_1 < (l0.length : Int) := of_decide_eq_true (by first | (with_reducible assumption) | assumption)
          obtain ⟨ad186, e186, hx186_0, hx186_1⟩ := at_T31 HR0.out x3_1 p186 q186
          obtain rfl : ad184 = ad186 := (by injection e186)
          replace p186 := eq_true p186
          replace q186 := eq_true q186
          have p187 : 0 ≤ (x3_1 : Int) := of_decide_eq_true (by first | (with_reducible assumption) | assumption)
          have q187 : x3_1 < (l0.length : Int) := of_decide_eq_true (by first | (with_reducible assumption) | assumption)
          obtain ⟨ad187, e187, hx187_0, hx187_1⟩ := at_T31 HR0.out x3_1 p187 q187
          obtain rfl : ad184 = ad187 := (by injection e187)
          replace p187 := eq_true p187
          replace q187 := eq_true q187
          go_wp2
          repeat (go_quiet (fail); try go_wp2)
          go_roundg k1
          case measure => have := HK1.out; omega
          case rel => exact ⟨(wrap64 (x3_1 + 1)), (by first | rfl | (simp; done) | (simp [*]; done)), H', ⟨by have := HK1.out; omega⟩, by repeat (first | exact Drawn0.refl _ | apply Drawn0.step)⟩
    ·rw [if_neg c3] at H
     exact absurd H (by simp)
   ·rw [if_neg c2] at H
    have c2b0 : decide (x3_1 < (l0.length : Int)) = false := decide_eq_false c2
    clear c2
    obtain rfl := Option.some.inj H
    go_wp2
    repeat (go_quiet (fail); try go_wp2)
    go_ret
    exact ⟨by first | rfl | (simp; done) | (simp [*]; done), by repeat (first | exact Drawn0.refl _ | apply Drawn0.step)⟩

end Go.Proofs.Ythblegfihenflaa.P
