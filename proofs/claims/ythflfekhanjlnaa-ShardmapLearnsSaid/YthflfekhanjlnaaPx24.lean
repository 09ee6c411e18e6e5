/- Functions that the laws reach, told as plain functions, each with a proof that the call computes it; for every input. Written by a program of ours out of the translation. -/
import Derived.Test.YthflfekhanjlnaaPx0
import Derived.Test.YthflfekhanjlnaaPx2
import Derived.Test.YthflfekhanjlnaaPx5
import Derived.Test.YthflfekhanjlnaaPx16
import Derived.Test.YthflfekhanjlnaaPx23
namespace Go.Proofs.Ythflfekhanjlnaa.P
open Go.RowKit Go.Proofs.YthflfekhanjlnaaW.PrintWords Go.Proofs.YthflfekhanjlnaaW.PrintLast Go.Proofs.YthflfekhanjlnaaW.PrintMore
open Go.Proofs.YthflfekhanjlnaaG (bk_ bl_ rk_)
attribute [local go_sem] max2_int min2_int max_two min_two max_three min_three max_four min_four   -- for this text's walks alone
set_option linter.unusedVariables false
set_option linter.unusedSimpArgs false

attribute [local go_sem high] eqA30
/-! ### rialtolaw20_live: function 14 -/
def rialtolaw20_live.f (k : Nat)  : Option (Bool) := (shardmap_Home.f k 1 5 3).bind fun bt193 => ((shardmap_Learn.f k ([] : List (S30)) 1 5 0 1).bind fun bt195 => ((shardmap_Learn.f k bt195.1 1 5 2 0).bind fun bt199 => ((shardmap_Owner.f k bt199.1 1 5 3).bind fun bt203 => (if bt193.1 = 2 then (if bt193.2 = 0 then (if bt195.2 = 0 then (if bt199.2 = 0 then (if bt203.2.2.2.2 = 0 then (some ((bt203.1 == 1 && (bt203.2.1 == 5)) && (bt203.2.2.1 == 0 && (bt203.2.2.2.1 == 1)))) else (some false)) else (some false)) else (some false)) else (some false)) else (some false)))))
theorem rialtolaw20_live.mono : ∀ k, LeO (rialtolaw20_live.f k ) (rialtolaw20_live.f (k + 1) ) := by
 intro  k
 unfold rialtolaw20_live.f
 repeat' first
   | (with_reducible exact shardmap_Home.mono _ _ _ _)
   | (with_reducible exact shardmap_Learn.mono _ _ _ _ _ _)
   | (with_reducible exact shardmap_Owner.mono _ _ _ _ _)
   | (with_reducible exact LeO.refl _)
   | (with_reducible exact LeO.none _)
   | (with_reducible refine LeO.ite ?_ ?_)
   | (with_reducible refine LeO.bind ?_ (fun _ => ?_))
   | exact shardmap_Home.mono _ _ _ _
   | exact shardmap_Learn.mono _ _ _ _ _ _
   | exact shardmap_Owner.mono _ _ _ _ _
   | exact LeO.none _
   | refine LeO.ite ?_ ?_
   | refine LeO.bind ?_ (fun _ => ?_)
set_option maxHeartbeats 8000000 in
set_option maxRecDepth 100000 in
theorem rialtolaw20_live.calls (k : Nat)  (r : Bool) (w : World) (h : rialtolaw20_live.f k  = some r) :
  Calls Try.prog 14 #[] w fun e w' => e = .returned (.bool r) ∧ Below w.heap.size w w' := by
 have hu24 := Try.underlying24
 have hu30 := Try.underlying30
 have HB := Aside0.mk (Below.refl w.heap.size w)
 have H : ((shardmap_Home.f k 1 5 3).bind fun bt193 => ((shardmap_Learn.f k ([] : List (S30)) 1 5 0 1).bind fun bt195 => ((shardmap_Learn.f k bt195.1 1 5 2 0).bind fun bt199 => ((shardmap_Owner.f k bt199.1 1 5 3).bind fun bt203 => (if bt193.1 = 2 then (if bt193.2 = 0 then (if bt195.2 = 0 then (if bt199.2 = 0 then (if bt203.2.2.2.2 = 0 then (some ((bt203.1 == 1 && (bt203.2.1 == 5)) && (bt203.2.2.1 == 0 && (bt203.2.2.2.1 == 1)))) else (some false)) else (some false)) else (some false)) else (some false)) else (some false)))))) = some r := h
 clear h
 replace H := Option.bind_eq_some_iff.mp H
 obtain ⟨⟨t193, t194⟩, A10, H⟩ := H
 replace H : ((shardmap_Learn.f k ([] : List (S30)) 1 5 0 1).bind fun bt195 => ((shardmap_Learn.f k bt195.1 1 5 2 0).bind fun bt199 => ((shardmap_Owner.f k bt199.1 1 5 3).bind fun bt203 => (if t193 = 2 then (if t194 = 0 then (if bt195.2 = 0 then (if bt199.2 = 0 then (if bt203.2.2.2.2 = 0 then (some ((bt203.1 == 1 && (bt203.2.1 == 5)) && (bt203.2.2.1 == 0 && (bt203.2.2.2.1 == 1)))) else (some false)) else (some false)) else (some false)) else (some false)) else (some false))))) = some r := H
 have A1 := Aside0.mk A10
 clear A10
 replace H := Option.bind_eq_some_iff.mp H
 obtain ⟨⟨t195, t198⟩, A20, H⟩ := H
 replace H : ((shardmap_Learn.f k t195 1 5 2 0).bind fun bt199 => ((shardmap_Owner.f k bt199.1 1 5 3).bind fun bt203 => (if t193 = 2 then (if t194 = 0 then (if t198 = 0 then (if bt199.2 = 0 then (if bt203.2.2.2.2 = 0 then (some ((bt203.1 == 1 && (bt203.2.1 == 5)) && (bt203.2.2.1 == 0 && (bt203.2.2.2.1 == 1)))) else (some false)) else (some false)) else (some false)) else (some false)) else (some false)))) = some r := H
 have A2 := Aside0.mk A20
 clear A20
 replace H := Option.bind_eq_some_iff.mp H
 obtain ⟨⟨t199, t202⟩, A30, H⟩ := H
 replace H : ((shardmap_Owner.f k t199 1 5 3).bind fun bt203 => (if t193 = 2 then (if t194 = 0 then (if t198 = 0 then (if t202 = 0 then (if bt203.2.2.2.2 = 0 then (some ((bt203.1 == 1 && (bt203.2.1 == 5)) && (bt203.2.2.1 == 0 && (bt203.2.2.2.1 == 1)))) else (some false)) else (some false)) else (some false)) else (some false)) else (some false))) = some r := H
 have A3 := Aside0.mk A30
 clear A30
 replace H := Option.bind_eq_some_iff.mp H
 obtain ⟨⟨t203, t204, t205, t206, t207⟩, A40, H⟩ := H
 replace H : (if t193 = 2 then (if t194 = 0 then (if t198 = 0 then (if t202 = 0 then (if t207 = 0 then (some ((t203 == 1 && (t204 == 5)) && (t205 == 0 && (t206 == 1)))) else (some false)) else (some false)) else (some false)) else (some false)) else (some false)) = some r := H
 have A4 := Aside0.mk A40
 clear A40
 go_enter Try.func14, Try.ntmps14
 go_upto_region 6 with (first | ((with_reducible refine gate_dst (N := 1) rfl ?_); refine box_event ?hg (N := 1) ?hd (cs := #[.int .i64 0, .int .i64 0]) (t := 24) ?hr ?_; (case hd => rfl); (case hg => rfl); (case hr => first | (go_simp; done) | (go_simp; rfl)); intro gb192 hg w81 hbox hb; have n0_ := Aside0.mk (below_step (by exact bl_ HB.out) hb); have n1_ := Aside0.mk (hbox); have n2_ := Aside0.mk ((by rw [hg]; exact (below_size (by exact bl_ HB.out)) : w.heap.size ≤ gb192)); have n3_ := Aside0.mk ((by rw [hg]; exact (below_size (by exact bl_ HB.out)) : w.heap.size ≤ gb192)); clear HB; have HB := n0_; have BK192 := n1_; have GW192 := n2_; have GE192 := n3_; clear n0_ n1_ n2_ n3_; clear hb hbox hg; have hcz82_0 : w81.cell? ⟨gb192, 0, none⟩ = some (.int .i64 0) := (blk_cell BK192.out 0).trans rfl; have hcz82_1 : w81.cell? ⟨gb192, 1, none⟩ = some (.int .i64 0) := (blk_cell BK192.out 1).trans rfl; have hfz82_0 := blk_frozen BK192.out 0; have hfz82_1 := blk_frozen BK192.out 1) | ((with_reducible refine gate_callee (f := 9) rfl ?_); refine goesL_ (some 13) rfl rfl Try.func9 (by kernel_rfl) rfl #[.agg #[.int .i64 1, .int .i64 5], .int .i64 3] rfl (by (try simp only [List.map_toArray, List.map_cons, List.map_nil]); first | done | rfl | (simp only [List.length_drop, List.length_take]; rfl)) ?_; (with_reducible refine (shardmap_Home.calls k 1 5 3 t193 t194 _ A1.out).mono ?_); rintro e w83 ⟨rfl, hb⟩; refine ⟨_, rfl, ?_⟩; have n0_ := Aside0.mk (blk_below (g := gb192) (o := .cells #[.int .i64 1, .int .i64 5] 24 (0, 0)) (by (with_reducible repeat (first | refine blk_drewN ?_ _ | refine blk_drew ?_ | refine blk_alloc ?_ _)); refine blk_put (cs := #[.int .i64 1, .int .i64 0]) ?_ 1 _ rfl; (with_reducible repeat (first | refine blk_drewN ?_ _ | refine blk_drew ?_ | refine blk_alloc ?_ _)); refine blk_put (cs := #[.int .i64 0, .int .i64 0]) ?_ 0 _ rfl; exact bk_ BK192.out) hb); have n1_ := Aside0.mk (below_step (by repeat (first | (with_reducible first | exact HB.out | apply below_alloc | apply pw_below_drewN | apply below_drew1 | refine below_set ?_ GE192.out) | exact HB.out)) hb); clear BK192; clear HB; have BK192 := n0_; have HB := n1_; clear n0_ n1_; (try clear hb); (try clear hb2); (try clear hk); (try clear hi); have hcz84_0 : w83.cell? ⟨gb192, 0, none⟩ = some (.int .i64 1) := (blk_cell BK192.out 0).trans rfl; have hcz84_1 : w83.cell? ⟨gb192, 1, none⟩ = some (.int .i64 5) := (blk_cell BK192.out 1).trans rfl; have hfz84_0 := blk_frozen BK192.out 0; have hfz84_1 := blk_frozen BK192.out 1) | ((with_reducible refine gate_callee (f := 15) rfl ?_); refine goesL_ (some 19) rfl rfl Try.func15 (by kernel_rfl) rfl #[.slice none 0 0, .agg #[.int .i64 1, .int .i64 5, .int .i64 0, .int .i64 1]] rfl (by (try simp only [List.map_toArray, List.map_cons, List.map_nil]); first | done | rfl | (simp only [List.length_drop, List.length_take]; rfl)) ?_; (refine (shardmap_Learn.calls k _ _ ([] : List (S30)) 1 5 0 1 t195 t198 _ ?side1 ?side2 A2.out).mono ?_); (case side1 => exact Kd.C_nil _ _); (case side2 => exact Nat.le_refl _); rintro e w85 ⟨v196, rfl, ho0, hb⟩; refine ⟨_, rfl, ?_⟩; have n0_ := Aside0.mk (Kd.R_lower ho0 (below_size (by repeat (first | (with_reducible first | exact HB.out | apply below_alloc | apply pw_below_drewN | apply below_drew1 | refine below_set ?_ GE192.out) | exact HB.out)))); have n1_ := Aside0.mk (blk_below (g := gb192) (o := .cells #[.int .i64 1, .int .i64 5] 24 (0, 0)) (by exact bk_ BK192.out) hb); have n2_ := Aside0.mk (below_step (by repeat (first | (with_reducible first | exact HB.out | apply below_alloc | apply pw_below_drewN | apply below_drew1 | refine below_set ?_ GE192.out) | exact HB.out)) hb); clear BK192; clear HB; have HO197 := n0_; have BK192 := n1_; have HB := n2_; clear n0_ n1_ n2_; (try clear hb); (try clear hb2); (try clear hk); (try clear hi); (try clear ho0); have hcz86_0 : w85.cell? ⟨gb192, 0, none⟩ = some (.int .i64 1) := (blk_cell BK192.out 0).trans rfl; have hcz86_1 : w85.cell? ⟨gb192, 1, none⟩ = some (.int .i64 5) := (blk_cell BK192.out 1).trans rfl; have hfz86_0 := blk_frozen BK192.out 0; have hfz86_1 := blk_frozen BK192.out 1; obtain ⟨Ao87, co87, eo87⟩ := Kd.R_slice HO197.out; subst eo87) | ((with_reducible refine gate_callee (f := 15) rfl ?_); refine goesL_ (some 26) rfl rfl Try.func15 (by kernel_rfl) rfl #[.slice Ao87 t195.length co87, .agg #[.int .i64 1, .int .i64 5, .int .i64 2, .int .i64 0]] rfl (by (try simp only [List.map_toArray, List.map_cons, List.map_nil]); first | done | rfl | (simp only [List.length_drop, List.length_take]; rfl)) ?_; (with_reducible refine (shardmap_Learn.calls k _ _ t195 1 5 2 0 t199 t202 _ ?side1 ?side2 A3.out).mono ?_); (case side1 => repeat (first | exact (Kd.R_reads' HO197.out).2.2 | (with_reducible refine Kd.C_alloc ?_ _) | (with_reducible refine Kd.C_drewN ?_ _) | (with_reducible refine Kd.C_drew ?_))); (case side2 => exact (Kd.R_reads' HO197.out).2.1); rintro e w88 ⟨v200, rfl, ho0, hb⟩; refine ⟨_, rfl, ?_⟩; have n0_ := Aside0.mk (Kd.R_elder' (by exact rk_ HO197.out) (Kd.R_base ho0) hb); have n1_ := Aside0.mk (Kd.R_lower (Kd.R_new' ho0 (Kd.R_lt (by exact rk_ HO197.out))) (below_size (by repeat (first | (with_reducible first | exact HB.out | apply below_alloc | apply pw_below_drewN | apply below_drew1 | refine below_set ?_ GE192.out) | exact HB.out)))); have n2_ := Aside0.mk (blk_below (g := gb192) (o := .cells #[.int .i64 1, .int .i64 5] 24 (0, 0)) (by exact bk_ BK192.out) hb); have n3_ := Aside0.mk (below_step (by repeat (first | (with_reducible first | exact HB.out | apply below_alloc | apply pw_below_drewN | apply below_drew1 | refine below_set ?_ GE192.out) | exact HB.out)) hb); clear HO197; clear BK192; clear HB; have HO197 := n0_; have HO201 := n1_; have BK192 := n2_; have HB := n3_; clear n0_ n1_ n2_ n3_; (try clear hb); (try clear hb2); (try clear hk); (try clear hi); (try clear ho0); have hcz89_0 : w88.cell? ⟨gb192, 0, none⟩ = some (.int .i64 1) := (blk_cell BK192.out 0).trans rfl; have hcz89_1 : w88.cell? ⟨gb192, 1, none⟩ = some (.int .i64 5) := (blk_cell BK192.out 1).trans rfl; have hfz89_0 := blk_frozen BK192.out 0; have hfz89_1 := blk_frozen BK192.out 1; obtain ⟨Ao90, co90, eo90⟩ := Kd.R_slice HO201.out; subst eo90) | ((with_reducible refine gate_callee (f := 11) rfl ?_); refine goesL_ (some 32) rfl rfl Try.func11 (by kernel_rfl) rfl #[.slice Ao90 t199.length co90, .agg #[.int .i64 1, .int .i64 5], .int .i64 3] rfl (by (try simp only [List.map_toArray, List.map_cons, List.map_nil]); first | done | rfl | (simp only [List.length_drop, List.length_take]; rfl)) ?_; (with_reducible refine (shardmap_Owner.calls k _ _ t199 1 5 3 t203 t204 t205 t206 t207 _ ?side1 ?side2 A4.out).mono ?_); (case side1 => repeat (first | exact (Kd.R_reads' HO201.out).2.2 | (with_reducible refine Kd.C_alloc ?_ _) | (with_reducible refine Kd.C_drewN ?_ _) | (with_reducible refine Kd.C_drew ?_))); (case side2 => exact (Kd.R_reads' HO201.out).2.1); rintro e w91 ⟨rfl, hb⟩; refine ⟨_, rfl, ?_⟩; have n0_ := Aside0.mk (Kd.R_below (by exact rk_ HO197.out) hb); have n1_ := Aside0.mk (Kd.R_below (by exact rk_ HO201.out) hb); have n2_ := Aside0.mk (blk_below (g := gb192) (o := .cells #[.int .i64 1, .int .i64 5] 24 (0, 0)) (by exact bk_ BK192.out) hb); have n3_ := Aside0.mk (below_step (by repeat (first | (with_reducible first | exact HB.out | apply below_alloc | apply pw_below_drewN | apply below_drew1 | refine below_set ?_ GE192.out) | exact HB.out)) hb); clear HO197; clear HO201; clear BK192; clear HB; have HO197 := n0_; have HO201 := n1_; have BK192 := n2_; have HB := n3_; clear n0_ n1_ n2_ n3_; (try clear hb); (try clear hb2); (try clear hk); (try clear hi)) | ((with_reducible refine gate_dst (N := 8) rfl ?_); refine box_event ?hg (N := 8) ?hd (cs := #[.int .i64 0, .int .i64 0, .int .i64 0, .int .i64 0]) (t := 30) ?hr ?_; (case hd => rfl); (case hg => rfl); (case hr => first | (go_simp; done) | (go_simp; rfl)); intro gb208 hg w92 hbox hb; have n0_ := Aside0.mk (Kd.R_below (Kd.R_elderB (by exact rk_ HO197.out) gb208 (Nat.le_of_eq hg.symm)) hb); have n1_ := Aside0.mk (Kd.R_below (Kd.R_elderB (by exact rk_ HO201.out) gb208 (Nat.le_of_eq hg.symm)) hb); have n2_ := Aside0.mk (blk_below (g := gb192) (o := .cells #[.int .i64 1, .int .i64 5] 24 (0, 0)) (by exact bk_ BK192.out) hb); have n3_ := Aside0.mk (below_step (by repeat (first | (with_reducible first | exact HB.out | apply below_alloc | apply pw_below_drewN | apply below_drew1 | refine below_set ?_ GE192.out) | exact HB.out)) hb); have n4_ := Aside0.mk (hbox); have n5_ := Aside0.mk ((by rw [hg]; exact (below_size (by repeat (first | (with_reducible first | exact HB.out | apply below_alloc | apply pw_below_drewN | apply below_drew1 | refine below_set ?_ GE192.out) | exact HB.out))) : w.heap.size ≤ gb208)); have n6_ := Aside0.mk ((by rw [hg]; exact (below_size (by repeat (first | (with_reducible first | exact HB.out | apply below_alloc | apply pw_below_drewN | apply below_drew1 | refine below_set ?_ GE192.out) | exact HB.out))) : w.heap.size ≤ gb208)); have n7_ := Aside0.mk ((by rw [hg]; exact Nat.ne_of_lt (blk_lt (g := gb192) (o := .cells #[.int .i64 1, .int .i64 5] 24 (0, 0)) (by exact bk_ BK192.out)) : gb192 ≠ gb208)); have n8_ := Aside0.mk ((by rw [hg]; exact Nat.ne_of_gt (blk_lt (g := gb192) (o := .cells #[.int .i64 1, .int .i64 5] 24 (0, 0)) (by exact bk_ BK192.out)) : gb208 ≠ gb192)); clear HO197; clear HO201; clear BK192; clear HB; have HO197 := n0_; have HO201 := n1_; have BK192 := n2_; have HB := n3_; have BK208 := n4_; have GW208 := n5_; have GE208 := n6_; have NB192_208 := n7_; have NB208_192 := n8_; clear n0_ n1_ n2_ n3_ n4_ n5_ n6_ n7_ n8_; clear hb hbox hg; have hnb93 := NB208_192.out; have hnc93 := NB192_208.out; have hcz94_0 : w92.cell? ⟨gb208, 0, none⟩ = some (.int .i64 0) := (blk_cell BK208.out 0).trans rfl; have hcz94_1 : w92.cell? ⟨gb208, 1, none⟩ = some (.int .i64 0) := (blk_cell BK208.out 1).trans rfl; have hcz94_2 : w92.cell? ⟨gb208, 2, none⟩ = some (.int .i64 0) := (blk_cell BK208.out 2).trans rfl; have hcz94_3 : w92.cell? ⟨gb208, 3, none⟩ = some (.int .i64 0) := (blk_cell BK208.out 3).trans rfl; have hfz94_0 := blk_frozen BK208.out 0; have hfz94_1 := blk_frozen BK208.out 1; have hfz94_2 := blk_frozen BK208.out 2; have hfz94_3 := blk_frozen BK208.out 3))
 by_cases c5 : t193 = 2
 ·rw [if_pos c5] at H
  have c5b0 : (t193 == 2) = true := beq_iff_eq.mpr c5
  have c5b1 : (t193 != 2) = false := bne_eq_false_iff_eq.mpr c5
  clear c5
  by_cases c6 : t194 = 0
  ·rw [if_pos c6] at H
   have c6b0 : (t194 == 0) = true := beq_iff_eq.mpr c6
   have c6b1 : (t194 != 0) = false := bne_eq_false_iff_eq.mpr c6
   clear c6
   by_cases c7 : t198 = 0
   ·rw [if_pos c7] at H
    have c7b0 : (t198 == 0) = true := beq_iff_eq.mpr c7
    have c7b1 : (t198 != 0) = false := bne_eq_false_iff_eq.mpr c7
    clear c7
    by_cases c8 : t202 = 0
    ·rw [if_pos c8] at H
     have c8b0 : (t202 == 0) = true := beq_iff_eq.mpr c8
     have c8b1 : (t202 != 0) = false := bne_eq_false_iff_eq.mpr c8
     clear c8
     by_cases c9 : t207 = 0
     ·rw [if_pos c9] at H
      have c9b0 : (t207 == 0) = true := beq_iff_eq.mpr c9
      have c9b1 : (t207 != 0) = false := bne_eq_false_iff_eq.mpr c9
      clear c9
      obtain rfl := Option.some.inj H
      have hcz24_0 : w92.cell? ⟨gb192, 0, none⟩ = some (.int .i64 1) := (blk_cell BK192.out 0).trans rfl
      have hcz24_1 : w92.cell? ⟨gb192, 1, none⟩ = some (.int .i64 5) := (blk_cell BK192.out 1).trans rfl
      have hfz24_0 := blk_frozen BK192.out 0
      have hfz24_1 := blk_frozen BK192.out 1
      go_wp2_with (fail)
      go_ret
      exact ⟨by first | rfl | (simp [errW_none, errW_some] <;> rfl) | (simp [*, errW_none, errW_some] <;> rfl), by repeat (first | (with_reducible first | exact HB.out | apply below_alloc | apply pw_below_drewN | apply below_drew1 | refine below_set ?_ GE192.out | refine below_set ?_ GE208.out) | exact HB.out)⟩
     ·rw [if_neg c9] at H
      have c9b0 : (t207 == 0) = false := beq_eq_false_iff_ne.mpr c9
      have c9b1 : (t207 != 0) = true := bne_iff_ne.mpr c9
      obtain rfl := Option.some.inj H
      go_wp2_with (fail)
      go_ret
      exact ⟨by first | rfl | (simp [errW_none, errW_some] <;> rfl) | (simp [*, errW_none, errW_some] <;> rfl), by repeat (first | (with_reducible first | exact HB.out | apply below_alloc | apply pw_below_drewN | apply below_drew1 | refine below_set ?_ GE192.out | refine below_set ?_ GE208.out) | exact HB.out)⟩
    ·rw [if_neg c8] at H
     have c8b0 : (t202 == 0) = false := beq_eq_false_iff_ne.mpr c8
     have c8b1 : (t202 != 0) = true := bne_iff_ne.mpr c8
     obtain rfl := Option.some.inj H
     go_wp2_with (fail)
     go_ret
     exact ⟨by first | rfl | (simp [errW_none, errW_some] <;> rfl) | (simp [*, errW_none, errW_some] <;> rfl), by repeat (first | (with_reducible first | exact HB.out | apply below_alloc | apply pw_below_drewN | apply below_drew1 | refine below_set ?_ GE192.out | refine below_set ?_ GE208.out) | exact HB.out)⟩
   ·rw [if_neg c7] at H
    have c7b0 : (t198 == 0) = false := beq_eq_false_iff_ne.mpr c7
    have c7b1 : (t198 != 0) = true := bne_iff_ne.mpr c7
    obtain rfl := Option.some.inj H
    go_wp2_with (fail)
    go_ret
    exact ⟨by first | rfl | (simp [errW_none, errW_some] <;> rfl) | (simp [*, errW_none, errW_some] <;> rfl), by repeat (first | (with_reducible first | exact HB.out | apply below_alloc | apply pw_below_drewN | apply below_drew1 | refine below_set ?_ GE192.out | refine below_set ?_ GE208.out) | exact HB.out)⟩
  ·rw [if_neg c6] at H
   have c6b0 : (t194 == 0) = false := beq_eq_false_iff_ne.mpr c6
   have c6b1 : (t194 != 0) = true := bne_iff_ne.mpr c6
   obtain rfl := Option.some.inj H
   go_wp2_with (fail)
   go_ret
   exact ⟨by first | rfl | (simp [errW_none, errW_some] <;> rfl) | (simp [*, errW_none, errW_some] <;> rfl), by repeat (first | (with_reducible first | exact HB.out | apply below_alloc | apply pw_below_drewN | apply below_drew1 | refine below_set ?_ GE192.out | refine below_set ?_ GE208.out) | exact HB.out)⟩
 ·rw [if_neg c5] at H
  have c5b0 : (t193 == 2) = false := beq_eq_false_iff_ne.mpr c5
  have c5b1 : (t193 != 2) = true := bne_iff_ne.mpr c5
  obtain rfl := Option.some.inj H
  go_wp2_with (fail)
  go_ret
  exact ⟨by first | rfl | (simp [errW_none, errW_some] <;> rfl) | (simp [*, errW_none, errW_some] <;> rfl), by repeat (first | (with_reducible first | exact HB.out | apply below_alloc | apply pw_below_drewN | apply below_drew1 | refine below_set ?_ GE192.out | refine below_set ?_ GE208.out) | exact HB.out)⟩

end Go.Proofs.Ythflfekhanjlnaa.P
