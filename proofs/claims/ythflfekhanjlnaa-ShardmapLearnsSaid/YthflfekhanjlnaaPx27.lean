/- Functions that the laws reach, told as plain functions, each with a proof that the call computes it; for every input. Written by a program of ours out of the translation. -/
import Derived.Test.YthflfekhanjlnaaPx0
import Derived.Test.YthflfekhanjlnaaPx3
import Derived.Test.YthflfekhanjlnaaPx20
import Derived.Test.YthflfekhanjlnaaPx23
import Derived.Test.YthflfekhanjlnaaPx24
import Derived.Test.YthflfekhanjlnaaPx26
namespace Go.Proofs.Ythflfekhanjlnaa.P
open Go.RowKit Go.Proofs.YthflfekhanjlnaaW.PrintWords Go.Proofs.YthflfekhanjlnaaW.PrintLast Go.Proofs.YthflfekhanjlnaaW.PrintMore
open Go.Proofs.YthflfekhanjlnaaG (bk_ bl_ rk_)
attribute [local go_sem] max2_int min2_int max_two min_two max_three min_three max_four min_four   -- for this text's walks alone
set_option linter.unusedVariables false
set_option linter.unusedSimpArgs false

/-! ### rialtolaw20_ShardmapLearns: function 4 -/
mutual
def rialtolaw20_ShardmapLearns.j0 : Nat → List (S30) → List (S30) → List (S30) → Bool → Option (Bool)
 | 0, _, _, _, _ => none
 | k + 1, x0, x5, x6, x39 => if x39 = true then (some false) else (rialtolaw20_ShardmapLearns.l0 k x0 x5 x6 0)
def rialtolaw20_ShardmapLearns.l0 : Nat → List (S30) → List (S30) → List (S30) → Int → Option (Bool)
 | 0, _, _, _, _ => none
 | k + 1, x0, x5, x6, x10 => if x10 < (x6.length : Int) then (if 0 ≤ x10 then (rialtolaw20_ShardmapLearns.l0 k x0 x5 (x6.set (x10 : Int).toNat (⟨(⟨(rd_T30 x6 x10).f0.f0, (rd_T30 x6 x10).f0.f1⟩ : S24), (-1), (rd_T30 x6 x10).f2⟩ : S30)) (wrap64 (x10 + 1))) else (none)) else ((rialtoref20_Same.f k x5 x0).bind fun t273 => (if t273 = true then ((rialtolaw20_live.f k).bind fun t274 => (some t274)) else (some false)))
end
def rialtolaw20_ShardmapLearns.f (k : Nat) (l0 : List (S30)) (a1_0 : Int) (a1_1 : Int) (a1_2 : Int) (a1_3 : Int) : Option (Bool) := (rialtoref20_Copy.f l0).bind fun t259 => ((shardmap_Learn.f k t259 a1_0 a1_1 a1_2 a1_3).bind fun bt262 => ((rialtoref20_Learn.f k l0 a1_0 a1_1 a1_2 a1_3).bind fun bt266 => ((rialtoref20_Same.f k bt262.1 bt266.1).bind fun t270 => (if t270 = true then (if bt262.2 = bt266.2 then ((rialtoref20_Same.f k t259 l0).bind fun t271 => (rialtolaw20_ShardmapLearns.j0 k l0 t259 bt262.1 (!t271))) else (rialtolaw20_ShardmapLearns.j0 k l0 t259 bt262.1 true)) else (rialtolaw20_ShardmapLearns.j0 k l0 t259 bt262.1 true)))))
theorem rialtolaw20_ShardmapLearns.mono_l : ∀ k, (∀ y0 y1 y2 y3, LeO (rialtolaw20_ShardmapLearns.j0 k y0 y1 y2 y3) (rialtolaw20_ShardmapLearns.j0 (k + 1) y0 y1 y2 y3)) ∧ (∀ y0 y1 y2 y3, LeO (rialtolaw20_ShardmapLearns.l0 k y0 y1 y2 y3) (rialtolaw20_ShardmapLearns.l0 (k + 1) y0 y1 y2 y3))
 | 0 => ⟨fun _ _ _ _ r h => by simp [rialtolaw20_ShardmapLearns.j0] at h, fun _ _ _ _ r h => by simp [rialtolaw20_ShardmapLearns.l0] at h⟩
 | k + 1 => by
  obtain ⟨ih0, ih1⟩ := rialtolaw20_ShardmapLearns.mono_l k
  refine ⟨?_, ?_⟩
  ·intro y0 y1 y2 y3
   unfold rialtolaw20_ShardmapLearns.j0
   repeat' first
   | (with_reducible exact ih0 _ _ _ _)
   | (with_reducible exact ih1 _ _ _ _)
   | (with_reducible exact rialtolaw20_live.mono _)
   | (with_reducible exact rialtoref20_Learn.mono _ _ _ _ _ _)
   | (with_reducible exact rialtoref20_Same.mono _ _ _)
   | (with_reducible exact shardmap_Learn.mono _ _ _ _ _ _)
   | (with_reducible exact LeO.refl _)
   | (with_reducible exact LeO.none _)
   | (with_reducible refine LeO.ite ?_ ?_)
   | (with_reducible refine LeO.bind ?_ (fun _ => ?_))
   | exact ih0 _ _ _ _
   | exact ih1 _ _ _ _
   | exact rialtolaw20_live.mono _
   | exact rialtoref20_Learn.mono _ _ _ _ _ _
   | exact rialtoref20_Same.mono _ _ _
   | exact shardmap_Learn.mono _ _ _ _ _ _
   | exact LeO.none _
   | refine LeO.ite ?_ ?_
   | refine LeO.bind ?_ (fun _ => ?_)
  ·intro y0 y1 y2 y3
   unfold rialtolaw20_ShardmapLearns.l0
   repeat' first
   | (with_reducible exact ih0 _ _ _ _)
   | (with_reducible exact ih1 _ _ _ _)
   | (with_reducible exact rialtolaw20_live.mono _)
   | (with_reducible exact rialtoref20_Learn.mono _ _ _ _ _ _)
   | (with_reducible exact rialtoref20_Same.mono _ _ _)
   | (with_reducible exact shardmap_Learn.mono _ _ _ _ _ _)
   | (with_reducible exact LeO.refl _)
   | (with_reducible exact LeO.none _)
   | (with_reducible refine LeO.ite ?_ ?_)
   | (with_reducible refine LeO.bind ?_ (fun _ => ?_))
   | exact ih0 _ _ _ _
   | exact ih1 _ _ _ _
   | exact rialtolaw20_live.mono _
   | exact rialtoref20_Learn.mono _ _ _ _ _ _
   | exact rialtoref20_Same.mono _ _ _
   | exact shardmap_Learn.mono _ _ _ _ _ _
   | exact LeO.none _
   | refine LeO.ite ?_ ?_
   | refine LeO.bind ?_ (fun _ => ?_)
theorem rialtolaw20_ShardmapLearns.mono : ∀ a0 a1 a2 a3 a4 k, LeO (rialtolaw20_ShardmapLearns.f k a0 a1 a2 a3 a4) (rialtolaw20_ShardmapLearns.f (k + 1) a0 a1 a2 a3 a4) := by
 intro a0 a1 a2 a3 a4 k
 obtain ⟨ih0, ih1⟩ := rialtolaw20_ShardmapLearns.mono_l k
 unfold rialtolaw20_ShardmapLearns.f
 repeat' first
   | (with_reducible exact ih0 _ _ _ _)
   | (with_reducible exact ih1 _ _ _ _)
   | (with_reducible exact rialtolaw20_live.mono _)
   | (with_reducible exact rialtoref20_Learn.mono _ _ _ _ _ _)
   | (with_reducible exact rialtoref20_Same.mono _ _ _)
   | (with_reducible exact shardmap_Learn.mono _ _ _ _ _ _)
   | (with_reducible exact LeO.refl _)
   | (with_reducible exact LeO.none _)
   | (with_reducible refine LeO.ite ?_ ?_)
   | (with_reducible refine LeO.bind ?_ (fun _ => ?_))
   | exact ih0 _ _ _ _
   | exact ih1 _ _ _ _
   | exact rialtolaw20_live.mono _
   | exact rialtoref20_Learn.mono _ _ _ _ _ _
   | exact rialtoref20_Same.mono _ _ _
   | exact shardmap_Learn.mono _ _ _ _ _ _
   | exact LeO.none _
   | refine LeO.ite ?_ ?_
   | refine LeO.bind ?_ (fun _ => ?_)
set_option maxHeartbeats 8000000 in
set_option maxRecDepth 100000 in
theorem rialtolaw20_ShardmapLearns.calls (k : Nat) (A0 : Option Addr) (c0 : Nat) (l0 : List (S30)) (a1_0 : Int) (a1_1 : Int) (a1_2 : Int) (a1_3 : Int) (r : Bool) (w : World) (hr0 : Kd.C k30 w A0 l0.length l0) (hc0 : l0.length ≤ c0) (h : rialtolaw20_ShardmapLearns.f k l0 a1_0 a1_1 a1_2 a1_3 = some r) :
  Calls Try.prog 4 #[.slice A0 l0.length c0, .agg #[.int .i64 a1_0, .int .i64 a1_1, .int .i64 a1_2, .int .i64 a1_3]] w fun e w' => e = .returned (.bool r) ∧ Below w.heap.size w w' := by
 have hu30 := Try.underlying30
 have HR0 := Aside0.mk hr0
 have HC0 := Aside0.mk hc0
 clear hr0 hc0
 have HB := Aside0.mk (Below.refl w.heap.size w)
 have H : ((rialtoref20_Copy.f l0).bind fun t259 => ((shardmap_Learn.f k t259 a1_0 a1_1 a1_2 a1_3).bind fun bt262 => ((rialtoref20_Learn.f k l0 a1_0 a1_1 a1_2 a1_3).bind fun bt266 => ((rialtoref20_Same.f k bt262.1 bt266.1).bind fun t270 => (if t270 = true then (if bt262.2 = bt266.2 then ((rialtoref20_Same.f k t259 l0).bind fun t271 => (rialtolaw20_ShardmapLearns.j0 k l0 t259 bt262.1 (!t271))) else (rialtolaw20_ShardmapLearns.j0 k l0 t259 bt262.1 true)) else (rialtolaw20_ShardmapLearns.j0 k l0 t259 bt262.1 true)))))) = some r := h
 clear h
 replace H := Option.bind_eq_some_iff.mp H
 obtain ⟨t259, A30, H⟩ := H
 replace H : ((shardmap_Learn.f k t259 a1_0 a1_1 a1_2 a1_3).bind fun bt262 => ((rialtoref20_Learn.f k l0 a1_0 a1_1 a1_2 a1_3).bind fun bt266 => ((rialtoref20_Same.f k bt262.1 bt266.1).bind fun t270 => (if t270 = true then (if bt262.2 = bt266.2 then ((rialtoref20_Same.f k t259 l0).bind fun t271 => (rialtolaw20_ShardmapLearns.j0 k l0 t259 bt262.1 (!t271))) else (rialtolaw20_ShardmapLearns.j0 k l0 t259 bt262.1 true)) else (rialtolaw20_ShardmapLearns.j0 k l0 t259 bt262.1 true))))) = some r := H
 have A3 := Aside0.mk A30
 clear A30
 replace H := Option.bind_eq_some_iff.mp H
 obtain ⟨⟨t262, t265⟩, A40, H⟩ := H
 replace H : ((rialtoref20_Learn.f k l0 a1_0 a1_1 a1_2 a1_3).bind fun bt266 => ((rialtoref20_Same.f k t262 bt266.1).bind fun t270 => (if t270 = true then (if t265 = bt266.2 then ((rialtoref20_Same.f k t259 l0).bind fun t271 => (rialtolaw20_ShardmapLearns.j0 k l0 t259 t262 (!t271))) else (rialtolaw20_ShardmapLearns.j0 k l0 t259 t262 true)) else (rialtolaw20_ShardmapLearns.j0 k l0 t259 t262 true)))) = some r := H
 have A4 := Aside0.mk A40
 clear A40
 replace H := Option.bind_eq_some_iff.mp H
 obtain ⟨⟨t266, t269⟩, A50, H⟩ := H
 replace H : ((rialtoref20_Same.f k t262 t266).bind fun t270 => (if t270 = true then (if t265 = t269 then ((rialtoref20_Same.f k t259 l0).bind fun t271 => (rialtolaw20_ShardmapLearns.j0 k l0 t259 t262 (!t271))) else (rialtolaw20_ShardmapLearns.j0 k l0 t259 t262 true)) else (rialtolaw20_ShardmapLearns.j0 k l0 t259 t262 true))) = some r := H
 have A5 := Aside0.mk A50
 clear A50
 have HC6 := Aside0.mk H
 clear H
 go_enter Try.func4, Try.ntmps4
 go_upto_region 4 with (first | ((with_reducible refine gate_dst (N := 3) rfl ?_); refine box_event ?hg (N := 3) ?hd (cs := #[.int .i64 a1_0, .int .i64 a1_1, .int .i64 a1_2, .int .i64 a1_3]) (t := 30) ?hr ?_; (case hd => rfl); (case hg => rfl); (case hr => first | (go_simp; done) | (go_simp; rfl)); intro gb258 hg w7 hbox hb; have n0_ := Aside0.mk (below_step (by exact bl_ HB.out) hb); have n1_ := Aside0.mk (hbox); have n2_ := Aside0.mk ((by rw [hg]; exact (below_size (by exact bl_ HB.out)) : w.heap.size ≤ gb258)); have n3_ := Aside0.mk ((by rw [hg]; exact (below_size (by exact bl_ HB.out)) : w.heap.size ≤ gb258)); clear HB; have HB := n0_; have BK258 := n1_; have GW258 := n2_; have GE258 := n3_; clear n0_ n1_ n2_ n3_; clear hb hbox hg) | ((with_reducible refine gate_callee (f := 8) rfl ?_); refine goesL_ (some 12) rfl rfl Try.func8 (by kernel_rfl) rfl #[.slice A0 l0.length c0] rfl (by (try simp only [List.map_toArray, List.map_cons, List.map_nil]); first | done | rfl | (simp only [List.length_drop, List.length_take]; rfl)) ?_; (with_reducible refine (rialtoref20_Copy.calls _ _ l0 t259 _ ?side1 ?side2 A3.out).mono ?_); (case side1 => repeat (first | exact (Kd.C_below HR0.out HB.out) | (with_reducible refine Kd.C_alloc ?_ _) | (with_reducible refine Kd.C_drewN ?_ _) | (with_reducible refine Kd.C_drew ?_))); (case side2 => exact HC0.out); rintro e w8 ⟨v260, rfl, ho0, hb⟩; refine ⟨_, rfl, ?_⟩; have n0_ := Aside0.mk (Kd.R_lower (Kd.R_newB ho0 (g := gb258) (o := .cells #[.int .i64 a1_0, .int .i64 a1_1, .int .i64 a1_2, .int .i64 a1_3] 30 (0, 0)) (by exact bk_ BK258.out)) (below_size (by repeat (first | (with_reducible first | exact HB.out | apply below_alloc | apply pw_below_drewN | apply below_drew1 | refine below_set ?_ GE258.out) | exact HB.out)))); have n1_ := Aside0.mk (blk_below (g := gb258) (o := .cells #[.int .i64 a1_0, .int .i64 a1_1, .int .i64 a1_2, .int .i64 a1_3] 30 (0, 0)) (by exact bk_ BK258.out) hb); have n2_ := Aside0.mk (below_step (by repeat (first | (with_reducible first | exact HB.out | apply below_alloc | apply pw_below_drewN | apply below_drew1 | refine below_set ?_ GE258.out) | exact HB.out)) hb); clear BK258; clear HB; have HO261 := n0_; have BK258 := n1_; have HB := n2_; clear n0_ n1_ n2_; (try clear hb); (try clear hb2); (try clear hk); (try clear hi); (try clear ho0); have hcz9_0 : w8.cell? ⟨gb258, 0, none⟩ = some (.int .i64 a1_0) := (blk_cell BK258.out 0).trans rfl; have hcz9_1 : w8.cell? ⟨gb258, 1, none⟩ = some (.int .i64 a1_1) := (blk_cell BK258.out 1).trans rfl; have hcz9_2 : w8.cell? ⟨gb258, 2, none⟩ = some (.int .i64 a1_2) := (blk_cell BK258.out 2).trans rfl; have hcz9_3 : w8.cell? ⟨gb258, 3, none⟩ = some (.int .i64 a1_3) := (blk_cell BK258.out 3).trans rfl; have hfz9_0 := blk_frozen BK258.out 0; have hfz9_1 := blk_frozen BK258.out 1; have hfz9_2 := blk_frozen BK258.out 2; have hfz9_3 := blk_frozen BK258.out 3; obtain ⟨Ao10, co10, eo10⟩ := Kd.R_slice HO261.out; subst eo10) | ((with_reducible refine gate_callee (f := 15) rfl ?_); refine goesL_ (some 16) rfl rfl Try.func15 (by kernel_rfl) rfl #[.slice Ao10 t259.length co10, .agg #[.int .i64 a1_0, .int .i64 a1_1, .int .i64 a1_2, .int .i64 a1_3]] rfl (by (try simp only [List.map_toArray, List.map_cons, List.map_nil]); first | done | rfl | (simp only [List.length_drop, List.length_take]; rfl)) ?_; (with_reducible refine (shardmap_Learn.calls k _ _ t259 a1_0 a1_1 a1_2 a1_3 t262 t265 _ ?side1 ?side2 A4.out).mono ?_); (case side1 => repeat (first | exact (Kd.R_reads' HO261.out).2.2 | (with_reducible refine Kd.C_alloc ?_ _) | (with_reducible refine Kd.C_drewN ?_ _) | (with_reducible refine Kd.C_drew ?_))); (case side2 => exact (Kd.R_reads' HO261.out).2.1); rintro e w11 ⟨v263, rfl, ho0, hb⟩; refine ⟨_, rfl, ?_⟩; have n0_ := Aside0.mk (Kd.R_elder' (by exact rk_ HO261.out) (Kd.R_base ho0) hb); have n1_ := Aside0.mk (Kd.R_lower (Kd.R_newB (Kd.R_new' ho0 (Kd.R_lt (by exact rk_ HO261.out))) (g := gb258) (o := .cells #[.int .i64 a1_0, .int .i64 a1_1, .int .i64 a1_2, .int .i64 a1_3] 30 (0, 0)) (by exact bk_ BK258.out)) (below_size (by repeat (first | (with_reducible first | exact HB.out | apply below_alloc | apply pw_below_drewN | apply below_drew1 | refine below_set ?_ GE258.out) | exact HB.out)))); have n2_ := Aside0.mk (blk_below (g := gb258) (o := .cells #[.int .i64 a1_0, .int .i64 a1_1, .int .i64 a1_2, .int .i64 a1_3] 30 (0, 0)) (by exact bk_ BK258.out) hb); have n3_ := Aside0.mk (below_step (by repeat (first | (with_reducible first | exact HB.out | apply below_alloc | apply pw_below_drewN | apply below_drew1 | refine below_set ?_ GE258.out) | exact HB.out)) hb); clear HO261; clear BK258; clear HB; have HO261 := n0_; have HO264 := n1_; have BK258 := n2_; have HB := n3_; clear n0_ n1_ n2_ n3_; (try clear hb); (try clear hb2); (try clear hk); (try clear hi); (try clear ho0); have hcz12_0 : w11.cell? ⟨gb258, 0, none⟩ = some (.int .i64 a1_0) := (blk_cell BK258.out 0).trans rfl; have hcz12_1 : w11.cell? ⟨gb258, 1, none⟩ = some (.int .i64 a1_1) := (blk_cell BK258.out 1).trans rfl; have hcz12_2 : w11.cell? ⟨gb258, 2, none⟩ = some (.int .i64 a1_2) := (blk_cell BK258.out 2).trans rfl; have hcz12_3 : w11.cell? ⟨gb258, 3, none⟩ = some (.int .i64 a1_3) := (blk_cell BK258.out 3).trans rfl; have hfz12_0 := blk_frozen BK258.out 0; have hfz12_1 := blk_frozen BK258.out 1; have hfz12_2 := blk_frozen BK258.out 2; have hfz12_3 := blk_frozen BK258.out 3) | ((with_reducible refine gate_callee (f := 16) rfl ?_); refine goesL_ (some 22) rfl rfl Try.func16 (by kernel_rfl) rfl #[.slice A0 l0.length c0, .agg #[.int .i64 a1_0, .int .i64 a1_1, .int .i64 a1_2, .int .i64 a1_3]] rfl (by (try simp only [List.map_toArray, List.map_cons, List.map_nil]); first | done | rfl | (simp only [List.length_drop, List.length_take]; rfl)) ?_; (with_reducible refine (rialtoref20_Learn.calls k _ _ l0 a1_0 a1_1 a1_2 a1_3 t266 t269 _ ?side1 ?side2 A5.out).mono ?_); (case side1 => repeat (first | exact (Kd.C_below HR0.out HB.out) | (with_reducible refine Kd.C_alloc ?_ _) | (with_reducible refine Kd.C_drewN ?_ _) | (with_reducible refine Kd.C_drew ?_))); (case side2 => exact HC0.out); rintro e w13 ⟨v267, rfl, ho0, hb⟩; refine ⟨_, rfl, ?_⟩; have n0_ := Aside0.mk (Kd.R_elder' (by exact rk_ HO261.out) (Kd.R_base ho0) hb); have n1_ := Aside0.mk (Kd.R_elder' (by exact rk_ HO264.out) (Kd.R_base ho0) hb); have n2_ := Aside0.mk (Kd.R_lower (Kd.R_newB (Kd.R_new' (Kd.R_new' ho0 (Kd.R_lt (by exact rk_ HO261.out))) (Kd.R_lt (by exact rk_ HO264.out))) (g := gb258) (o := .cells #[.int .i64 a1_0, .int .i64 a1_1, .int .i64 a1_2, .int .i64 a1_3] 30 (0, 0)) (by exact bk_ BK258.out)) (below_size (by repeat (first | (with_reducible first | exact HB.out | apply below_alloc | apply pw_below_drewN | apply below_drew1 | refine below_set ?_ GE258.out) | exact HB.out)))); have n3_ := Aside0.mk (blk_below (g := gb258) (o := .cells #[.int .i64 a1_0, .int .i64 a1_1, .int .i64 a1_2, .int .i64 a1_3] 30 (0, 0)) (by exact bk_ BK258.out) hb); have n4_ := Aside0.mk (below_step (by repeat (first | (with_reducible first | exact HB.out | apply below_alloc | apply pw_below_drewN | apply below_drew1 | refine below_set ?_ GE258.out) | exact HB.out)) hb); clear HO261; clear HO264; clear BK258; clear HB; have HO261 := n0_; have HO264 := n1_; have HO268 := n2_; have BK258 := n3_; have HB := n4_; clear n0_ n1_ n2_ n3_ n4_; (try clear hb); (try clear hb2); (try clear hk); (try clear hi); (try clear ho0)))
 (try simp only [Act.put, List.setIfInBounds_toArray, List.set_cons_zero, List.set_cons_succ])
 go_cut [39] (fun v39 wc => ∃ (kq : Nat) (x39_5 : Bool), v39 = .bool x39_5 ∧ Aside0 (rialtolaw20_ShardmapLearns.j0 kq l0 t259 t262 x39_5 = some r) ∧ Aside0 (kq ≤ k) ∧ Aside0 (Kd.R k30 30 wc w.heap.size (fun k_ => some k_ ≠ (v263 : Value).ownBlock ∧ k_ ≠ gb258) (.slice Ao10 t259.length co10) t259) ∧ Aside0 (Kd.R k30 30 wc w.heap.size (fun k_ => some k_ ≠ ((.slice Ao10 t259.length co10) : Value).ownBlock ∧ k_ ≠ gb258) v263 t262) ∧ Aside0 (wc.heap[gb258]? = some (.cells #[.int .i64 a1_0, .int .i64 a1_1, .int .i64 a1_2, .int .i64 a1_3] 30 (0, 0))) ∧ Aside0 (Below w.heap.size w wc))
 case first =>
  have H := HC6.out
  clear HC6
  replace H := Option.bind_eq_some_iff.mp H
  obtain ⟨t270, A140, H⟩ := H
  replace H : (if t270 = true then (if t265 = t269 then ((rialtoref20_Same.f k t259 l0).bind fun t271 => (rialtolaw20_ShardmapLearns.j0 k l0 t259 t262 (!t271))) else (rialtolaw20_ShardmapLearns.j0 k l0 t259 t262 true)) else (rialtolaw20_ShardmapLearns.j0 k l0 t259 t262 true)) = some r := H
  have A14 := Aside0.mk A140
  clear A140
  by_cases c15 : t270 = true
  ·subst c15
   have H1 : (if t265 = t269 then ((rialtoref20_Same.f k t259 l0).bind fun t271 => (rialtolaw20_ShardmapLearns.j0 k l0 t259 t262 (!t271))) else (rialtolaw20_ShardmapLearns.j0 k l0 t259 t262 true)) = some r := by rw [if_pos rfl] at H; exact H
   clear H
   have H := H1
   clear H1
   by_cases c16 : t265 = t269
   ·rw [if_pos c16] at H
    have c16b0 : (t265 == t269) = true := beq_iff_eq.mpr c16
    have c16b1 : (t265 != t269) = false := bne_eq_false_iff_eq.mpr c16
    clear c16
    (first | rw [c16b0] | (simp only [i64_w, i32_w]; rw [c16b0]) | skip)
    replace H := Option.bind_eq_some_iff.mp H
    obtain ⟨t271, A170, H⟩ := H
    replace H : (rialtolaw20_ShardmapLearns.j0 k l0 t259 t262 (!t271)) = some r := H
    have A17 := Aside0.mk A170
    clear A170
    have H' := Aside0.mk H
    clear H
    obtain ⟨Ao18, co18, eo18⟩ := Kd.R_slice HO264.out
    subst eo18
    obtain ⟨Ao19, co19, eo19⟩ := Kd.R_slice HO268.out
    subst eo19
    go_wp2_with (first | ((with_reducible refine gate_callee (f := 13) rfl ?_); refine goesL_ (some 27) rfl rfl Try.func13 (by kernel_rfl) rfl #[.slice Ao18 t262.length co18, .slice Ao19 t266.length co19] rfl (by (try simp only [List.map_toArray, List.map_cons, List.map_nil]); first | done | rfl | (simp only [List.length_drop, List.length_take]; rfl)) ?_; (with_reducible refine (rialtoref20_Same.calls k _ _ t262 _ _ t266 true _ ?side1 ?side2 ?side3 ?side4 A14.out).mono ?_); (case side1 => repeat (first | exact (Kd.R_reads' HO264.out).2.2 | (with_reducible refine Kd.C_alloc ?_ _) | (with_reducible refine Kd.C_drewN ?_ _) | (with_reducible refine Kd.C_drew ?_))); (case side2 => exact (Kd.R_reads' HO264.out).2.1); (case side3 => repeat (first | exact (Kd.R_reads' HO268.out).2.2 | (with_reducible refine Kd.C_alloc ?_ _) | (with_reducible refine Kd.C_drewN ?_ _) | (with_reducible refine Kd.C_drew ?_))); (case side4 => exact (Kd.R_reads' HO268.out).2.1); rintro e w' ⟨rfl, ⟨nd, rfl⟩⟩; refine ⟨_, rfl, ?_⟩) | (go_at_call 13; (with_reducible refine (rialtoref20_Same.calls k _ _ t259 _ _ l0 t271 _ ?side1 ?side2 ?side3 ?side4 A17.out).mono ?_); (case side1 => repeat (first | exact (Kd.R_reads' HO261.out).2.2 | (with_reducible refine Kd.C_alloc ?_ _) | (with_reducible refine Kd.C_drewN ?_ _) | (with_reducible refine Kd.C_drew ?_))); (case side2 => exact (Kd.R_reads' HO261.out).2.1); (case side3 => repeat (first | exact (Kd.C_below HR0.out (by repeat (first | (with_reducible first | exact HB.out | apply below_alloc | apply pw_below_drewN | apply below_drew1 | refine below_set ?_ GE258.out) | exact HB.out))) | (with_reducible refine Kd.C_alloc ?_ _) | (with_reducible refine Kd.C_drewN ?_ _) | (with_reducible refine Kd.C_drew ?_))); (case side4 => exact HC0.out); rintro e w' ⟨rfl, ⟨nd, rfl⟩⟩))
    go_meet
    case rel => exact ⟨_, (!t271), (by first | rfl | (simp; done) | (simp [*]; done)), H', ⟨by first | omega | exact Nat.le_refl _⟩, ⟨by (with_reducible repeat (first | apply Kd.R_alloc | apply Kd.R_drewN | apply Kd.R_drew)); exact Kd.R_mono HO261.out (fun _ hk => ⟨hk.1.2, hk.1.1.2⟩)⟩, ⟨by (with_reducible repeat (first | apply Kd.R_alloc | apply Kd.R_drewN | apply Kd.R_drew)); exact Kd.R_mono HO264.out (fun _ hk => ⟨hk.1.1.2, hk.1.2⟩)⟩, ⟨by exact bk_ BK258.out⟩, ⟨by repeat (first | (with_reducible first | exact HB.out | apply below_alloc | apply pw_below_drewN | apply below_drew1 | refine below_set ?_ GE258.out) | exact HB.out)⟩⟩
   ·rw [if_neg c16] at H
    have c16b0 : (t265 == t269) = false := beq_eq_false_iff_ne.mpr c16
    have c16b1 : (t265 != t269) = true := bne_iff_ne.mpr c16
    (first | rw [c16b0] | (simp only [i64_w, i32_w]; rw [c16b0]) | skip)
    have H' := Aside0.mk H
    clear H
    obtain ⟨Ao20, co20, eo20⟩ := Kd.R_slice HO264.out
    subst eo20
    obtain ⟨Ao21, co21, eo21⟩ := Kd.R_slice HO268.out
    subst eo21
    go_wp2_with (first | ((with_reducible refine gate_callee (f := 13) rfl ?_); refine goesL_ (some 27) rfl rfl Try.func13 (by kernel_rfl) rfl #[.slice Ao20 t262.length co20, .slice Ao21 t266.length co21] rfl (by (try simp only [List.map_toArray, List.map_cons, List.map_nil]); first | done | rfl | (simp only [List.length_drop, List.length_take]; rfl)) ?_; (with_reducible refine (rialtoref20_Same.calls k _ _ t262 _ _ t266 true _ ?side1 ?side2 ?side3 ?side4 A14.out).mono ?_); (case side1 => repeat (first | exact (Kd.R_reads' HO264.out).2.2 | (with_reducible refine Kd.C_alloc ?_ _) | (with_reducible refine Kd.C_drewN ?_ _) | (with_reducible refine Kd.C_drew ?_))); (case side2 => exact (Kd.R_reads' HO264.out).2.1); (case side3 => repeat (first | exact (Kd.R_reads' HO268.out).2.2 | (with_reducible refine Kd.C_alloc ?_ _) | (with_reducible refine Kd.C_drewN ?_ _) | (with_reducible refine Kd.C_drew ?_))); (case side4 => exact (Kd.R_reads' HO268.out).2.1); rintro e w' ⟨rfl, ⟨nd, rfl⟩⟩; refine ⟨_, rfl, ?_⟩))
    go_meet
    case rel => exact ⟨_, (true), (by first | rfl | (simp; done) | (simp [*]; done)), H', ⟨by first | omega | exact Nat.le_refl _⟩, ⟨by (with_reducible repeat (first | apply Kd.R_alloc | apply Kd.R_drewN | apply Kd.R_drew)); exact Kd.R_mono HO261.out (fun _ hk => ⟨hk.1.2, hk.1.1.2⟩)⟩, ⟨by (with_reducible repeat (first | apply Kd.R_alloc | apply Kd.R_drewN | apply Kd.R_drew)); exact Kd.R_mono HO264.out (fun _ hk => ⟨hk.1.1.2, hk.1.2⟩)⟩, ⟨by exact bk_ BK258.out⟩, ⟨by repeat (first | (with_reducible first | exact HB.out | apply below_alloc | apply pw_below_drewN | apply below_drew1 | refine below_set ?_ GE258.out) | exact HB.out)⟩⟩
  ·replace c15 := Bool.eq_false_iff.mpr c15
   subst c15
   have H1 : (rialtolaw20_ShardmapLearns.j0 k l0 t259 t262 true) = some r := by rw [if_neg (show ¬ (false = true) by decide)] at H; exact H
   clear H
   have H := H1
   clear H1
   have H' := Aside0.mk H
   clear H
   obtain ⟨Ao22, co22, eo22⟩ := Kd.R_slice HO264.out
   subst eo22
   obtain ⟨Ao23, co23, eo23⟩ := Kd.R_slice HO268.out
   subst eo23
   go_wp2_with (first | ((with_reducible refine gate_callee (f := 13) rfl ?_); refine goesL_ (some 27) rfl rfl Try.func13 (by kernel_rfl) rfl #[.slice Ao22 t262.length co22, .slice Ao23 t266.length co23] rfl (by (try simp only [List.map_toArray, List.map_cons, List.map_nil]); first | done | rfl | (simp only [List.length_drop, List.length_take]; rfl)) ?_; (with_reducible refine (rialtoref20_Same.calls k _ _ t262 _ _ t266 false _ ?side1 ?side2 ?side3 ?side4 A14.out).mono ?_); (case side1 => repeat (first | exact (Kd.R_reads' HO264.out).2.2 | (with_reducible refine Kd.C_alloc ?_ _) | (with_reducible refine Kd.C_drewN ?_ _) | (with_reducible refine Kd.C_drew ?_))); (case side2 => exact (Kd.R_reads' HO264.out).2.1); (case side3 => repeat (first | exact (Kd.R_reads' HO268.out).2.2 | (with_reducible refine Kd.C_alloc ?_ _) | (with_reducible refine Kd.C_drewN ?_ _) | (with_reducible refine Kd.C_drew ?_))); (case side4 => exact (Kd.R_reads' HO268.out).2.1); rintro e w' ⟨rfl, ⟨nd, rfl⟩⟩; refine ⟨_, rfl, ?_⟩))
   go_meet
   case rel => exact ⟨_, (true), (by first | rfl | (simp; done) | (simp [*]; done)), H', ⟨by first | omega | exact Nat.le_refl _⟩, ⟨by (with_reducible repeat (first | apply Kd.R_alloc | apply Kd.R_drewN | apply Kd.R_drew)); exact Kd.R_mono HO261.out (fun _ hk => ⟨hk.1.2, hk.1.1.2⟩)⟩, ⟨by (with_reducible repeat (first | apply Kd.R_alloc | apply Kd.R_drewN | apply Kd.R_drew)); exact Kd.R_mono HO264.out (fun _ hk => ⟨hk.1.1.2, hk.1.2⟩)⟩, ⟨by exact bk_ BK258.out⟩, ⟨by repeat (first | (with_reducible first | exact HB.out | apply below_alloc | apply pw_below_drewN | apply below_drew1 | refine below_set ?_ GE258.out) | exact HB.out)⟩⟩
 case rest =>
  clear HC6
  try clear c1
  try clear p2
  try clear c4
  try clear c8
  try clear c13
  try clear c15
  try clear c16
  try clear c16b0
  try clear c16b1
  try clear hcz12_0
  try clear hcz12_1
  try clear hcz12_2
  try clear hcz12_3
  try clear hcz9_0
  try clear hcz9_1
  try clear hcz9_2
  try clear hcz9_3
  try clear hfz12_0
  try clear hfz12_1
  try clear hfz12_2
  try clear hfz12_3
  try clear hfz9_0
  try clear hfz9_1
  try clear hfz9_2
  try clear hfz9_3
  obtain ⟨kq, x39_5, rfl, HA, HJ5, HO_5, HO_6, BK258, HB⟩ := hcut
  cases kq with
  | zero => exact absurd HA.out (by simp [rialtolaw20_ShardmapLearns.j0])
  | succ kj5 =>
   have H := HA.out
   clear HA
   simp only [rialtolaw20_ShardmapLearns.j0] at H
   by_cases c24 : x39_5 = true
   ·subst c24
    have H1 : (some false) = some r := by rw [if_pos rfl] at H; exact H
    clear H
    have H := H1
    clear H1
    obtain rfl := Option.some.inj H
    go_wp2
    go_ret
    exact ⟨by first | rfl | (simp [errW_none, errW_some] <;> rfl) | (simp [*, errW_none, errW_some] <;> rfl), by repeat (first | (with_reducible first | exact HB.out | apply below_alloc | apply pw_below_drewN | apply below_drew1 | refine below_set ?_ GE258.out) | exact HB.out)⟩
   ·replace c24 := Bool.eq_false_iff.mpr c24
    subst c24
    have H1 : (rialtolaw20_ShardmapLearns.l0 kj5 l0 t259 t262 0) = some r := by rw [if_neg (show ¬ (false = true) by decide)] at H; exact H
    clear H
    have H := H1
    clear H1
    have H' := Aside0.mk H
    clear H
    go_wp2
    go_loopg [10] kj5 (fun kq v10 w' => ∃ (x6_2 : List (S30)) (x10_2 : Int) (x259002_2 : Int), v10 = .int .i64 x10_2 ∧ Aside0 (rialtolaw20_ShardmapLearns.l0 kq l0 t259 x6_2 x10_2 = some r) ∧ Aside0 (kq ≤ kj5) ∧ Aside0 (Kd.R k30 30 w' w.heap.size (fun k_ => some k_ ≠ (v263 : Value).ownBlock ∧ k_ ≠ gb258) (.slice Ao10 t259.length co10) t259) ∧ Aside0 (Kd.R k30 30 w' w.heap.size (fun k_ => some k_ ≠ ((.slice Ao10 t259.length co10) : Value).ownBlock ∧ k_ ≠ gb258) v263 x6_2) ∧ Aside0 (w'.heap[gb258]? = some (.cells #[.int .i64 a1_0, .int .i64 a1_1, .int .i64 x259002_2, .int .i64 a1_3] 30 (0, 0))) ∧ Aside0 (Below w.heap.size w w'))
    case atStart => exact ⟨(t262), (0), (a1_2), (by first | rfl | (simp; done) | (simp [*]; done)), H', ⟨Nat.le_refl _⟩, ⟨by exact rk_ HO_5.out⟩, ⟨by exact rk_ HO_6.out⟩, ⟨by exact bk_ BK258.out⟩, ⟨by repeat (first | (with_reducible first | exact HB.out | apply below_alloc | apply pw_below_drewN | apply below_drew1 | refine below_set ?_ GE258.out) | exact HB.out)⟩⟩
    case round =>
     clear H'
     try clear c1
     try clear c2
     try clear p2
     try clear c4
     try clear c8
     try clear c13
     try clear c15
     try clear c16
     try clear c16b0
     try clear c16b1
     try clear c24
     try clear hcz12_0
     try clear hcz12_1
     try clear hcz12_2
     try clear hcz12_3
     try clear hcz9_0
     try clear hcz9_1
     try clear hcz9_2
     try clear hcz9_3
     try clear hfz12_0
     try clear hfz12_1
     try clear hfz12_2
     try clear hfz12_3
     try clear hfz9_0
     try clear hfz9_1
     try clear hfz9_2
     try clear hfz9_3
     try clear p2
     obtain ⟨x6_2, x10_2, x259002_2, rfl, HA, HK2, HO_5, HO_6, BK258, HB⟩ := hrel
     cases gk with
     | zero => exact absurd HA.out (by simp [rialtolaw20_ShardmapLearns.l0])
     | succ k2 =>
      have H := HA.out
      clear HA
      simp only [rialtolaw20_ShardmapLearns.l0] at H
      by_cases c25 : x10_2 < (x6_2.length : Int)
      ·rw [if_pos c25] at H
       have c25b0 : decide (x10_2 < (x6_2.length : Int)) = true := decide_eq_true c25
       clear c25
       by_cases c26 : 0 ≤ x10_2
       ·rw [if_pos c26] at H
        have c26b0 : decide (0 ≤ x10_2) = true := decide_eq_true c26
        clear c26
        obtain ⟨y272, hy272⟩ : ∃ y_ : List (S30), y_ = (x6_2.set (x10_2 : Int).toNat (⟨(⟨(rd_T30 x6_2 x10_2).f0.f0, (rd_T30 x6_2 x10_2).f0.f1⟩ : S24), (-1), (rd_T30 x6_2 x10_2).f2⟩ : S30)) := ⟨_, rfl⟩
        replace H : (rialtolaw20_ShardmapLearns.l0 k2 l0 t259 y272 (wrap64 (x10_2 + 1))) = some r := by first | (rw [hy272]; with_reducible exact H) | (have H2_ := (Option.bind_some _ _).symm.trans H; rw [hy272]; with_reducible exact H2_) | (have H2_ := (Option.bind_some _ _).symm.trans H; with_reducible exact H2_) | with_reducible exact H | (rw [hy272]; exact H) | exact H
        have Ny272 := Aside0.mk hy272
        clear hy272
        have H' := Aside0.mk H
        clear H
        obtain ⟨Ao28, co28, eo28⟩ := Kd.R_slice HO_6.out
        subst eo28
        have p27 : 0 ≤ (x10_2 : Int) := of_decide_eq_true (by first | (with_reducible assumption) | assumption)
        have q27 : (x10_2 : Int) < ((x6_2.length : Int) : Int) := of_decide_eq_true (by first | (with_reducible assumption) | assumption)
        obtain ⟨go27, co27, eo27, gb27, gl27, cl27, HG27⟩ := Kd.R_form HO_6.out (by omega)
        (first | cases eo27 | (injection eo27 with ea_ en_ ec_; (first | subst ea_ | (injection ea_ with ea_; subst ea_)); subst ec_; clear en_))
        have GB27 := Aside0.mk gb27
        have GG27 := Aside0.mk HG27
        clear gb27 gl27 HG27
        obtain ⟨ce27, hcl27, hM27, hcc27, hfr27⟩ := Kd.R_elem HO_6.out z30 (x10_2 : Int) p27 q27
        obtain rfl := k30_openM hM27
        have hx27_0 : wr.cell? ⟨go27, (x10_2 : Int).toNat * 4, none⟩ = some (.int .i64 ((rd_T30 x6_2 x10_2).f0.f0)) := hcc27 0 _ rfl
        have hx27_1 : wr.cell? ⟨go27, (x10_2 : Int).toNat * 4 + 1, none⟩ = some (.int .i64 ((rd_T30 x6_2 x10_2).f0.f1)) := hcc27 1 _ rfl
        have hx27_2 : wr.cell? ⟨go27, (x10_2 : Int).toNat * 4 + 2, none⟩ = some (.int .i64 ((rd_T30 x6_2 x10_2).f1)) := hcc27 2 _ rfl
        have hx27_3 : wr.cell? ⟨go27, (x10_2 : Int).toNat * 4 + 3, none⟩ = some (.int .i64 ((rd_T30 x6_2 x10_2).f2)) := hcc27 3 _ rfl
        have hf27_0 : wr.frozen? ⟨go27, (x10_2 : Int).toNat * 4, none⟩ = false := hfr27 0
        have hf27_1 : wr.frozen? ⟨go27, (x10_2 : Int).toNat * 4 + 1, none⟩ = false := hfr27 1
        have hf27_2 : wr.frozen? ⟨go27, (x10_2 : Int).toNat * 4 + 2, none⟩ = false := hfr27 2
        have hf27_3 : wr.frozen? ⟨go27, (x10_2 : Int).toNat * 4 + 3, none⟩ = false := hfr27 3
        clear hcl27 hcc27 hfr27 hM27
        replace p27 := eq_true p27
        replace q27 := eq_true q27
        have HX29 := Aside0.mk (show Kd.R k30 30 wr w.heap.size (fun k_ => some k_ ≠ (.slice Ao10 t259.length co10 : Value).ownBlock ∧ k_ ≠ gb258) (.slice (some ⟨go27, 0, none⟩) x6_2.length co28) x6_2 from (by exact rk_ HO_6.out))
        obtain ⟨ce29, hcl29, hM29, hcc29, hfr29⟩ := Kd.R_elem HX29.out z30 (x10_2 : Int) (of_decide_eq_true (by first | (with_reducible assumption) | assumption)) (by have h_ : (x10_2 : Int) < ((x6_2.length : Int) : Int) := of_decide_eq_true (by first | (with_reducible assumption) | assumption); first | exact h_ | (have e_ := (Kd.R_reads' HO_6.out).1; omega) | simpa using h_)
        obtain rfl := k30_openM hM29
        have HP29 := Kd.R_seg HX29.out (x10_2 : Int) (of_decide_eq_true (by first | (with_reducible assumption) | assumption)) (by have h_ : (x10_2 : Int) < ((x6_2.length : Int) : Int) := of_decide_eq_true (by first | (with_reducible assumption) | assumption); first | exact h_ | (have e_ := (Kd.R_reads' HO_6.out).1; omega) | simpa using h_) (seg := [.int .i64 (-1)]) (j := 2) hcl29 hcc29 (show 3 ≤ 4 from by decide) (x' := (⟨(⟨(rd_T30 x6_2 x10_2).f0.f0, (rd_T30 x6_2 x10_2).f0.f1⟩ : S24), (-1), (rd_T30 x6_2 x10_2).f2⟩ : S30)) (k30_mkM _ _ _ (⟨(⟨(rd_T30 x6_2 x10_2).f0.f0, (rd_T30 x6_2 x10_2).f0.f1⟩ : S24), (-1), (rd_T30 x6_2 x10_2).f2⟩ : S30) ) (fun _ hk => hk)
        have hx29_2 := hcc29 2 _ rfl
        (try simp only [show (k30).sz = 4 from rfl, Nat.mul_one, Nat.add_zero] at hx29_2)
        have hf29_2 := hfr29 2
        (try simp only [show (k30).sz = 4 from rfl, Nat.mul_one, Nat.add_zero] at hf29_2)
        clear hcl29 hcc29 hfr29 hM29
        go_wp2_with (first | ((with_reducible refine gate_store (t := 3) (p := 49) rfl ?_); refine store_event (t := 3) (p := 49) (v := ?vo_w30) (w1 := (wr.setCell ⟨go27, (x10_2 : Int).toNat * 4 + 2, none⟩ (.int .i64 (-1)))) ?hg ?ho ?hn ?hr ?_; (case ho => rfl); (case hg => rfl); (case hn => rfl); (case hr => first | (go_simp; done) | (go_simp; rfl)); intro w30 hw; have hg : wr.grownBy w30 (some go27) := (by rw [hw]; exact HP29.2); have hp_ : Kd.R k30 30 w30 w.heap.size (fun k_ => some k_ ≠ (.slice Ao10 t259.length co10 : Value).ownBlock ∧ k_ ≠ gb258) (.slice (some ⟨go27, 0, none⟩) x6_2.length co28) y272 := (by rw [hw, Ny272.out]; exact HP29.1); clear HP29; have n0_ := Aside0.mk (Kd.R_after (v := (.slice (some ⟨go27, 0, none⟩) x6_2.length co28)) (v1 := (.slice (some ⟨go27, 0, none⟩) x6_2.length co28)) (ok := (fun k_ => k_ ≠ gb258)) (by (with_reducible repeat (first | apply Kd.R_alloc | apply Kd.R_drewN | apply Kd.R_drew)); exact Kd.R_mono HO_5.out (fun _ hk => ⟨hk.2, hk.1⟩)) hg (.inl rfl)); have n1_ := Aside0.mk (hp_); have n2_ := Aside0.mk (blk_grown (g := gb258) (o := .cells #[.int .i64 a1_0, .int .i64 a1_1, .int .i64 x259002_2, .int .i64 a1_3] 30 (0, 0)) (by exact bk_ BK258.out) hg (Kd.R_away HO_6.out (fun _ hk => hk.2))); have n3_ := Aside0.mk ((by rw [hw]; exact below_set (HB.out) GB27.out : Below w.heap.size w w30)); clear HO_5; clear HO_6; clear BK258; clear HB; have HO_5 := n0_; have HO_6 := n1_; have BK258 := n2_; have HB := n3_; clear n0_ n1_ n2_ n3_; clear hg hw hp_))
        go_roundg k2
        case measure => have := HJ5.out; have := HK2.out; omega
        case rel => exact ⟨(y272), (wrap64 (x10_2 + 1)), (x259002_2), (by first | rfl | (simp; done) | (simp [*]; done)), H', ⟨by have := HJ5.out; have := HK2.out; omega⟩, ⟨by (with_reducible repeat (first | apply Kd.R_alloc | apply Kd.R_drewN | apply Kd.R_drew)); exact Kd.R_mono HO_5.out (fun _ hk => ⟨hk.2, hk.1⟩)⟩, ⟨by exact rk_ HO_6.out⟩, ⟨by exact bk_ BK258.out⟩, ⟨by repeat (first | (with_reducible first | exact HB.out | apply below_alloc | apply pw_below_drewN | apply below_drew1 | refine below_set ?_ GE258.out) | exact HB.out)⟩⟩
       ·rw [if_neg c26] at H
        exact absurd H (by simp)
      ·rw [if_neg c25] at H
       have c25b0 : decide (x10_2 < (x6_2.length : Int)) = false := decide_eq_false c25
       clear c25
       replace H := Option.bind_eq_some_iff.mp H
       obtain ⟨t273, A310, H⟩ := H
       replace H : (if t273 = true then ((rialtolaw20_live.f k2).bind fun t274 => (some t274)) else (some false)) = some r := H
       have A31 := Aside0.mk A310
       clear A310
       by_cases c32 : t273 = true
       ·subst c32
        have H1 : ((rialtolaw20_live.f k2).bind fun t274 => (some t274)) = some r := by rw [if_pos rfl] at H; exact H
        clear H
        have H := H1
        clear H1
        replace H := Option.bind_eq_some_iff.mp H
        obtain ⟨t274, A330, H⟩ := H
        replace H : (some t274) = some r := H
        have A33 := Aside0.mk A330
        clear A330
        obtain rfl := Option.some.inj H
        obtain ⟨Ao34, co34, eo34⟩ := Kd.R_slice HO_6.out
        subst eo34
        go_wp2_with (first | ((with_reducible refine gate_callee (f := 13) rfl ?_); refine goesL_ (some 52) rfl rfl Try.func13 (by kernel_rfl) rfl #[.slice Ao10 t259.length co10, .slice A0 l0.length c0] rfl (by (try simp only [List.map_toArray, List.map_cons, List.map_nil]); first | done | rfl | (simp only [List.length_drop, List.length_take]; rfl)) ?_; (with_reducible refine (rialtoref20_Same.calls k2 _ _ t259 _ _ l0 true _ ?side1 ?side2 ?side3 ?side4 A31.out).mono ?_); (case side1 => repeat (first | exact (Kd.R_reads' HO_5.out).2.2 | (with_reducible refine Kd.C_alloc ?_ _) | (with_reducible refine Kd.C_drewN ?_ _) | (with_reducible refine Kd.C_drew ?_))); (case side2 => exact (Kd.R_reads' HO_5.out).2.1); (case side3 => repeat (first | exact (Kd.C_below HR0.out HB.out) | (with_reducible refine Kd.C_alloc ?_ _) | (with_reducible refine Kd.C_drewN ?_ _) | (with_reducible refine Kd.C_drew ?_))); (case side4 => exact HC0.out); rintro e w' ⟨rfl, ⟨nd, rfl⟩⟩; refine ⟨_, rfl, ?_⟩) | (go_at_call 14; (with_reducible refine (rialtolaw20_live.calls k2  t274 _ A33.out).mono ?_); rintro e w35 ⟨rfl, hb⟩; have n0_ := Aside0.mk (Kd.R_below (by exact rk_ HO_5.out) hb); have n1_ := Aside0.mk (Kd.R_below (by exact rk_ HO_6.out) hb); have n2_ := Aside0.mk (blk_below (g := gb258) (o := .cells #[.int .i64 a1_0, .int .i64 a1_1, .int .i64 x259002_2, .int .i64 a1_3] 30 (0, 0)) (by exact bk_ BK258.out) hb); have n3_ := Aside0.mk (below_step (by repeat (first | (with_reducible first | exact HB.out | apply below_alloc | apply pw_below_drewN | apply below_drew1 | refine below_set ?_ GE258.out) | exact HB.out)) hb); clear HO_5; clear HO_6; clear BK258; clear HB; have HO_5 := n0_; have HO_6 := n1_; have BK258 := n2_; have HB := n3_; clear n0_ n1_ n2_ n3_; (try clear hb); (try clear hb2); (try clear hk); (try clear hi)))
        go_ret
        exact ⟨by first | rfl | (simp [errW_none, errW_some] <;> rfl) | (simp [*, errW_none, errW_some] <;> rfl), by repeat (first | (with_reducible first | exact HB.out | apply below_alloc | apply pw_below_drewN | apply below_drew1 | refine below_set ?_ GE258.out) | exact HB.out)⟩
       ·replace c32 := Bool.eq_false_iff.mpr c32
        subst c32
        have H1 : (some false) = some r := by rw [if_neg (show ¬ (false = true) by decide)] at H; exact H
        clear H
        have H := H1
        clear H1
        obtain rfl := Option.some.inj H
        obtain ⟨Ao36, co36, eo36⟩ := Kd.R_slice HO_6.out
        subst eo36
        go_wp2_with (first | ((with_reducible refine gate_callee (f := 13) rfl ?_); refine goesL_ (some 52) rfl rfl Try.func13 (by kernel_rfl) rfl #[.slice Ao10 t259.length co10, .slice A0 l0.length c0] rfl (by (try simp only [List.map_toArray, List.map_cons, List.map_nil]); first | done | rfl | (simp only [List.length_drop, List.length_take]; rfl)) ?_; (with_reducible refine (rialtoref20_Same.calls k2 _ _ t259 _ _ l0 false _ ?side1 ?side2 ?side3 ?side4 A31.out).mono ?_); (case side1 => repeat (first | exact (Kd.R_reads' HO_5.out).2.2 | (with_reducible refine Kd.C_alloc ?_ _) | (with_reducible refine Kd.C_drewN ?_ _) | (with_reducible refine Kd.C_drew ?_))); (case side2 => exact (Kd.R_reads' HO_5.out).2.1); (case side3 => repeat (first | exact (Kd.C_below HR0.out HB.out) | (with_reducible refine Kd.C_alloc ?_ _) | (with_reducible refine Kd.C_drewN ?_ _) | (with_reducible refine Kd.C_drew ?_))); (case side4 => exact HC0.out); rintro e w' ⟨rfl, ⟨nd, rfl⟩⟩; refine ⟨_, rfl, ?_⟩))
        go_ret
        exact ⟨by first | rfl | (simp [errW_none, errW_some] <;> rfl) | (simp [*, errW_none, errW_some] <;> rfl), by repeat (first | (with_reducible first | exact HB.out | apply below_alloc | apply pw_below_drewN | apply below_drew1 | refine below_set ?_ GE258.out) | exact HB.out)⟩

open Go.Proofs.YthflfekhanjlnaaG
def B24 (x : S24) : Prop := ((Lit.int .i64 x.f0).wf = true) ∧ ((Lit.int .i64 x.f1).wf = true)
theorem opens24 : Opens Try.prog k24 24 B24 := opens_struct (g := fun y => (⟨y.1, y.2⟩ : S24)) Try.underlying24 (by kernel_rfl) (fun _ => rfl) (opensL_cons rfl (by kernel_rfl) (opens_int Try.underlying3) (opensL_one rfl (by kernel_rfl) (opens_int Try.underlying3)))
def B30 (x : S30) : Prop := (B24 x.f0) ∧ ((Lit.int .i64 x.f1).wf = true) ∧ ((Lit.int .i64 x.f2).wf = true)
theorem opens30 : Opens Try.prog k30 30 B30 := opens_struct (g := fun y => (⟨y.1, y.2.1, y.2.2⟩ : S30)) Try.underlying30 (by kernel_rfl) (fun _ => rfl) (opensL_cons rfl (by kernel_rfl) opens24 (opensL_cons rfl (by kernel_rfl) (opens_int Try.underlying3) (opensL_one rfl (by kernel_rfl) (opens_int Try.underlying3))))
/-- THE PURE STATEMENT of rialtolaw20_ShardmapLearns. -/
def rialtolaw20_ShardmapLearns.Pure : Prop := ∀ (x0 : List (S30)) (x1 : S30), ((x0.length * 32 ≤ 140737488351232 ∧ x0.length ≤ 9223372036854775807 ∧ ∀ y_ ∈ x0, B30 y_)) → (B30 x1) → ∃ k, rialtolaw20_ShardmapLearns.f k x0 x1.f0.f0 x1.f0.f1 x1.f1 x1.f2 = some true

end Go.Proofs.Ythflfekhanjlnaa.P
