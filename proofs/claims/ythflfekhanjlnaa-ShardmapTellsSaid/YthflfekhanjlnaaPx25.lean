/- Functions that the laws reach, told as plain functions, each with a proof that the call computes it; for every input. Written by a program of ours out of the translation. -/
import Derived.Test.YthflfekhanjlnaaPx0
import Derived.Test.YthflfekhanjlnaaPx2
import Derived.Test.YthflfekhanjlnaaPx3
import Derived.Test.YthflfekhanjlnaaPx5
import Derived.Test.YthflfekhanjlnaaPx7
import Derived.Test.YthflfekhanjlnaaPx16
import Derived.Test.YthflfekhanjlnaaPx19
import Derived.Test.YthflfekhanjlnaaPx20
import Derived.Test.YthflfekhanjlnaaPx24
namespace Go.Proofs.Ythflfekhanjlnaa.P
open Go.RowKit Go.Proofs.YthflfekhanjlnaaW.PrintWords Go.Proofs.YthflfekhanjlnaaW.PrintLast Go.Proofs.YthflfekhanjlnaaW.PrintMore
open Go.Proofs.YthflfekhanjlnaaG (bk_ bl_ rk_)
attribute [local go_sem] max2_int min2_int max_two min_two max_three min_three max_four min_four   -- for this text's walks alone
set_option linter.unusedVariables false
set_option linter.unusedSimpArgs false

attribute [local go_sem high] eqA30
/-! ### rialtolaw20_ShardmapTells: function 3 -/
def rialtolaw20_ShardmapTells.f (k : Nat) (l0 : List (S30)) (a1_0 : Int) (a1_1 : Int) (a2 : Int) : Option (Bool) := (rialtoref20_Copy.f l0).bind fun t210 => ((shardmap_Home.f k a1_0 a1_1 a2).bind fun bt213 => ((rialtoref20_Home.f k a1_0 a1_1 a2).bind fun bt215 => ((shardmap_Owner.f k t210 a1_0 a1_1 a2).bind fun bt217 => ((rialtoref20_Owner.f k l0 a1_0 a1_1 a2).bind fun bt223 => (if bt213.1 = bt215.1 then (if bt213.2 = bt215.2 then (if ((bt217.1 == bt223.1 && (bt217.2.1 == bt223.2.1)) && (bt217.2.2.1 == bt223.2.2.1 && (bt217.2.2.2.1 == bt223.2.2.2.1))) = true then (if bt217.2.2.2.2 = bt223.2.2.2.2 then ((rialtoref20_Same.f k t210 l0).bind fun t229 => (if t229 = true then ((rialtolaw20_live.f k).bind fun t230 => (some t230)) else (some false))) else (some false)) else (some false)) else (some false)) else (some false))))))
theorem rialtolaw20_ShardmapTells.mono : ∀ a0 a1 a2 a3 k, LeO (rialtolaw20_ShardmapTells.f k a0 a1 a2 a3) (rialtolaw20_ShardmapTells.f (k + 1) a0 a1 a2 a3) := by
 intro a0 a1 a2 a3 k
 unfold rialtolaw20_ShardmapTells.f
 repeat' first
   | (with_reducible exact rialtolaw20_live.mono _)
   | (with_reducible exact rialtoref20_Home.mono _ _ _ _)
   | (with_reducible exact rialtoref20_Owner.mono _ _ _ _ _)
   | (with_reducible exact rialtoref20_Same.mono _ _ _)
   | (with_reducible exact shardmap_Home.mono _ _ _ _)
   | (with_reducible exact shardmap_Owner.mono _ _ _ _ _)
   | (with_reducible exact LeO.refl _)
   | (with_reducible exact LeO.none _)
   | (with_reducible refine LeO.ite ?_ ?_)
   | (with_reducible refine LeO.bind ?_ (fun _ => ?_))
   | exact rialtolaw20_live.mono _
   | exact rialtoref20_Home.mono _ _ _ _
   | exact rialtoref20_Owner.mono _ _ _ _ _
   | exact rialtoref20_Same.mono _ _ _
   | exact shardmap_Home.mono _ _ _ _
   | exact shardmap_Owner.mono _ _ _ _ _
   | exact LeO.none _
   | refine LeO.ite ?_ ?_
   | refine LeO.bind ?_ (fun _ => ?_)
set_option maxHeartbeats 8000000 in
set_option maxRecDepth 100000 in
theorem rialtolaw20_ShardmapTells.calls (k : Nat) (A0 : Option Addr) (c0 : Nat) (l0 : List (S30)) (a1_0 : Int) (a1_1 : Int) (a2 : Int) (r : Bool) (w : World) (hr0 : Kd.C k30 w A0 l0.length l0) (hc0 : l0.length ≤ c0) (h : rialtolaw20_ShardmapTells.f k l0 a1_0 a1_1 a2 = some r) :
  Calls Try.prog 3 #[.slice A0 l0.length c0, .agg #[.int .i64 a1_0, .int .i64 a1_1], .int .i64 a2] w fun e w' => e = .returned (.bool r) ∧ Below w.heap.size w w' := by
 have hu24 := Try.underlying24
 have hu30 := Try.underlying30
 have HR0 := Aside0.mk hr0
 have HC0 := Aside0.mk hc0
 clear hr0 hc0
 have HB := Aside0.mk (Below.refl w.heap.size w)
 have H : ((rialtoref20_Copy.f l0).bind fun t210 => ((shardmap_Home.f k a1_0 a1_1 a2).bind fun bt213 => ((rialtoref20_Home.f k a1_0 a1_1 a2).bind fun bt215 => ((shardmap_Owner.f k t210 a1_0 a1_1 a2).bind fun bt217 => ((rialtoref20_Owner.f k l0 a1_0 a1_1 a2).bind fun bt223 => (if bt213.1 = bt215.1 then (if bt213.2 = bt215.2 then (if ((bt217.1 == bt223.1 && (bt217.2.1 == bt223.2.1)) && (bt217.2.2.1 == bt223.2.2.1 && (bt217.2.2.2.1 == bt223.2.2.2.1))) = true then (if bt217.2.2.2.2 = bt223.2.2.2.2 then ((rialtoref20_Same.f k t210 l0).bind fun t229 => (if t229 = true then ((rialtolaw20_live.f k).bind fun t230 => (some t230)) else (some false))) else (some false)) else (some false)) else (some false)) else (some false))))))) = some r := h
 clear h
 replace H := Option.bind_eq_some_iff.mp H
 obtain ⟨t210, A40, H⟩ := H
 replace H : ((shardmap_Home.f k a1_0 a1_1 a2).bind fun bt213 => ((rialtoref20_Home.f k a1_0 a1_1 a2).bind fun bt215 => ((shardmap_Owner.f k t210 a1_0 a1_1 a2).bind fun bt217 => ((rialtoref20_Owner.f k l0 a1_0 a1_1 a2).bind fun bt223 => (if bt213.1 = bt215.1 then (if bt213.2 = bt215.2 then (if ((bt217.1 == bt223.1 && (bt217.2.1 == bt223.2.1)) && (bt217.2.2.1 == bt223.2.2.1 && (bt217.2.2.2.1 == bt223.2.2.2.1))) = true then (if bt217.2.2.2.2 = bt223.2.2.2.2 then ((rialtoref20_Same.f k t210 l0).bind fun t229 => (if t229 = true then ((rialtolaw20_live.f k).bind fun t230 => (some t230)) else (some false))) else (some false)) else (some false)) else (some false)) else (some false)))))) = some r := H
 have A4 := Aside0.mk A40
 clear A40
 replace H := Option.bind_eq_some_iff.mp H
 obtain ⟨⟨t213, t214⟩, A50, H⟩ := H
 replace H : ((rialtoref20_Home.f k a1_0 a1_1 a2).bind fun bt215 => ((shardmap_Owner.f k t210 a1_0 a1_1 a2).bind fun bt217 => ((rialtoref20_Owner.f k l0 a1_0 a1_1 a2).bind fun bt223 => (if t213 = bt215.1 then (if t214 = bt215.2 then (if ((bt217.1 == bt223.1 && (bt217.2.1 == bt223.2.1)) && (bt217.2.2.1 == bt223.2.2.1 && (bt217.2.2.2.1 == bt223.2.2.2.1))) = true then (if bt217.2.2.2.2 = bt223.2.2.2.2 then ((rialtoref20_Same.f k t210 l0).bind fun t229 => (if t229 = true then ((rialtolaw20_live.f k).bind fun t230 => (some t230)) else (some false))) else (some false)) else (some false)) else (some false)) else (some false))))) = some r := H
 have A5 := Aside0.mk A50
 clear A50
 replace H := Option.bind_eq_some_iff.mp H
 obtain ⟨⟨t215, t216⟩, A60, H⟩ := H
 replace H : ((shardmap_Owner.f k t210 a1_0 a1_1 a2).bind fun bt217 => ((rialtoref20_Owner.f k l0 a1_0 a1_1 a2).bind fun bt223 => (if t213 = t215 then (if t214 = t216 then (if ((bt217.1 == bt223.1 && (bt217.2.1 == bt223.2.1)) && (bt217.2.2.1 == bt223.2.2.1 && (bt217.2.2.2.1 == bt223.2.2.2.1))) = true then (if bt217.2.2.2.2 = bt223.2.2.2.2 then ((rialtoref20_Same.f k t210 l0).bind fun t229 => (if t229 = true then ((rialtolaw20_live.f k).bind fun t230 => (some t230)) else (some false))) else (some false)) else (some false)) else (some false)) else (some false)))) = some r := H
 have A6 := Aside0.mk A60
 clear A60
 replace H := Option.bind_eq_some_iff.mp H
 obtain ⟨⟨t217, t218, t219, t220, t221⟩, A70, H⟩ := H
 replace H : ((rialtoref20_Owner.f k l0 a1_0 a1_1 a2).bind fun bt223 => (if t213 = t215 then (if t214 = t216 then (if ((t217 == bt223.1 && (t218 == bt223.2.1)) && (t219 == bt223.2.2.1 && (t220 == bt223.2.2.2.1))) = true then (if t221 = bt223.2.2.2.2 then ((rialtoref20_Same.f k t210 l0).bind fun t229 => (if t229 = true then ((rialtolaw20_live.f k).bind fun t230 => (some t230)) else (some false))) else (some false)) else (some false)) else (some false)) else (some false))) = some r := H
 have A7 := Aside0.mk A70
 clear A70
 replace H := Option.bind_eq_some_iff.mp H
 obtain ⟨⟨t223, t224, t225, t226, t227⟩, A80, H⟩ := H
 replace H : (if t213 = t215 then (if t214 = t216 then (if ((t217 == t223 && (t218 == t224)) && (t219 == t225 && (t220 == t226))) = true then (if t221 = t227 then ((rialtoref20_Same.f k t210 l0).bind fun t229 => (if t229 = true then ((rialtolaw20_live.f k).bind fun t230 => (some t230)) else (some false))) else (some false)) else (some false)) else (some false)) else (some false)) = some r := H
 have A8 := Aside0.mk A80
 clear A80
 go_enter Try.func3, Try.ntmps3
 go_upto_region 6 with (first | ((with_reducible refine gate_dst (N := 4) rfl ?_); refine box_event ?hg (N := 4) ?hd (cs := #[.int .i64 a1_0, .int .i64 a1_1]) (t := 24) ?hr ?_; (case hd => rfl); (case hg => rfl); (case hr => first | (go_simp; done) | (go_simp; rfl)); intro gb209 hg w111 hbox hb; have n0_ := Aside0.mk (below_step (by exact bl_ HB.out) hb); have n1_ := Aside0.mk (hbox); have n2_ := Aside0.mk ((by rw [hg]; exact (below_size (by exact bl_ HB.out)) : w.heap.size ≤ gb209)); have n3_ := Aside0.mk ((by rw [hg]; exact (below_size (by exact bl_ HB.out)) : w.heap.size ≤ gb209)); clear HB; have HB := n0_; have BK209 := n1_; have GW209 := n2_; have GE209 := n3_; clear n0_ n1_ n2_ n3_; clear hb hbox hg) | ((with_reducible refine gate_callee (f := 8) rfl ?_); refine goesL_ (some 17) rfl rfl Try.func8 (by kernel_rfl) rfl #[.slice A0 l0.length c0] rfl (by (try simp only [List.map_toArray, List.map_cons, List.map_nil]); first | done | rfl | (simp only [List.length_drop, List.length_take]; rfl)) ?_; (with_reducible refine (rialtoref20_Copy.calls _ _ l0 t210 _ ?side1 ?side2 A4.out).mono ?_); (case side1 => repeat (first | exact (Kd.C_below HR0.out HB.out) | (with_reducible refine Kd.C_alloc ?_ _) | (with_reducible refine Kd.C_drewN ?_ _) | (with_reducible refine Kd.C_drew ?_))); (case side2 => exact HC0.out); rintro e w112 ⟨v211, rfl, ho0, hb⟩; refine ⟨_, rfl, ?_⟩; have n0_ := Aside0.mk (Kd.R_lower ho0 (below_size (by repeat (first | (with_reducible first | exact HB.out | apply below_alloc | apply pw_below_drewN | apply below_drew1 | refine below_set ?_ GE209.out) | exact HB.out)))); have n1_ := Aside0.mk (blk_below (g := gb209) (o := .cells #[.int .i64 a1_0, .int .i64 a1_1] 24 (0, 0)) (by exact bk_ BK209.out) hb); have n2_ := Aside0.mk (below_step (by repeat (first | (with_reducible first | exact HB.out | apply below_alloc | apply pw_below_drewN | apply below_drew1 | refine below_set ?_ GE209.out) | exact HB.out)) hb); clear BK209; clear HB; have HO212 := n0_; have BK209 := n1_; have HB := n2_; clear n0_ n1_ n2_; (try clear hb); (try clear hb2); (try clear hk); (try clear hi); (try clear ho0); have hcz113_0 : w112.cell? ⟨gb209, 0, none⟩ = some (.int .i64 a1_0) := (blk_cell BK209.out 0).trans rfl; have hcz113_1 : w112.cell? ⟨gb209, 1, none⟩ = some (.int .i64 a1_1) := (blk_cell BK209.out 1).trans rfl; have hfz113_0 := blk_frozen BK209.out 0; have hfz113_1 := blk_frozen BK209.out 1) | ((with_reducible refine gate_callee (f := 9) rfl ?_); refine goesL_ (some 21) rfl rfl Try.func9 (by kernel_rfl) rfl #[.agg #[.int .i64 a1_0, .int .i64 a1_1], .int .i64 a2] rfl (by (try simp only [List.map_toArray, List.map_cons, List.map_nil]); first | done | rfl | (simp only [List.length_drop, List.length_take]; rfl)) ?_; (with_reducible refine (shardmap_Home.calls k a1_0 a1_1 a2 t213 t214 _ A5.out).mono ?_); rintro e w114 ⟨rfl, hb⟩; refine ⟨_, rfl, ?_⟩; have n0_ := Aside0.mk (Kd.R_below (by exact rk_ HO212.out) hb); have n1_ := Aside0.mk (blk_below (g := gb209) (o := .cells #[.int .i64 a1_0, .int .i64 a1_1] 24 (0, 0)) (by exact bk_ BK209.out) hb); have n2_ := Aside0.mk (below_step (by repeat (first | (with_reducible first | exact HB.out | apply below_alloc | apply pw_below_drewN | apply below_drew1 | refine below_set ?_ GE209.out) | exact HB.out)) hb); clear HO212; clear BK209; clear HB; have HO212 := n0_; have BK209 := n1_; have HB := n2_; clear n0_ n1_ n2_; (try clear hb); (try clear hb2); (try clear hk); (try clear hi); have hcz115_0 : w114.cell? ⟨gb209, 0, none⟩ = some (.int .i64 a1_0) := (blk_cell BK209.out 0).trans rfl; have hcz115_1 : w114.cell? ⟨gb209, 1, none⟩ = some (.int .i64 a1_1) := (blk_cell BK209.out 1).trans rfl; have hfz115_0 := blk_frozen BK209.out 0; have hfz115_1 := blk_frozen BK209.out 1) | ((with_reducible refine gate_callee (f := 10) rfl ?_); refine goesL_ (some 27) rfl rfl Try.func10 (by kernel_rfl) rfl #[.agg #[.int .i64 a1_0, .int .i64 a1_1], .int .i64 a2] rfl (by (try simp only [List.map_toArray, List.map_cons, List.map_nil]); first | done | rfl | (simp only [List.length_drop, List.length_take]; rfl)) ?_; (with_reducible refine (rialtoref20_Home.calls k a1_0 a1_1 a2 t215 t216 _ A6.out).mono ?_); rintro e w116 ⟨rfl, hb⟩; refine ⟨_, rfl, ?_⟩; have n0_ := Aside0.mk (Kd.R_below (by exact rk_ HO212.out) hb); have n1_ := Aside0.mk (blk_below (g := gb209) (o := .cells #[.int .i64 a1_0, .int .i64 a1_1] 24 (0, 0)) (by exact bk_ BK209.out) hb); have n2_ := Aside0.mk (below_step (by repeat (first | (with_reducible first | exact HB.out | apply below_alloc | apply pw_below_drewN | apply below_drew1 | refine below_set ?_ GE209.out) | exact HB.out)) hb); clear HO212; clear BK209; clear HB; have HO212 := n0_; have BK209 := n1_; have HB := n2_; clear n0_ n1_ n2_; (try clear hb); (try clear hb2); (try clear hk); (try clear hi); have hcz117_0 : w116.cell? ⟨gb209, 0, none⟩ = some (.int .i64 a1_0) := (blk_cell BK209.out 0).trans rfl; have hcz117_1 : w116.cell? ⟨gb209, 1, none⟩ = some (.int .i64 a1_1) := (blk_cell BK209.out 1).trans rfl; have hfz117_0 := blk_frozen BK209.out 0; have hfz117_1 := blk_frozen BK209.out 1; obtain ⟨Ao118, co118, eo118⟩ := Kd.R_slice HO212.out; subst eo118) | ((with_reducible refine gate_callee (f := 11) rfl ?_); refine goesL_ (some 34) rfl rfl Try.func11 (by kernel_rfl) rfl #[.slice Ao118 t210.length co118, .agg #[.int .i64 a1_0, .int .i64 a1_1], .int .i64 a2] rfl (by (try simp only [List.map_toArray, List.map_cons, List.map_nil]); first | done | rfl | (simp only [List.length_drop, List.length_take]; rfl)) ?_; (with_reducible refine (shardmap_Owner.calls k _ _ t210 a1_0 a1_1 a2 t217 t218 t219 t220 t221 _ ?side1 ?side2 A7.out).mono ?_); (case side1 => repeat (first | exact (Kd.R_reads' HO212.out).2.2 | (with_reducible refine Kd.C_alloc ?_ _) | (with_reducible refine Kd.C_drewN ?_ _) | (with_reducible refine Kd.C_drew ?_))); (case side2 => exact (Kd.R_reads' HO212.out).2.1); rintro e w119 ⟨rfl, hb⟩; refine ⟨_, rfl, ?_⟩; have n0_ := Aside0.mk (Kd.R_below (by exact rk_ HO212.out) hb); have n1_ := Aside0.mk (blk_below (g := gb209) (o := .cells #[.int .i64 a1_0, .int .i64 a1_1] 24 (0, 0)) (by exact bk_ BK209.out) hb); have n2_ := Aside0.mk (below_step (by repeat (first | (with_reducible first | exact HB.out | apply below_alloc | apply pw_below_drewN | apply below_drew1 | refine below_set ?_ GE209.out) | exact HB.out)) hb); clear HO212; clear BK209; clear HB; have HO212 := n0_; have BK209 := n1_; have HB := n2_; clear n0_ n1_ n2_; (try clear hb); (try clear hb2); (try clear hk); (try clear hi)) | ((with_reducible refine gate_dst (N := 12) rfl ?_); refine box_event ?hg (N := 12) ?hd (cs := #[.int .i64 0, .int .i64 0, .int .i64 0, .int .i64 0]) (t := 30) ?hr ?_; (case hd => rfl); (case hg => rfl); (case hr => first | (go_simp; done) | (go_simp; rfl)); intro gb222 hg w120 hbox hb; have n0_ := Aside0.mk (Kd.R_below (Kd.R_elderB (by exact rk_ HO212.out) gb222 (Nat.le_of_eq hg.symm)) hb); have n1_ := Aside0.mk (blk_below (g := gb209) (o := .cells #[.int .i64 a1_0, .int .i64 a1_1] 24 (0, 0)) (by exact bk_ BK209.out) hb); have n2_ := Aside0.mk (below_step (by repeat (first | (with_reducible first | exact HB.out | apply below_alloc | apply pw_below_drewN | apply below_drew1 | refine below_set ?_ GE209.out) | exact HB.out)) hb); have n3_ := Aside0.mk (hbox); have n4_ := Aside0.mk ((by rw [hg]; exact (below_size (by repeat (first | (with_reducible first | exact HB.out | apply below_alloc | apply pw_below_drewN | apply below_drew1 | refine below_set ?_ GE209.out) | exact HB.out))) : w.heap.size ≤ gb222)); have n5_ := Aside0.mk ((by rw [hg]; exact (below_size (by repeat (first | (with_reducible first | exact HB.out | apply below_alloc | apply pw_below_drewN | apply below_drew1 | refine below_set ?_ GE209.out) | exact HB.out))) : w.heap.size ≤ gb222)); have n6_ := Aside0.mk ((by rw [hg]; exact Nat.ne_of_lt (blk_lt (g := gb209) (o := .cells #[.int .i64 a1_0, .int .i64 a1_1] 24 (0, 0)) (by exact bk_ BK209.out)) : gb209 ≠ gb222)); have n7_ := Aside0.mk ((by rw [hg]; exact Nat.ne_of_gt (blk_lt (g := gb209) (o := .cells #[.int .i64 a1_0, .int .i64 a1_1] 24 (0, 0)) (by exact bk_ BK209.out)) : gb222 ≠ gb209)); clear HO212; clear BK209; clear HB; have HO212 := n0_; have BK209 := n1_; have HB := n2_; have BK222 := n3_; have GW222 := n4_; have GE222 := n5_; have NB209_222 := n6_; have NB222_209 := n7_; clear n0_ n1_ n2_ n3_ n4_ n5_ n6_ n7_; clear hb hbox hg; have hnb121 := NB222_209.out; have hnc121 := NB209_222.out; have hcz122_0 : w120.cell? ⟨gb222, 0, none⟩ = some (.int .i64 0) := (blk_cell BK222.out 0).trans rfl; have hcz122_1 : w120.cell? ⟨gb222, 1, none⟩ = some (.int .i64 0) := (blk_cell BK222.out 1).trans rfl; have hcz122_2 : w120.cell? ⟨gb222, 2, none⟩ = some (.int .i64 0) := (blk_cell BK222.out 2).trans rfl; have hcz122_3 : w120.cell? ⟨gb222, 3, none⟩ = some (.int .i64 0) := (blk_cell BK222.out 3).trans rfl; have hfz122_0 := blk_frozen BK222.out 0; have hfz122_1 := blk_frozen BK222.out 1; have hfz122_2 := blk_frozen BK222.out 2; have hfz122_3 := blk_frozen BK222.out 3; have hcz123_0 : w120.cell? ⟨gb209, 0, none⟩ = some (.int .i64 a1_0) := (blk_cell BK209.out 0).trans rfl; have hcz123_1 : w120.cell? ⟨gb209, 1, none⟩ = some (.int .i64 a1_1) := (blk_cell BK209.out 1).trans rfl; have hfz123_0 := blk_frozen BK209.out 0; have hfz123_1 := blk_frozen BK209.out 1) | ((with_reducible refine gate_callee (f := 12) rfl ?_); refine goesL_ (some 41) rfl rfl Try.func12 (by kernel_rfl) rfl #[.slice A0 l0.length c0, .agg #[.int .i64 a1_0, .int .i64 a1_1], .int .i64 a2] rfl (by (try simp only [List.map_toArray, List.map_cons, List.map_nil]); first | done | rfl | (simp only [List.length_drop, List.length_take]; rfl)) ?_; (with_reducible refine (rialtoref20_Owner.calls k _ _ l0 a1_0 a1_1 a2 t223 t224 t225 t226 t227 _ ?side1 ?side2 A8.out).mono ?_); (case side1 => exact Kd.C_below HR0.out (by repeat (first | (with_reducible first | exact HB.out | apply below_alloc | apply pw_below_drewN | apply below_drew1 | refine below_set ?_ GE209.out | refine below_set ?_ GE222.out) | exact HB.out))); (case side2 => exact HC0.out); rintro e w124 ⟨rfl, hb⟩; refine ⟨_, rfl, ?_⟩; have n0_ := Aside0.mk (Kd.R_below (by (with_reducible repeat (first | apply Kd.R_alloc | apply Kd.R_drewN | apply Kd.R_drew)); exact (Kd.R_mono (Kd.R_far (p := ⟨gb222, 3, none⟩) (Kd.R_far (p := ⟨gb222, 2, none⟩) (Kd.R_far (p := ⟨gb222, 1, none⟩) (Kd.R_far (p := ⟨gb222, 0, none⟩) (Kd.R_mono HO212.out (fun k_ hk => (⟨hk, hk.2⟩ : _ ∧ k_ ≠ gb222))) (fun _ hk => hk.2) (.int .i64 t217)) (fun _ hk => hk.2) (.int .i64 t218)) (fun _ hk => hk.2) (.int .i64 t219)) (fun _ hk => hk.2) (.int .i64 t220)) (fun _ h_ => h_.1))) hb); have n1_ := Aside0.mk (blk_below (g := gb209) (o := .cells #[.int .i64 a1_0, .int .i64 a1_1] 24 (0, 0)) (by (with_reducible repeat (first | refine blk_drewN ?_ _ | refine blk_drew ?_ | refine blk_alloc ?_ _)); refine blk_far ?_ NB209_222.out _; (with_reducible repeat (first | refine blk_drewN ?_ _ | refine blk_drew ?_ | refine blk_alloc ?_ _)); refine blk_far ?_ NB209_222.out _; (with_reducible repeat (first | refine blk_drewN ?_ _ | refine blk_drew ?_ | refine blk_alloc ?_ _)); refine blk_far ?_ NB209_222.out _; (with_reducible repeat (first | refine blk_drewN ?_ _ | refine blk_drew ?_ | refine blk_alloc ?_ _)); refine blk_far ?_ NB209_222.out _; exact bk_ BK209.out) hb); have n2_ := Aside0.mk (blk_below (g := gb222) (o := .cells #[.int .i64 t217, .int .i64 t218, .int .i64 t219, .int .i64 t220] 30 (0, 0)) (by (with_reducible repeat (first | refine blk_drewN ?_ _ | refine blk_drew ?_ | refine blk_alloc ?_ _)); refine blk_put (cs := #[.int .i64 t217, .int .i64 t218, .int .i64 t219, .int .i64 0]) ?_ 3 _ rfl; (with_reducible repeat (first | refine blk_drewN ?_ _ | refine blk_drew ?_ | refine blk_alloc ?_ _)); refine blk_put (cs := #[.int .i64 t217, .int .i64 t218, .int .i64 0, .int .i64 0]) ?_ 2 _ rfl; (with_reducible repeat (first | refine blk_drewN ?_ _ | refine blk_drew ?_ | refine blk_alloc ?_ _)); refine blk_put (cs := #[.int .i64 t217, .int .i64 0, .int .i64 0, .int .i64 0]) ?_ 1 _ rfl; (with_reducible repeat (first | refine blk_drewN ?_ _ | refine blk_drew ?_ | refine blk_alloc ?_ _)); refine blk_put (cs := #[.int .i64 0, .int .i64 0, .int .i64 0, .int .i64 0]) ?_ 0 _ rfl; exact bk_ BK222.out) hb); have n3_ := Aside0.mk (below_step (by repeat (first | (with_reducible first | exact HB.out | apply below_alloc | apply pw_below_drewN | apply below_drew1 | refine below_set ?_ GE209.out | refine below_set ?_ GE222.out) | exact HB.out)) hb); clear HO212; clear BK209; clear BK222; clear HB; have HO212 := n0_; have BK209 := n1_; have BK222 := n2_; have HB := n3_; clear n0_ n1_ n2_ n3_; (try clear hb); (try clear hb2); (try clear hk); (try clear hi)) | ((with_reducible refine gate_dst (N := 14) rfl ?_); refine box_event ?hg (N := 14) ?hd (cs := #[.int .i64 0, .int .i64 0, .int .i64 0, .int .i64 0]) (t := 30) ?hr ?_; (case hd => rfl); (case hg => rfl); (case hr => first | (go_simp; done) | (go_simp; rfl)); intro gb228 hg w125 hbox hb; have n0_ := Aside0.mk (Kd.R_below (Kd.R_elderB (by exact rk_ HO212.out) gb228 (Nat.le_of_eq hg.symm)) hb); have n1_ := Aside0.mk (blk_below (g := gb209) (o := .cells #[.int .i64 a1_0, .int .i64 a1_1] 24 (0, 0)) (by exact bk_ BK209.out) hb); have n2_ := Aside0.mk (blk_below (g := gb222) (o := .cells #[.int .i64 t217, .int .i64 t218, .int .i64 t219, .int .i64 t220] 30 (0, 0)) (by exact bk_ BK222.out) hb); have n3_ := Aside0.mk (below_step (by repeat (first | (with_reducible first | exact HB.out | apply below_alloc | apply pw_below_drewN | apply below_drew1 | refine below_set ?_ GE209.out | refine below_set ?_ GE222.out) | exact HB.out)) hb); have n4_ := Aside0.mk (hbox); have n5_ := Aside0.mk ((by rw [hg]; exact (below_size (by repeat (first | (with_reducible first | exact HB.out | apply below_alloc | apply pw_below_drewN | apply below_drew1 | refine below_set ?_ GE209.out | refine below_set ?_ GE222.out) | exact HB.out))) : w.heap.size ≤ gb228)); have n6_ := Aside0.mk ((by rw [hg]; exact (below_size (by repeat (first | (with_reducible first | exact HB.out | apply below_alloc | apply pw_below_drewN | apply below_drew1 | refine below_set ?_ GE209.out | refine below_set ?_ GE222.out) | exact HB.out))) : w.heap.size ≤ gb228)); have n7_ := Aside0.mk ((by rw [hg]; exact Nat.ne_of_lt (blk_lt (g := gb209) (o := .cells #[.int .i64 a1_0, .int .i64 a1_1] 24 (0, 0)) (by exact bk_ BK209.out)) : gb209 ≠ gb228)); have n8_ := Aside0.mk ((by rw [hg]; exact Nat.ne_of_gt (blk_lt (g := gb209) (o := .cells #[.int .i64 a1_0, .int .i64 a1_1] 24 (0, 0)) (by exact bk_ BK209.out)) : gb228 ≠ gb209)); have n9_ := Aside0.mk ((by rw [hg]; exact Nat.ne_of_lt (blk_lt (g := gb222) (o := .cells #[.int .i64 t217, .int .i64 t218, .int .i64 t219, .int .i64 t220] 30 (0, 0)) (by exact bk_ BK222.out)) : gb222 ≠ gb228)); have n10_ := Aside0.mk ((by rw [hg]; exact Nat.ne_of_gt (blk_lt (g := gb222) (o := .cells #[.int .i64 t217, .int .i64 t218, .int .i64 t219, .int .i64 t220] 30 (0, 0)) (by exact bk_ BK222.out)) : gb228 ≠ gb222)); clear HO212; clear BK209; clear BK222; clear HB; have HO212 := n0_; have BK209 := n1_; have BK222 := n2_; have HB := n3_; have BK228 := n4_; have GW228 := n5_; have GE228 := n6_; have NB209_228 := n7_; have NB228_209 := n8_; have NB222_228 := n9_; have NB228_222 := n10_; clear n0_ n1_ n2_ n3_ n4_ n5_ n6_ n7_ n8_ n9_ n10_; clear hb hbox hg; have hnb126 := NB228_209.out; have hnc126 := NB209_228.out; have hnb127 := NB228_222.out; have hnc127 := NB222_228.out; have hcz128_0 : w125.cell? ⟨gb228, 0, none⟩ = some (.int .i64 0) := (blk_cell BK228.out 0).trans rfl; have hcz128_1 : w125.cell? ⟨gb228, 1, none⟩ = some (.int .i64 0) := (blk_cell BK228.out 1).trans rfl; have hcz128_2 : w125.cell? ⟨gb228, 2, none⟩ = some (.int .i64 0) := (blk_cell BK228.out 2).trans rfl; have hcz128_3 : w125.cell? ⟨gb228, 3, none⟩ = some (.int .i64 0) := (blk_cell BK228.out 3).trans rfl; have hfz128_0 := blk_frozen BK228.out 0; have hfz128_1 := blk_frozen BK228.out 1; have hfz128_2 := blk_frozen BK228.out 2; have hfz128_3 := blk_frozen BK228.out 3))
 by_cases c9 : t213 = t215
 ·rw [if_pos c9] at H
  have c9b0 : (t213 == t215) = true := beq_iff_eq.mpr c9
  have c9b1 : (t213 != t215) = false := bne_eq_false_iff_eq.mpr c9
  clear c9
  by_cases c10 : t214 = t216
  ·rw [if_pos c10] at H
   have c10b0 : (t214 == t216) = true := beq_iff_eq.mpr c10
   have c10b1 : (t214 != t216) = false := bne_eq_false_iff_eq.mpr c10
   clear c10
   by_cases c11 : ((t217 == t223 && (t218 == t224)) && (t219 == t225 && (t220 == t226))) = true
   ·rw [if_pos c11] at H
    have c11b0 : ((t217 == t223 && (t218 == t224)) && (t219 == t225 && (t220 == t226))) = true := c11
    clear c11
    by_cases c12 : t221 = t227
    ·rw [if_pos c12] at H
     have c12b0 : (t221 == t227) = true := beq_iff_eq.mpr c12
     have c12b1 : (t221 != t227) = false := bne_eq_false_iff_eq.mpr c12
     clear c12
     replace H := Option.bind_eq_some_iff.mp H
     obtain ⟨t229, A130, H⟩ := H
     replace H : (if t229 = true then ((rialtolaw20_live.f k).bind fun t230 => (some t230)) else (some false)) = some r := H
     have A13 := Aside0.mk A130
     clear A130
     by_cases c14 : t229 = true
     ·subst c14
      have H1 : ((rialtolaw20_live.f k).bind fun t230 => (some t230)) = some r := by rw [if_pos rfl] at H; exact H
      clear H
      have H := H1
      clear H1
      replace H := Option.bind_eq_some_iff.mp H
      obtain ⟨t230, A150, H⟩ := H
      replace H : (some t230) = some r := H
      have A15 := Aside0.mk A150
      clear A150
      obtain rfl := Option.some.inj H
      have hcz34_0 : w125.cell? ⟨gb222, 0, none⟩ = some (.int .i64 t217) := (blk_cell BK222.out 0).trans rfl
      have hcz34_1 : w125.cell? ⟨gb222, 1, none⟩ = some (.int .i64 t218) := (blk_cell BK222.out 1).trans rfl
      have hcz34_2 : w125.cell? ⟨gb222, 2, none⟩ = some (.int .i64 t219) := (blk_cell BK222.out 2).trans rfl
      have hcz34_3 : w125.cell? ⟨gb222, 3, none⟩ = some (.int .i64 t220) := (blk_cell BK222.out 3).trans rfl
      have hfz34_0 := blk_frozen BK222.out 0
      have hfz34_1 := blk_frozen BK222.out 1
      have hfz34_2 := blk_frozen BK222.out 2
      have hfz34_3 := blk_frozen BK222.out 3
      go_wp2_with (first | (go_at_call 13; (with_reducible refine (rialtoref20_Same.calls k _ _ t210 _ _ l0 true _ ?side1 ?side2 ?side3 ?side4 A13.out).mono ?_); (case side1 => refine (Kd.R_reads' (e := 30) (base := w.heap.size) (ok := fun k_ => ((True ∧ k_ ≠ gb222) ∧ k_ ≠ gb228)) (n := t210.length) (c := co118) ?_).2.2; exact (by (with_reducible repeat (first | apply Kd.R_alloc | apply Kd.R_drewN | apply Kd.R_drew)); exact (Kd.R_mono (Kd.R_far (p := ⟨gb228, 3, none⟩) (Kd.R_far (p := ⟨gb228, 2, none⟩) (Kd.R_far (p := ⟨gb228, 1, none⟩) (Kd.R_far (p := ⟨gb228, 0, none⟩) (Kd.R_mono HO212.out (fun k_ hk => (⟨hk, hk.2⟩ : _ ∧ k_ ≠ gb228))) (fun _ hk => hk.2) (.int .i64 t223)) (fun _ hk => hk.2) (.int .i64 t224)) (fun _ hk => hk.2) (.int .i64 t225)) (fun _ hk => hk.2) (.int .i64 t226)) (fun _ h_ => h_.1)))); (case side2 => exact (Kd.R_reads' HO212.out).2.1); (case side3 => exact Kd.C_below HR0.out (by repeat (first | (with_reducible first | exact HB.out | apply below_alloc | apply pw_below_drewN | apply below_drew1 | refine below_set ?_ GE209.out | refine below_set ?_ GE222.out | refine below_set ?_ GE228.out) | exact HB.out))); (case side4 => exact HC0.out); rintro e w' ⟨rfl, ⟨nd, rfl⟩⟩) | (go_at_call 14; (with_reducible refine (rialtolaw20_live.calls k  t230 _ A15.out).mono ?_); rintro e w35 ⟨rfl, hb⟩; have n0_ := Aside0.mk (Kd.R_below (by (with_reducible repeat (first | apply Kd.R_alloc | apply Kd.R_drewN | apply Kd.R_drew)); exact (Kd.R_mono (Kd.R_far (p := ⟨gb228, 3, none⟩) (Kd.R_far (p := ⟨gb228, 2, none⟩) (Kd.R_far (p := ⟨gb228, 1, none⟩) (Kd.R_far (p := ⟨gb228, 0, none⟩) (Kd.R_mono HO212.out (fun k_ hk => (⟨hk, hk.2⟩ : _ ∧ k_ ≠ gb228))) (fun _ hk => hk.2) (.int .i64 t223)) (fun _ hk => hk.2) (.int .i64 t224)) (fun _ hk => hk.2) (.int .i64 t225)) (fun _ hk => hk.2) (.int .i64 t226)) (fun _ h_ => h_.1))) hb); have n1_ := Aside0.mk (blk_below (g := gb209) (o := .cells #[.int .i64 a1_0, .int .i64 a1_1] 24 (0, 0)) (by (with_reducible repeat (first | refine blk_drewN ?_ _ | refine blk_drew ?_ | refine blk_alloc ?_ _)); refine blk_far ?_ NB209_228.out _; (with_reducible repeat (first | refine blk_drewN ?_ _ | refine blk_drew ?_ | refine blk_alloc ?_ _)); refine blk_far ?_ NB209_228.out _; (with_reducible repeat (first | refine blk_drewN ?_ _ | refine blk_drew ?_ | refine blk_alloc ?_ _)); refine blk_far ?_ NB209_228.out _; (with_reducible repeat (first | refine blk_drewN ?_ _ | refine blk_drew ?_ | refine blk_alloc ?_ _)); refine blk_far ?_ NB209_228.out _; exact bk_ BK209.out) hb); have n2_ := Aside0.mk (blk_below (g := gb222) (o := .cells #[.int .i64 t217, .int .i64 t218, .int .i64 t219, .int .i64 t220] 30 (0, 0)) (by (with_reducible repeat (first | refine blk_drewN ?_ _ | refine blk_drew ?_ | refine blk_alloc ?_ _)); refine blk_far ?_ NB222_228.out _; (with_reducible repeat (first | refine blk_drewN ?_ _ | refine blk_drew ?_ | refine blk_alloc ?_ _)); refine blk_far ?_ NB222_228.out _; (with_reducible repeat (first | refine blk_drewN ?_ _ | refine blk_drew ?_ | refine blk_alloc ?_ _)); refine blk_far ?_ NB222_228.out _; (with_reducible repeat (first | refine blk_drewN ?_ _ | refine blk_drew ?_ | refine blk_alloc ?_ _)); refine blk_far ?_ NB222_228.out _; exact bk_ BK222.out) hb); have n3_ := Aside0.mk (blk_below (g := gb228) (o := .cells #[.int .i64 t223, .int .i64 t224, .int .i64 t225, .int .i64 t226] 30 (0, 0)) (by (with_reducible repeat (first | refine blk_drewN ?_ _ | refine blk_drew ?_ | refine blk_alloc ?_ _)); refine blk_put (cs := #[.int .i64 t223, .int .i64 t224, .int .i64 t225, .int .i64 0]) ?_ 3 _ rfl; (with_reducible repeat (first | refine blk_drewN ?_ _ | refine blk_drew ?_ | refine blk_alloc ?_ _)); refine blk_put (cs := #[.int .i64 t223, .int .i64 t224, .int .i64 0, .int .i64 0]) ?_ 2 _ rfl; (with_reducible repeat (first | refine blk_drewN ?_ _ | refine blk_drew ?_ | refine blk_alloc ?_ _)); refine blk_put (cs := #[.int .i64 t223, .int .i64 0, .int .i64 0, .int .i64 0]) ?_ 1 _ rfl; (with_reducible repeat (first | refine blk_drewN ?_ _ | refine blk_drew ?_ | refine blk_alloc ?_ _)); refine blk_put (cs := #[.int .i64 0, .int .i64 0, .int .i64 0, .int .i64 0]) ?_ 0 _ rfl; exact bk_ BK228.out) hb); have n4_ := Aside0.mk (below_step (by repeat (first | (with_reducible first | exact HB.out | apply below_alloc | apply pw_below_drewN | apply below_drew1 | refine below_set ?_ GE209.out | refine below_set ?_ GE222.out | refine below_set ?_ GE228.out) | exact HB.out)) hb); clear HO212; clear BK209; clear BK222; clear BK228; clear HB; have HO212 := n0_; have BK209 := n1_; have BK222 := n2_; have BK228 := n3_; have HB := n4_; clear n0_ n1_ n2_ n3_ n4_; (try clear hb); (try clear hb2); (try clear hk); (try clear hi)))
      go_ret
      exact ⟨by first | rfl | (simp [errW_none, errW_some] <;> rfl) | (simp [*, errW_none, errW_some] <;> rfl), by repeat (first | (with_reducible first | exact HB.out | apply below_alloc | apply pw_below_drewN | apply below_drew1 | refine below_set ?_ GE209.out | refine below_set ?_ GE222.out | refine below_set ?_ GE228.out) | exact HB.out)⟩
     ·replace c14 := Bool.eq_false_iff.mpr c14
      subst c14
      have H1 : (some false) = some r := by rw [if_neg (show ¬ (false = true) by decide)] at H; exact H
      clear H
      have H := H1
      clear H1
      obtain rfl := Option.some.inj H
      have hcz54_0 : w125.cell? ⟨gb222, 0, none⟩ = some (.int .i64 t217) := (blk_cell BK222.out 0).trans rfl
      have hcz54_1 : w125.cell? ⟨gb222, 1, none⟩ = some (.int .i64 t218) := (blk_cell BK222.out 1).trans rfl
      have hcz54_2 : w125.cell? ⟨gb222, 2, none⟩ = some (.int .i64 t219) := (blk_cell BK222.out 2).trans rfl
      have hcz54_3 : w125.cell? ⟨gb222, 3, none⟩ = some (.int .i64 t220) := (blk_cell BK222.out 3).trans rfl
      have hfz54_0 := blk_frozen BK222.out 0
      have hfz54_1 := blk_frozen BK222.out 1
      have hfz54_2 := blk_frozen BK222.out 2
      have hfz54_3 := blk_frozen BK222.out 3
      go_wp2_with (first | (go_at_call 13; (with_reducible refine (rialtoref20_Same.calls k _ _ t210 _ _ l0 false _ ?side1 ?side2 ?side3 ?side4 A13.out).mono ?_); (case side1 => refine (Kd.R_reads' (e := 30) (base := w.heap.size) (ok := fun k_ => ((True ∧ k_ ≠ gb222) ∧ k_ ≠ gb228)) (n := t210.length) (c := co118) ?_).2.2; exact (by (with_reducible repeat (first | apply Kd.R_alloc | apply Kd.R_drewN | apply Kd.R_drew)); exact (Kd.R_mono (Kd.R_far (p := ⟨gb228, 3, none⟩) (Kd.R_far (p := ⟨gb228, 2, none⟩) (Kd.R_far (p := ⟨gb228, 1, none⟩) (Kd.R_far (p := ⟨gb228, 0, none⟩) (Kd.R_mono HO212.out (fun k_ hk => (⟨hk, hk.2⟩ : _ ∧ k_ ≠ gb228))) (fun _ hk => hk.2) (.int .i64 t223)) (fun _ hk => hk.2) (.int .i64 t224)) (fun _ hk => hk.2) (.int .i64 t225)) (fun _ hk => hk.2) (.int .i64 t226)) (fun _ h_ => h_.1)))); (case side2 => exact (Kd.R_reads' HO212.out).2.1); (case side3 => exact Kd.C_below HR0.out (by repeat (first | (with_reducible first | exact HB.out | apply below_alloc | apply pw_below_drewN | apply below_drew1 | refine below_set ?_ GE209.out | refine below_set ?_ GE222.out | refine below_set ?_ GE228.out) | exact HB.out))); (case side4 => exact HC0.out); rintro e w' ⟨rfl, ⟨nd, rfl⟩⟩))
      go_ret
      exact ⟨by first | rfl | (simp [errW_none, errW_some] <;> rfl) | (simp [*, errW_none, errW_some] <;> rfl), by repeat (first | (with_reducible first | exact HB.out | apply below_alloc | apply pw_below_drewN | apply below_drew1 | refine below_set ?_ GE209.out | refine below_set ?_ GE222.out | refine below_set ?_ GE228.out) | exact HB.out)⟩
    ·rw [if_neg c12] at H
     have c12b0 : (t221 == t227) = false := beq_eq_false_iff_ne.mpr c12
     have c12b1 : (t221 != t227) = true := bne_iff_ne.mpr c12
     obtain rfl := Option.some.inj H
     have hcz73_0 : w125.cell? ⟨gb222, 0, none⟩ = some (.int .i64 t217) := (blk_cell BK222.out 0).trans rfl
     have hcz73_1 : w125.cell? ⟨gb222, 1, none⟩ = some (.int .i64 t218) := (blk_cell BK222.out 1).trans rfl
     have hcz73_2 : w125.cell? ⟨gb222, 2, none⟩ = some (.int .i64 t219) := (blk_cell BK222.out 2).trans rfl
     have hcz73_3 : w125.cell? ⟨gb222, 3, none⟩ = some (.int .i64 t220) := (blk_cell BK222.out 3).trans rfl
     have hfz73_0 := blk_frozen BK222.out 0
     have hfz73_1 := blk_frozen BK222.out 1
     have hfz73_2 := blk_frozen BK222.out 2
     have hfz73_3 := blk_frozen BK222.out 3
     go_wp2_with (fail)
     go_ret
     exact ⟨by first | rfl | (simp [errW_none, errW_some] <;> rfl) | (simp [*, errW_none, errW_some] <;> rfl), by repeat (first | (with_reducible first | exact HB.out | apply below_alloc | apply pw_below_drewN | apply below_drew1 | refine below_set ?_ GE209.out | refine below_set ?_ GE222.out | refine below_set ?_ GE228.out) | exact HB.out)⟩
   ·rw [if_neg c11] at H
    have c11b0 : ((t217 == t223 && (t218 == t224)) && (t219 == t225 && (t220 == t226))) = false := by simpa using c11
    clear c11
    obtain rfl := Option.some.inj H
    have hcz92_0 : w125.cell? ⟨gb222, 0, none⟩ = some (.int .i64 t217) := (blk_cell BK222.out 0).trans rfl
    have hcz92_1 : w125.cell? ⟨gb222, 1, none⟩ = some (.int .i64 t218) := (blk_cell BK222.out 1).trans rfl
    have hcz92_2 : w125.cell? ⟨gb222, 2, none⟩ = some (.int .i64 t219) := (blk_cell BK222.out 2).trans rfl
    have hcz92_3 : w125.cell? ⟨gb222, 3, none⟩ = some (.int .i64 t220) := (blk_cell BK222.out 3).trans rfl
    have hfz92_0 := blk_frozen BK222.out 0
    have hfz92_1 := blk_frozen BK222.out 1
    have hfz92_2 := blk_frozen BK222.out 2
    have hfz92_3 := blk_frozen BK222.out 3
    go_wp2_with (fail)
    go_ret
    exact ⟨by first | rfl | (simp [errW_none, errW_some] <;> rfl) | (simp [*, errW_none, errW_some] <;> rfl), by repeat (first | (with_reducible first | exact HB.out | apply below_alloc | apply pw_below_drewN | apply below_drew1 | refine below_set ?_ GE209.out | refine below_set ?_ GE222.out | refine below_set ?_ GE228.out) | exact HB.out)⟩
  ·rw [if_neg c10] at H
   have c10b0 : (t214 == t216) = false := beq_eq_false_iff_ne.mpr c10
   have c10b1 : (t214 != t216) = true := bne_iff_ne.mpr c10
   obtain rfl := Option.some.inj H
   go_wp2_with (fail)
   go_ret
   exact ⟨by first | rfl | (simp [errW_none, errW_some] <;> rfl) | (simp [*, errW_none, errW_some] <;> rfl), by repeat (first | (with_reducible first | exact HB.out | apply below_alloc | apply pw_below_drewN | apply below_drew1 | refine below_set ?_ GE209.out | refine below_set ?_ GE222.out | refine below_set ?_ GE228.out) | exact HB.out)⟩
 ·rw [if_neg c9] at H
  have c9b0 : (t213 == t215) = false := beq_eq_false_iff_ne.mpr c9
  have c9b1 : (t213 != t215) = true := bne_iff_ne.mpr c9
  obtain rfl := Option.some.inj H
  go_wp2_with (fail)
  go_ret
  exact ⟨by first | rfl | (simp [errW_none, errW_some] <;> rfl) | (simp [*, errW_none, errW_some] <;> rfl), by repeat (first | (with_reducible first | exact HB.out | apply below_alloc | apply pw_below_drewN | apply below_drew1 | refine below_set ?_ GE209.out | refine below_set ?_ GE222.out | refine below_set ?_ GE228.out) | exact HB.out)⟩

open Go.Proofs.YthflfekhanjlnaaG
def B24 (x : S24) : Prop := ((Lit.int .i64 x.f0).wf = true) ∧ ((Lit.int .i64 x.f1).wf = true)
theorem opens24 : Opens Try.prog k24 24 B24 := opens_struct (g := fun y => (⟨y.1, y.2⟩ : S24)) Try.underlying24 (by kernel_rfl) (fun _ => rfl) (opensL_cons rfl (by kernel_rfl) (opens_int Try.underlying3) (opensL_one rfl (by kernel_rfl) (opens_int Try.underlying3)))
def B30 (x : S30) : Prop := (B24 x.f0) ∧ ((Lit.int .i64 x.f1).wf = true) ∧ ((Lit.int .i64 x.f2).wf = true)
theorem opens30 : Opens Try.prog k30 30 B30 := opens_struct (g := fun y => (⟨y.1, y.2.1, y.2.2⟩ : S30)) Try.underlying30 (by kernel_rfl) (fun _ => rfl) (opensL_cons rfl (by kernel_rfl) opens24 (opensL_cons rfl (by kernel_rfl) (opens_int Try.underlying3) (opensL_one rfl (by kernel_rfl) (opens_int Try.underlying3))))
/-- THE PURE STATEMENT of rialtolaw20_ShardmapTells. -/
def rialtolaw20_ShardmapTells.Pure : Prop := ∀ (x0 : List (S30)) (x1 : S24) (x2 : Int), ((x0.length * 32 ≤ 140737488351232 ∧ x0.length ≤ 9223372036854775807 ∧ ∀ y_ ∈ x0, B30 y_)) → (B24 x1) → ((Lit.int .i64 x2).wf = true) → ∃ k, rialtolaw20_ShardmapTells.f k x0 x1.f0 x1.f1 x2 = some true

end Go.Proofs.Ythflfekhanjlnaa.P
