/- Functions that the laws reach, told as plain functions, each with a proof that the call computes it; for every input. Written by a program of ours out of the translation. -/
import Derived.Test.YthhdfefobblmkaaPx0
namespace Go.Proofs.Ythhdfefobblmkaa.P
open Go.RowKit Go.Proofs.YthhdfefobblmkaaW.PrintWords Go.Proofs.YthhdfefobblmkaaW.PrintLast Go.Proofs.YthhdfefobblmkaaW.PrintMore
open Go.Proofs.YthhdfefobblmkaaG (bk_ bl_ rk_)
attribute [local go_sem] max2_int min2_int max_two min_two max_three min_three max_four min_four   -- for this text's walks alone
set_option linter.unusedVariables false
set_option linter.unusedSimpArgs false

/-! ### slices_Insert_int_int: function 33 -/
open Go.Proofs.YthhdfefobblmkaaG
def slices_Insert_int_int.Post (w : World) (row : Option Nat) (n : Nat) (inner : List Value) (e : Ending) (w' : World) : Prop := ∃ v, e = .returned v ∧ Wrote Try.prog 3 1 w w' row n inner v

theorem slices_Insert_int_int.sz : (Try.prog.info? 3).map (·.size) = some 1 := by kernel_rfl

/-- the two copies, on lists -/
theorem slices_Insert_int_int.spliced (sz : Nat) (l vs : List Value) (n i : Nat) (hi : i < n) (hl : (n + 1) * sz ≤ l.length) (hv : vs.length = sz) :
  let l1 := l.take ((i + 1) * sz) ++ (l.take (n * sz)).drop (i * sz) ++ l.drop ((i + 1) * sz + ((l.take (n * sz)).drop (i * sz)).length)
  l1.length = l.length ∧ (l1.take (i * sz) ++ vs ++ l1.drop (i * sz + vs.length)).length = l.length ∧
  (l1.take (i * sz) ++ vs ++ l1.drop (i * sz + vs.length)).take ((n + 1) * sz) = (l.take (n * sz)).take (i * sz) ++ vs ++ (l.take (n * sz)).drop (i * sz) := by
 have e1 : (n + 1) * sz = n * sz + sz := Nat.succ_mul _ _
 have e2 : (i + 1) * sz = i * sz + sz := Nat.succ_mul _ _
 have e3 : (i + 1) * sz ≤ n * sz := Nat.mul_le_mul_right _ hi
 rw [e2] at e3 ⊢
 rw [e1] at hl ⊢
 generalize i * sz = a at *
 generalize n * sz = b at *
 have hm : ((l.take b).drop a).length = b - a := by rw [List.length_drop, List.length_take]; omega
 intro l1
 have hl1 : l1.length = l.length := by simp only [l1, List.length_append, List.length_take, List.length_drop]; omega
 refine ⟨hl1, by simp only [List.length_append, List.length_take, List.length_drop, hl1]; omega, ?_⟩
 have h1 : l1.take a = l.take a := by
  simp only [l1]
  rw [List.append_assoc, List.take_append_of_le_length (by rw [List.length_take]; omega), List.take_take, Nat.min_eq_left (by omega)]
 have h2 : l1.drop (a + vs.length) = (l.take b).drop a ++ l.drop (a + sz + (b - a)) := by
  simp only [l1]
  rw [hm, List.append_assoc, List.drop_append, List.drop_eq_nil_of_le (by rw [List.length_take]; omega), List.length_take, hv, List.nil_append, Nat.min_eq_left (by omega), Nat.sub_self, List.drop_zero]
 rw [h1, h2, List.take_take, Nat.min_eq_left (by omega), ← List.append_assoc, List.take_append_of_le_length (by simp only [List.length_append, List.length_take, hm]; omega)]
 exact List.take_of_length_le (by simp only [List.length_append, List.length_take, hm]; omega)

set_option maxHeartbeats 4000000 in
set_option maxRecDepth 100000 in
/-- in place -/
theorem slices_Insert_int_int.shift (g n c i : Nat) (cur : Array Value) (vb vo vc : Nat) (vs : List Value) (w : World) (hi : i < n) (hroom : n + 1 ≤ c) (hc : c ≤ maxLen)
  (hg : w.heap[g]? = some (.cells cur 3 (0, 0))) (hcs : cur.size = c * 1) (h1 : ∀ v ∈ cur.toList.take (n * 1), v.oneCell' = true) (hvb : vb ≠ g) (hvl : vs.length = 1) (h1v : ∀ v ∈ vs, v.oneCell' = true)
  (hv : ∀ j v, vs[j]? = some v → w.cell? ((⟨vb, vo, none⟩ : Addr).add j) = some v) (hov : ∀ lb cb o, (callFunc 41 #[.slice (some ⟨vb, vo, none⟩) 1 vc, .slice (some ⟨g, o, none⟩) lb cb]).run Try.prog w = .ok (.value (.bool false)) w) :
  Calls Try.prog 33 #[.slice (some ⟨g, 0, none⟩) n c, .int .i64 i, .slice (some ⟨vb, vo, none⟩) 1 vc] w (slices_Insert_int_int.Post w (some g) (n + 1) ((cur.toList.take (n * 1)).take (i * 1) ++ vs ++ (cur.toList.take (n * 1)).drop (i * 1))) := by
 have Hc := Aside0.mk hc
 unfold maxLen at hc
 have hz2 : ¬ ((i : Int) = (n : Int)) := by omega
 have hw1 : IntKind.i64.wrap ((i : Int) + 1) = (i : Int) + 1 := by rw [IntKind.wrap_i64]; omega
 have hb1 : (0 : Int) ≤ (i : Int) + 1 := by omega
 have hin : i ≤ n := by omega
 have htn : ((i : Int) + 1).toNat = i + 1 := by omega
 have hb2 : ¬ (c = i + 1) := by omega
 have hb3 : (i : Int) ≤ (n : Int) + 1 := by omega
 have hb4 : ¬ (c = i) := by omega
 have hcl : cur.toList.length = c * 1 := by rw [Array.length_toList]; exact hcs
 obtain ⟨s1, s2, s3⟩ := slices_Insert_int_int.spliced 1 cur.toList vs n i hi (by omega) hvl
 have hml : ((cur.toList.take (n * 1)).drop (i * 1)).length = (n - i) * 1 := by rw [List.length_drop, List.length_take]; omega
 generalize hl1 : cur.toList.take ((i + 1) * 1) ++ (cur.toList.take (n * 1)).drop (i * 1) ++ cur.toList.drop ((i + 1) * 1 + ((cur.toList.take (n * 1)).drop (i * 1)).length) = l1 at s1 s2 s3
 generalize hl2 : l1.take (i * 1) ++ vs ++ l1.drop (i * 1 + vs.length) = l2 at s2 s3
 have hcp1 : ∀ ty dc sc, (Builtin.copy_ #[24, 24] ty #[.slice (some ⟨g, (i + 1) * 1, none⟩) (n - i) dc, .slice (some ⟨g, i * 1, none⟩) (n + 1 - i) sc]).run Try.prog w.drew = .ok (goInt ((n - i : Nat) : Int)) (w.drew.setRow g l1.toArray) := fun ty dc sc => by
  have h := run_copy_sz (P := Try.prog) w.drew 24 24 ty 3 1 g ((i + 1) * 1) (n - i) dc ⟨g, i * 1, none⟩ (n + 1 - i) sc cur 3 ((cur.toList.take (n * 1)).drop (i * 1)) (n - i) Try.underlying24 slices_Insert_int_int.sz
   (by simp only [Nat.min_def]; split <;> omega) hml hg
   (fun j v hj => by
    rw [Addr.add_lit]
    change w.cell? _ = _
    rw [cell_row hg]
    rw [List.getElem?_drop, List.getElem?_take] at hj
    split at hj
    ·simpa using hj
    ·cases hj)
   (by rw [hml]; omega) (fun v hv => h1 v (List.mem_of_mem_drop hv))
  rw [hl1] at h
  exact h
 obtain ⟨W1, hW1⟩ : ∃ W1, W1 = w.drew.setRow g l1.toArray := ⟨_, rfl⟩
 rw [← hW1] at hcp1
 have hg1 : W1.heap[g]? = some (.cells l1.toArray 3 (0, 0)) := by rw [hW1]; exact setRow_heap _ _ _ _ _ _ hg
 have hcp2 : ∀ ty dc, (Builtin.copy_ #[24, 24] ty #[.slice (some ⟨g, i * 1, none⟩) (n + 1 - i) dc, .slice (some ⟨vb, vo, none⟩) 1 vc]).run Try.prog W1 = .ok (goInt ((1 : Nat) : Int)) (W1.setRow g l2.toArray) := fun ty dc => by
  have h := run_copy_sz (P := Try.prog) W1 24 24 ty 3 1 g (i * 1) (n + 1 - i) dc ⟨vb, vo, none⟩ 1 vc l1.toArray 3 vs 1 Try.underlying24 slices_Insert_int_int.sz
   (by simp only [Nat.min_def]; split <;> omega) (by omega) hg1
   (fun j v hj => by
    rw [hW1, cell_setRow_other _ _ _ _ (by rw [Addr.add_lit]; exact hvb)]
    exact hv j v hj)
   (by rw [List.size_toArray, s1]; omega) h1v
  simp only [List.toList_toArray, hl2] at h
  exact h
 have HW1 := Aside0.mk hW1
 have HS2 := Aside0.mk s2
 have HS3 := Aside0.mk s3
 have HG1 := Aside0.mk hg1
 have HCS := Aside0.mk hcs
 have HCL := Aside0.mk hcl
 clear hW1 s2 s3 hg1 s1 hl1 hl2 hcs hcl hml
 go_enter Try.func33, Try.ntmps33
 (try simp only [Nat.mul_one] at hcp1 hcp2)
 go_wp2_with (simp only [hov])
 go_region_law (refine step_copy_runG rfl (.tmp 73) (.tmp 76) 24 24 rfl _ _ (by simp [Act.eval, Act.put]) (by simp [Act.eval, Act.put]) (hcp1 _ _ _) ?_)
 go_wp2_with (at_builtin; refine wpList_copy_runG _ rfl _ _ 24 24 rfl _ _ rfl rfl (hcp2 _ _) ?_)
 go_ret
 refine ⟨_, rfl, ⟨g, c, l2.toArray, rfl, .inl rfl, setRow_heap _ _ _ _ _ _ HG1.out, hroom, Hc.out, by rw [List.size_toArray, HS2.out, HCL.out], HS3.out⟩, ?_, ?_⟩
 ·rw [← HS3.out, List.length_take, HS2.out, HCL.out]; omega
 ·rw [HW1.out]
  exact grown_setRow (grown_setRow (grown_drew (grown_refl _ _)) _ _ (.inl rfl)) _ _ (.inl rfl)

theorem slices_Insert_int_int.info : ∃ i, Try.prog.info? 3 = some i ∧ i.zero = some (.int .i64 0) ∧ i.size = 1 ∧ i.bytes = 8 := by
 obtain ⟨i, hi, hz⟩ := Option.map_eq_some_iff.1 info3
 simp only [Prod.mk.injEq] at hz
 exact ⟨i, hi, hz⟩

/-- the new row, on lists -/
theorem slices_Insert_int_int.laid (sz : Nat) (l vs z1 z2 : List Value) (n i : Nat) (hi : i < n) (hl : n * sz ≤ l.length) (hv : vs.length = sz) (hz : z1.length = (n + 1 - i) * sz) :
  let r := l.take (i * sz) ++ z1 ++ z2
  let r1 := r.take (i * sz) ++ vs ++ r.drop (i * sz + vs.length)
  let m := (l.take (n * sz)).drop (i * sz)
  let r2 := r1.take ((i + 1) * sz) ++ m ++ r1.drop ((i + 1) * sz + m.length)
  r.length = (n + 1) * sz + z2.length ∧ r1.length = r.length ∧ r2.length = r.length ∧ r2.take ((n + 1) * sz) = (l.take (n * sz)).take (i * sz) ++ vs ++ (l.take (n * sz)).drop (i * sz) := by
 have e1 : (n + 1) * sz = n * sz + sz := Nat.succ_mul _ _
 have e2 : (i + 1) * sz = i * sz + sz := Nat.succ_mul _ _
 have e3 : (i + 1) * sz ≤ n * sz := Nat.mul_le_mul_right _ hi
 have e4 : (n + 1 - i) * sz = n * sz + sz - i * sz := by rw [Nat.sub_mul, e1]
 rw [e2] at e3 ⊢
 rw [e4] at hz
 rw [e1]
 generalize i * sz = a at *
 generalize n * sz = b at *
 intro r r1 m r2
 have hm : m.length = b - a := by simp only [m, List.length_drop, List.length_take]; omega
 have hr : r.length = b + sz + z2.length := by simp only [r, List.length_append, List.length_take]; omega
 have hr1 : r1.length = r.length := by simp only [r1, List.length_append, List.length_take, List.length_drop]; omega
 have hr2 : r2.length = r.length := by simp only [r2, List.length_append, List.length_take, List.length_drop, hm]; omega
 refine ⟨hr, hr1, hr2, ?_⟩
 have h1 : r.take a = l.take a := by
  simp only [r]
  rw [List.append_assoc, List.take_append_of_le_length (by rw [List.length_take]; omega), List.take_take, Nat.min_eq_left (by omega)]
 have h2 : r1.take (a + sz) = l.take a ++ vs := by
  simp only [r1]
  rw [h1, List.take_append_of_le_length (by simp only [List.length_append, List.length_take]; omega)]
  exact List.take_of_length_le (by simp only [List.length_append, List.length_take]; omega)
 simp only [r2]
 rw [h2, List.take_take, Nat.min_eq_left (by omega), List.take_append_of_le_length (by simp only [List.length_append, List.length_take, hm]; omega)]
 exact List.take_of_length_le (by simp only [List.length_append, List.length_take, hm]; omega)

set_option maxHeartbeats 4000000 in
set_option maxRecDepth 100000 in
/-- a new row -/
theorem slices_Insert_int_int.grow (g n c i : Nat) (cur : Array Value) (vb vo vc : Nat) (vs : List Value) (w : World) (hi : i < n) (hnc : n ≤ c) (hroom : c < n + 1) (hbig : (n + 1) * 8 ≤ 140737488355328)
  (hg : w.heap[g]? = some (.cells cur 3 (0, 0))) (hcs : cur.size = c * 1) (h1 : ∀ v ∈ cur.toList.take (n * 1), v.oneCell' = true) (hvl : vs.length = 1) (h1v : ∀ v ∈ vs, v.oneCell' = true)
  (hvw : vb < w.heap.size) (hv : ∀ j v, vs[j]? = some v → w.cell? ((⟨vb, vo, none⟩ : Addr).add j) = some v) :
  Calls Try.prog 33 #[.slice (some ⟨g, 0, none⟩) n c, .int .i64 i, .slice (some ⟨vb, vo, none⟩) 1 vc] w (slices_Insert_int_int.Post w (some g) (n + 1) ((cur.toList.take (n * 1)).take (i * 1) ++ vs ++ (cur.toList.take (n * 1)).drop (i * 1))) := by
 have hc : c ≤ 9223372036854775807 := by omega
 have hz2 : ¬ ((i : Int) = (n : Int)) := by omega
 have hz3 : (c : Int) < (n : Int) + 1 := by omega
 have hw1 : IntKind.i64.wrap ((i : Int) + 1) = (i : Int) + 1 := by rw [IntKind.wrap_i64]; omega
 have hb1 : (0 : Int) ≤ (i : Int) + 1 := by omega
 have hin : i ≤ n := by omega
 have htn : ((i : Int) + 1).toNat = i + 1 := by omega
 have hb3 : (i : Int) ≤ (n : Int) := by omega
 have hb4 : ¬ (c = i) := by omega
 have hkk : (n : Int) + 1 - (i : Int) = ((n + 1 - i : Nat) : Int) := by omega
 have hik : i + (n + 1 - i) = n + 1 := by omega
 have hcl : cur.toList.length = c * 1 := by rw [Array.length_toList]; exact hcs
 obtain ⟨i0, hi0, hz0, hzs, hzb⟩ := slices_Insert_int_int.info
 have hgw : g < w.heap.size := blk_lt hg
 have hold : (Builtin.firstCells i0.size i (.slice (some ⟨g, 0, none⟩) i c)).run Try.prog w.drew = .ok (cur.toList.take (i * 1)).toArray w.drew := by
  rw [hzs]
  exact run_firstCells_some w.drew 1 i ⟨g, 0, none⟩ i c (cur.toList.take (i * 1)) (by rw [List.length_take]; omega) (fun j v hj => by
   rw [Addr.add_lit, Nat.zero_add]
   change w.cell? _ = _
   rw [cell_row hg]
   rw [List.getElem?_take] at hj
   split at hj
   ·simpa using hj
   ·cases hj)
 obtain ⟨G, hG⟩ : ∃ G, G = grownCap w (n + 1) c 3 := ⟨_, rfl⟩
 have hGn : n + 1 ≤ G := by rw [hG]; exact grownCap_ge w _ _ _
 have hGm : G ≤ maxLen := by rw [hG]; exact grownCap_le_maxLen w _ _ _ (by unfold maxLen; omega)
 have hG63 : G ≤ 9223372036854775807 := by unfold maxLen at hGm; omega
 obtain ⟨z1, hz1⟩ : ∃ z1, z1 = (Builtin.zeroCells ((.int .i64 0) : Value).cells (n + 1 - i)) := ⟨_, rfl⟩
 obtain ⟨z2, hz2'⟩ : ∃ z2, z2 = (Builtin.zeroCells ((.int .i64 0) : Value).cells (G - (n + 1))) := ⟨_, rfl⟩
 have hz1l : z1.toList.length = (n + 1 - i) * 1 := by rw [Array.length_toList, hz1, size_zeroCells]; rfl
 have hz2l : z2.toList.length = (G - (n + 1)) * 1 := by rw [Array.length_toList, hz2', size_zeroCells]; rfl
 obtain ⟨s0, s1, s2, s3⟩ := slices_Insert_int_int.laid 1 cur.toList vs z1.toList z2.toList n i hi (by omega) hvl hz1l
 have hml : ((cur.toList.take (n * 1)).drop (i * 1)).length = (n - i) * 1 := by rw [List.length_drop, List.length_take]; omega
 generalize hr0 : cur.toList.take (i * 1) ++ z1.toList ++ z2.toList = r0 at s0 s1 s2 s3
 generalize hr1 : r0.take (i * 1) ++ vs ++ r0.drop (i * 1 + vs.length) = r1 at s1 s2 s3
 generalize hr2 : r1.take ((i + 1) * 1) ++ (cur.toList.take (n * 1)).drop (i * 1) ++ r1.drop ((i + 1) * 1 + ((cur.toList.take (n * 1)).drop (i * 1)).length) = r2 at s2 s3
 obtain ⟨W1, hW1⟩ : ∃ W1, W1 = w.drew.alloc (.cells r0.toArray 3) := ⟨_, rfl⟩
 have hrz : ∀ ty, (Builtin.append_ #[24, 3] ty #[.slice (some ⟨g, 0, none⟩) i c, .int .i64 ((n : Int) + 1 - (i : Int))]).run Try.prog w =
   .ok (.slice (some ⟨w.heap.size, 0, none⟩) (n + 1) G) W1 := fun ty => by
  have h := Lib.run_append_grow_zeros (P := Try.prog) w 24 3 ty 3 i0 _ .i64 .i64 Try.underlying24 Try.underlying3 hi0 hz0 (some ⟨g, 0, none⟩) i c (cur.toList.take (i * 1)) hold (n + 1 - i) (by omega) (by omega) (by omega) (by omega) (by rw [hzb]; omega) (by rw [hzb, hik]; exact growslice_fits hroom hbig)
  rw [hik, ← hG, ← hz1, ← hz2'] at h
  have ha : (cur.toList.take (i * 1)).toArray ++ z1 ++ z2 = r0.toArray := by rw [← hr0]; apply Array.ext'; simp
  rw [hkk, hW1, ← ha]
  exact h
 have hN1 : W1.heap[w.heap.size]? = some (.cells r0.toArray 3 (0, 0)) := by rw [hW1]; exact heap_alloc_new w.drew _
 have hO1 : ∀ k, k < w.heap.size → W1.heap[k]? = w.heap[k]? := fun k hk => by rw [hW1]; exact heap_alloc_old w.drew _ hk
 obtain ⟨W2, hW2⟩ : ∃ W2, W2 = W1.setRow w.heap.size r1.toArray := ⟨_, rfl⟩
 have hcpA : ∀ ty dc, (Builtin.copy_ #[24, 24] ty #[.slice (some ⟨w.heap.size, i * 1, none⟩) (n + 1 - i) dc, .slice (some ⟨vb, vo, none⟩) 1 vc]).run Try.prog W1 = .ok (goInt ((1 : Nat) : Int)) W2 := fun ty dc => by
  have h := run_copy_sz (P := Try.prog) W1 24 24 ty 3 1 w.heap.size (i * 1) (n + 1 - i) dc ⟨vb, vo, none⟩ 1 vc r0.toArray 3 vs 1 Try.underlying24 slices_Insert_int_int.sz
   (by simp only [Nat.min_def]; split <;> omega) (by omega) hN1
   (fun j v hj => by
    have h2 := hv j v hj
    rw [Addr.add_lit] at h2 ⊢
    simp only [World.cell?, hO1 vb hvw]
    exact h2)
   (by rw [List.size_toArray, s0]; omega) h1v
  simp only [List.toList_toArray, hr1] at h
  rw [hW2]
  exact h
 have hN2 : W2.heap[w.heap.size]? = some (.cells r1.toArray 3 (0, 0)) := by rw [hW2]; exact setRow_heap _ _ _ _ _ _ hN1
 have hO2 : ∀ k, k < w.heap.size → W2.heap[k]? = w.heap[k]? := fun k hk => by rw [hW2, setRow_other _ _ _ _ (by omega)]; exact hO1 k hk
 have hcpB : ∀ ty dc sc, (Builtin.copy_ #[24, 24] ty #[.slice (some ⟨w.heap.size, (i + 1) * 1, none⟩) (n - i) dc, .slice (some ⟨g, i * 1, none⟩) (n - i) sc]).run Try.prog W2.drew = .ok (goInt ((n - i : Nat) : Int)) (W2.drew.setRow w.heap.size r2.toArray) := fun ty dc sc => by
  have h := run_copy_sz (P := Try.prog) W2.drew 24 24 ty 3 1 w.heap.size ((i + 1) * 1) (n - i) dc ⟨g, i * 1, none⟩ (n - i) sc r1.toArray 3 ((cur.toList.take (n * 1)).drop (i * 1)) (n - i) Try.underlying24 slices_Insert_int_int.sz
   (by simp only [Nat.min_def]; split <;> omega) hml hN2
   (fun j v hj => by
    rw [Addr.add_lit]
    change W2.cell? _ = _
    simp only [World.cell?, hO2 g hgw]
    change w.cell? ⟨g, _, none⟩ = _
    rw [cell_row hg]
    rw [List.getElem?_drop, List.getElem?_take] at hj
    split at hj
    ·simpa using hj
    ·cases hj)
   (by rw [List.size_toArray, hml, s1, s0]; omega) (fun v hv => h1 v (List.mem_of_mem_drop hv))
  simp only [List.toList_toArray, hr2] at h
  exact h
 have HN2 := Aside0.mk hN2
 have HW1 := Aside0.mk hW1
 have HW2 := Aside0.mk hW2
 have HS3 := Aside0.mk s3
 have HL := Aside0.mk (show r2.length = G * 1 by rw [s2, s0, hz2l]; omega)
 have HGm := Aside0.mk hGm
 clear hW1 hW2 s0 s1 s2 s3 hr0 hr1 hr2 hz1 hz2' hz1l hz2l hG hold hi0 hz0 hzs hzb hN1 hN2 hO1 hO2 hml hcl hcs hik hkk hGm
 have hGi : ¬ (G = i) := by omega
 have hGim : ¬ (G = i + 1) := by omega
 go_enter Try.func33, Try.ntmps33
 (try simp only [Nat.mul_one] at hrz hcpA hcpB)
 go_wp2_with (first
  | (at_builtin; refine wpList_append_runG _ rfl _ _ 24 3 rfl _ _ rfl rfl (hrz _) ?_)
  | (at_builtin; refine wpList_copy_runG _ rfl _ _ 24 24 rfl _ _ rfl rfl (hcpA _ _) ?_))
 go_region_law (refine step_copy_runG rfl (.tmp 50) (.tmp 53) 24 24 rfl _ _ (by simp [Act.eval, Act.put]) (by simp [Act.eval, Act.put]) (hcpB _ _ _) ?_)
 go_wp2
 go_ret
 refine ⟨_, rfl, ⟨w.heap.size, G, r2.toArray, rfl, .inr (Nat.le_refl _), setRow_heap _ _ _ _ _ _ HN2.out, hGn, HGm.out, by rw [List.size_toArray, HL.out], HS3.out⟩, ?_, ?_⟩
 ·rw [← HS3.out, List.length_take, HL.out]; omega
 ·rw [HW2.out, HW1.out]
  exact grown_setRow (grown_drew (grown_setRow (grown_alloc (grown_drew (grown_refl _ _)) _) _ _ (.inr (Nat.le_refl _)))) _ _ (.inr (Nat.le_refl _))

def slices_Insert_int_int.f (l0 : List Int) (a1 : Int) (l2 : List Int) : Option (List Int) := if l2.length = 1 then (if 0 ≤ a1 then (if a1 ≤ (l0.length : Int) then (if l0.length + 1 < 17592186044416 then some (l0.take a1.toNat ++ l2 ++ l0.drop a1.toNat) else none) else none) else none) else none
set_option maxHeartbeats 8000000 in
set_option maxRecDepth 100000 in
theorem slices_Insert_int_int.calls (P0_ : Nat → Prop) (u9000_ : Value) (l0 : List Int) (a1 : Int) (P2_ : Nat → Prop) (u9001_ : Value) (l2 : List Int) (r : List Int) (w0 w : World) (hB : Below w0.heap.size w0 w) (ho0 : Kd.R (Kd.int .i64) 3 w w0.heap.size P0_ u9000_ l0) (hp0_2 : ∀ k_, P0_ k_ → ¬ P2_ k_) (ho2 : Kd.R (Kd.int .i64) 3 w w0.heap.size P2_ u9001_ l2) (hp2_0 : ∀ k_, P2_ k_ → ¬ P0_ k_) (h : slices_Insert_int_int.f l0 a1 l2 = some r) :
  Calls Try.prog 33 #[u9000_, .int .i64 a1, u9001_] w fun e w' => ∃ v0_ : Value, e = .returned (v0_) ∧ Kd.R (Kd.int .i64) 3 w' w0.heap.size (fun k_ => ((P0_ k_ ∨ P2_ k_) ∨ w.heap.size ≤ k_)) v0_ r ∧ Below w0.heap.size w0 w' ∧ Kept w w' (fun k_ => P0_ k_ ∨ P2_ k_) := by
 unfold slices_Insert_int_int.f at h
 by_cases hl2 : l2.length = 1
 rotate_left
 ·rw [if_neg hl2] at h; cases h
 rw [if_pos hl2] at h
 by_cases h0 : 0 ≤ a1
 rotate_left
 ·rw [if_neg h0] at h; cases h
 rw [if_pos h0] at h
 by_cases hle : a1 ≤ (l0.length : Int)
 rotate_left
 ·rw [if_neg hle] at h; cases h
 rw [if_pos hle] at h
 by_cases hlim : l0.length + 1 < 17592186044416
 rotate_left
 ·rw [if_neg hlim] at h; cases h
 rw [if_pos hlim] at h
 have hr := (Option.some.inj h).symm
 clear h
 obtain ⟨i, rfl⟩ := Int.eq_ofNat_of_zero_le h0
 have hi : i ≤ l0.length := by omega
 rw [Int.toNat_natCast] at hr
 have hup : ∀ {w' : World} {v : Value}, (Kd.R (Kd.int .i64) 3 w' w0.heap.size (fun k => (P0_ k ∨ w.heap.size ≤ k)) v r ∧ Below w0.heap.size w0 w' ∧ Kept w w' (fun k => P0_ k)) →
   Kd.R (Kd.int .i64) 3 w' w0.heap.size (fun k_ => ((P0_ k_ ∨ P2_ k_) ∨ w.heap.size ≤ k_)) v r ∧ Below w0.heap.size w0 w' ∧ Kept w w' (fun k_ => P0_ k_ ∨ P2_ k_) := fun hx =>
  ⟨Kd.R_mono hx.1 (fun k hk => hk.elim (fun h => .inl (.inl h)) .inr), hx.2.1, hx.2.2.mono (fun k hk => .inl hk)⟩
 -- the literal
 obtain ⟨hok2, inner2, ⟨hin2, hown2⟩, hrep2⟩ := ho2
 rcases hown2 with ⟨_, hbad⟩ | ⟨vb, vc, vcur, rfl, hvbase, hvh, hvc, hvm, hvsz, hvt⟩
 ·omega
 rw [hl2] at hin2 hvt hvc ⊢
 have hP2 : P2_ vb := hok2 vb rfl
 have hnP0 : ¬ P0_ vb := hp2_0 vb hP2
 have hK2 : ∀ W b o, (Kd.M (Kd.int .i64) W b o (l2.getD 0 0) inner2) := fun W b o => by
  have := hrep2.2 0 (l2.getD 0 0) (by rw [List.getD_eq_getElem?_getD, List.getElem?_eq_getElem (by omega)]; rfl)
  rw [Nat.zero_mul, List.drop_zero, List.take_of_length_le (by rw [hin2]; exact Nat.le_of_eq (Nat.one_mul _))] at this
  exact this
 have hl2e : l2 = [l2.getD 0 0] := by
  match l2, hl2 with
  | [x], _ => rfl
 have hv1 : ∀ v ∈ inner2, v.oneCell' = true := fun v hv => (Kd.int .i64).K_one ((Kd.int .i64).K_of_M (hK2 w 0 (fun _ => True))) v hv
 have hvl : inner2.length = 1 := by rw [hin2]; rfl
 have hvcell : ∀ j v, inner2[j]? = some v → w.cell? ((⟨vb, 0, none⟩ : Addr).add j) = some v := fun j v hj => by
  rw [Addr.add_lit, Nat.zero_add, cell_row hvh, ← hj, ← hvt, List.getElem?_take, if_pos (by rw [← hvt] at hj; rw [List.getElem?_take] at hj; split at hj; omega; cases hj)]
  simp
 have hrepR : ∀ (W : World) (b : Nat) (o : Nat → Prop) (inner : List Value), Reps (fun x cs => ∀ (W : World) (b : Nat) (o : Nat → Prop), Kd.M (Kd.int .i64) W b o x cs) 1 l0 inner → Reps (Kd.M (Kd.int .i64) W b o) 1 r (inner.take (i * 1) ++ inner2 ++ inner.drop (i * 1)) := fun W b o inner hx => by
  rw [hr, hl2e]
  exact Kd.reps_append (Kd.reps_append ((reps_take hx i hi).imp_ (fun _ _ h => h W b o)) (reps_one (hK2 W b o) hvl)) ((reps_drop hx i hi).imp_ (fun _ _ h => h W b o))
 have hrl : r.length = l0.length + 1 := by rw [hr, List.length_append, List.length_append, List.length_take, List.length_drop, hl2]; omega
 by_cases hin : i < l0.length
 rotate_left
 ·-- at the end
  obtain rfl : i = l0.length := by omega
  have hr' : r = l0 ++ l2 := by rw [hr, List.take_length, List.drop_length, List.append_nil]
  have hC2 : Kd.C (Kd.int .i64) w (some ⟨vb, 0, none⟩) 1 l2 := by
   refine ⟨hl2, by omega, fun _ => ⟨_, rfl, fun j p hj => ⟨inner2, hvl, ?_, fun i u hu => ?_⟩⟩⟩
   ·rw [hl2e] at hj
    cases j with
    | zero => cases hj; exact (Kd.int .i64).K_of_M (hK2 w 0 (fun _ => True))
    | succ j => simp at hj
   ·have hj0 : j = 0 := by
     have := (List.getElem?_eq_some_iff.1 hj).1
     omega
    subst hj0
    rw [Nat.zero_mul, Nat.zero_add]
    exact hvcell i u hu
  have ho' : Kd.R (Kd.int .i64) 3 w w0.heap.size (fun k => (P0_ k ∨ w.heap.size ≤ k)) u9000_ l0 := Kd.R_mono ho0 (fun k hk => .inl hk)
  have hne : ∀ k, u9000_.ownBlock = some k → P0_ k ∨ w.heap.size ≤ k := ho'.1
  have HO := Aside0.mk ho'
  have HOO := Aside0.mk ho0
  have HC := Aside0.mk hC2
  have HB := Aside0.mk hB
  have HR := Aside0.mk hr'
  have HUP := Aside0.mk @hup
  have HL := Aside0.mk hl2
  clear ho' hC2 hB hr' hr hrl hrepR hl2e hvcell hin2 hvt hvh hrep2 hup hvsz hl2 hok2
  have hee : ((l0.length : Int) == (l0.length : Int)) = true := by simp
  have go : ∀ (A0 A1 : Option Addr) (c0 : Nat), u9000_ = .slice A0 l0.length c0 → (∀ W : World, (Instr.slice 24 (.slice A0 l0.length c0) (some (.int .i64 (l0.length : Int))) none none).run Try.prog W = .ok (.slice A1 0 (c0 - l0.length)) W) →
    Calls Try.prog 33 #[u9000_, .int .i64 (l0.length : Int), .slice (some ⟨vb, 0, none⟩) 1 vc] w fun e w' => ∃ v0_ : Value, e = .returned (v0_) ∧ Kd.R (Kd.int .i64) 3 w' w0.heap.size (fun k_ => ((P0_ k_ ∨ P2_ k_) ∨ w.heap.size ≤ k_)) v0_ r ∧ Below w0.heap.size w0 w' ∧ Kept w w' (fun k_ => P0_ k_ ∨ P2_ k_) := by
   intro A0 A1 c0 hu hsl
   subst hu
   clear hne ho0
   go_enter Try.func33, Try.ntmps33
   go_wp2_with (first | (at_builtin; refine Kd.R_append_rows (Kd.int .i64) (w0 := w0) w0.heap.size rfl (.tmp 23) (.tmp 24) 24 3 (.int .i64 0) 8 rfl Try.underlying24 info3 rfl (by decide) (by omega) _ l0 l2 _ _ _ (fun k => (P0_ k ∨ w.heap.size ≤ k)) (fun _ => False) rfl rfl ?aO ?aR (fun _ _ h => h) (fun _ h => h.elim) ?aF ?aB ?aS ?aL ?_; (case aO => exact HO.out); (case aR => exact HC.out); (case aF => exact (fun _ h => .inr h)); (case aB => exact HB.out); (case aS => exact HB.out.size); (case aL => omega); intro v1 w1 ho hb hg hat))
   go_ret
   refine ⟨_, rfl, HUP.out ⟨?_, hb, ?_⟩⟩
   ·rw [HR.out]; exact ho
   ·exact Kept.of_grown hg (Kept.refl _ _) (fun k hk => .inl (HOO.out.1 k hk))
  obtain ⟨A0, c0, hu, hle0, hrow⟩ := Kd.R_reads ho0
  obtain ⟨i0, hi0, _⟩ := slices_Insert_int_int.info
  obtain ⟨A1, hA1, _⟩ := run_cut_on (P := Try.prog) 24 3 Try.underlying24 hi0 .i64 A0 l0.length c0 l0.length (Nat.le_refl _)
  exact go A0 A1 c0 hu (fun W => by simpa using hA1 W)
 ·have ho0' := ho0
  obtain ⟨hok0, inner0, ⟨hin0, hown0⟩, hrep0⟩ := ho0
  rcases hown0 with ⟨_, hbad⟩ | ⟨g, cap, cur, rfl, hgbase, hgh, hgc, hgm, hgsz, hgt⟩
  ·omega
  have hP0 : P0_ g := hok0 g rfl
  have hvg : vb ≠ g := by rintro rfl; exact hnP0 hP0
  have hrepA : Reps (fun x cs => ∀ (W : World) (b : Nat) (o : Nat → Prop), Kd.M (Kd.int .i64) W b o x cs) 1 l0 inner0 := hrep0.imp_ (fun _ _ h _ _ _ => h)
  have h1 : ∀ v ∈ cur.toList.take (l0.length * 1), v.oneCell' = true := fun v hv => by
   have e : cur.toList.take (l0.length * 1) = inner0 := hgt
   rw [e] at hv
   obtain ⟨j, hj, rfl⟩ := List.getElem_of_mem hv
   have hlen : inner0.length = l0.length * 1 := hin0
   have hd := hrepA.2 (j / 1) (l0.getD (j / 1) 0) (by rw [List.getD_eq_getElem?_getD, List.getElem?_eq_getElem (by omega)]; rfl)
   refine (Kd.int .i64).K_one ((Kd.int .i64).K_of_M (hd w 0 (fun _ => True))) _ ?_
   rw [List.mem_take_iff_getElem]
   refine ⟨j % 1, by rw [List.length_drop]; omega, ?_⟩
   rw [List.getElem_drop]
   congr 1
   omega
  have fin : ∀ e w', slices_Insert_int_int.Post w (some g) (l0.length + 1) ((cur.toList.take (l0.length * 1)).take (i * 1) ++ inner2 ++ (cur.toList.take (l0.length * 1)).drop (i * 1)) e w' → ∃ v0_ : Value, e = .returned (v0_) ∧ Kd.R (Kd.int .i64) 3 w' w0.heap.size (fun k_ => ((P0_ k_ ∨ P2_ k_) ∨ w.heap.size ≤ k_)) v0_ r ∧ Below w0.heap.size w0 w' ∧ Kept w w' (fun k_ => P0_ k_ ∨ P2_ k_) := fun e w' hx => by
   obtain ⟨v, rfl, hw⟩ := hx
   rw [show cur.toList.take (l0.length * 1) = inner0 from hgt, ← hrl] at hw
   exact ⟨v, rfl, hup (Wrote.R hB ho0' hw (hrepR _ _ _ _ hrepA))⟩
  by_cases hroom : l0.length + 1 ≤ cap
  ·refine (slices_Insert_int_int.shift g l0.length cap i cur vb 0 vc inner2 w hin hroom hgm hgh hgsz h1 hvg hvl hv1 hvcell (fun lb cb o => ?_)).mono fin
   rw [run_callFunc_extern Try.func41 (by kernel_rfl) (by kernel_rfl) (by kernel_rfl) (e := Extern.SlicesOverlaps.overlaps #[24, 24] #[4]) (by kernel_rfl),
    Lib.run_overlaps_apart w 24 4 3 Try.underlying24 1 (fun W => Try.sizeOf3 W) ⟨vb, 0, none⟩ ⟨g, o, none⟩ 1 vc lb cb hvg 3 3 vcur.size cur.size (by simp [World.shape?, hvh]) (by simp [World.shape?, hgh]) (by rw [hgsz]; have hk_ : ((Kd.int .i64)).sz = 1 := rfl; first | (simp only [hk_]; omega) | (simp [(Kd.int .i64), Kd.iso, Kd.pair, Kd.int, Kd.scalar]; omega)) (by simp [World.frozen?, hvh]) (by simp [World.frozen?, hvh])]
   rfl
  ·exact (slices_Insert_int_int.grow g l0.length cap i cur vb 0 vc inner2 w hin hgc (by omega) (by omega) hgh hgsz h1 hvl hv1 (blk_lt hvh) hvcell).mono fin

end Go.Proofs.Ythhdfefobblmkaa.P
