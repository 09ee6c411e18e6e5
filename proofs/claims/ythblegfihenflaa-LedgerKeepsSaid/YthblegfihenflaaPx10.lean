/- Functions that the laws reach, told as plain functions, each with a proof that the call computes it; for every input. Written by a program of ours out of the translation. -/
import Derived.Test.YthblegfihenflaaPx0
namespace Go.Proofs.Ythblegfihenflaa.P
open Go.RowKit Go.Proofs.YthblegfihenflaaW.PrintWords Go.Proofs.YthblegfihenflaaW.PrintLast Go.Proofs.YthblegfihenflaaW.PrintMore
open Go.Proofs.YthblegfihenflaaG (bk_ bl_ rk_)
attribute [local go_sem] max2_int min2_int max_two min_two max_three min_three max_four min_four   -- for this text's walks alone
set_option linter.unusedVariables false
set_option linter.unusedSimpArgs false

/-! ### api_Amount_28: function 28 -/
open Go.Proofs.YthblegfihenflaaG
def api_Amount_28.Post (w : World) (row : Option Nat) (n : Nat) (inner : List Value) (e : Ending) (w' : World) : Prop := ∃ v, e = .returned v ∧ Wrote Try.prog 31 2 w w' row n inner v
theorem api_Amount_28.info : ∃ i, Try.prog.info? 31 = some i ∧ i.zero = some (.agg #[(.int .i64 0), (.int .i64 0)]) ∧ i.size = 2 ∧ i.bytes = 16 := by
 obtain ⟨i, hi, hz⟩ := Option.map_eq_some_iff.1 info31
 simp only [Prod.mk.injEq] at hz
 exact ⟨i, hi, hz⟩

/-- taken out in place, on lists -/
theorem api_Amount_28.lists (sz : Nat) (l z : List Value) (n i j : Nat) (hij : i ≤ j) (hj : j ≤ n) (hl : n * sz ≤ l.length) (hz : z.length = (j - i) * sz) :
  let m := (l.take (n * sz)).drop (j * sz)
  let l1 := l.take (i * sz) ++ m ++ l.drop (i * sz + m.length)
  let l2 := l1.take ((i + (n - j)) * sz) ++ z ++ l1.drop ((i + (n - j)) * sz + (j - i) * sz)
  m.length = (n - j) * sz ∧ l1.length = l.length ∧ l2.length = l.length ∧ l2.take ((i + (n - j)) * sz) = (l.take (n * sz)).take (i * sz) ++ (l.take (n * sz)).drop (j * sz) := by
 have e1 : (i + (n - j)) * sz = i * sz + (n * sz - j * sz) := by rw [Nat.add_mul, Nat.sub_mul]
 have e2 : (j - i) * sz = j * sz - i * sz := Nat.sub_mul _ _ _
 have e3 : (n - j) * sz = n * sz - j * sz := Nat.sub_mul _ _ _
 have h1 : i * sz ≤ j * sz := Nat.mul_le_mul_right _ hij
 have h2 : j * sz ≤ n * sz := Nat.mul_le_mul_right _ hj
 rw [e2] at hz
 rw [e1, e2, e3]
 generalize i * sz = a at *
 generalize j * sz = b at *
 generalize n * sz = c at *
 intro m l1 l2
 have hm : m.length = c - b := by simp only [m, List.length_drop, List.length_take]; omega
 have hl1 : l1.length = l.length := by simp only [l1, List.length_append, List.length_take, List.length_drop, hm]; omega
 have hl2 : l2.length = l.length := by simp only [l2, List.length_append, List.length_take, List.length_drop, hl1]; omega
 refine ⟨hm, hl1, hl2, ?_⟩
 simp only [l2]
 rw [List.append_assoc, List.take_append_of_le_length (by rw [List.length_take]; omega), List.take_take, Nat.min_self]
 simp only [l1]
 rw [List.take_append_of_le_length (by simp only [List.length_append, List.length_take, hm]; omega), List.take_take, Nat.min_eq_left (by omega)]
 exact List.take_of_length_le (by simp only [List.length_append, List.length_take, hm]; omega)

theorem api_Amount_28.ones : ∀ n, ∀ v ∈ (Builtin.zeroCells ((.agg #[(.int .i64 0), (.int .i64 0)]) : Value).cells n).toList, v.oneCell' = true := ones_of _ (show 0 < ((.agg #[(.int .i64 0), (.int .i64 0)]) : Value).cells.size from (show ((.agg #[(.int .i64 0), (.int .i64 0)]) : Value).cells.size = 2 from rfl) ▸ (by decide : 0 < 2)) rfl

set_option maxHeartbeats 4000000 in
set_option maxRecDepth 100000 in
theorem api_Amount_28.taken (g n c i j : Nat) (cur : Array Value) (w : World) (hij : i < j) (hj : j ≤ n) (hnc : n ≤ c) (hc : c ≤ maxLen)
  (hg : w.heap[g]? = some (.cells cur 31 (0, 0))) (hcs : cur.size = c * 2) (h1 : ∀ v ∈ cur.toList.take (n * 2), v.oneCell' = true) :
  Calls Try.prog 28 #[.slice (some ⟨g, 0, none⟩) n c, .int .i64 i, .int .i64 j] w (api_Amount_28.Post w (some g) (i + (n - j)) ((cur.toList.take (n * 2)).take (i * 2) ++ (cur.toList.take (n * 2)).drop (j * 2))) := by
 have Hc := Aside0.mk hc
 unfold maxLen at hc
 obtain ⟨i0, hi0, hz0, hzs, hzb⟩ := api_Amount_28.info
 have hcl : cur.toList.length = c * 2 := by rw [Array.length_toList]; exact hcs
 have hzl : (Builtin.zeroCells ((.agg #[(.int .i64 0), (.int .i64 0)]) : Value).cells (j - i)).toList.length = (j - i) * 2 := by rw [Array.length_toList, size_zeroCells]; rfl
 obtain ⟨sm, s1, s2, s3⟩ := api_Amount_28.lists 2 cur.toList _ n i j (by omega) hj (by omega) hzl
 generalize hl1 : cur.toList.take (i * 2) ++ (cur.toList.take (n * 2)).drop (j * 2) ++ cur.toList.drop (i * 2 + ((cur.toList.take (n * 2)).drop (j * 2)).length) = l1 at s1 s2 s3
 obtain ⟨q, hq⟩ : ∃ q, q = i + (n - j) := ⟨_, rfl⟩
 rw [← hq] at s2 s3 ⊢
 generalize hl2 : l1.take (q * 2) ++ (Builtin.zeroCells ((.agg #[(.int .i64 0), (.int .i64 0)]) : Value).cells (j - i)).toList ++ l1.drop (q * 2 + (j - i) * 2) = l2 at s2 s3
 obtain ⟨A1, hA1, hA1'⟩ := run_cut_on (P := Try.prog) 22 31 Try.underlying22 hi0 .i64 (some ⟨g, 0, none⟩) n c j hj
 obtain ⟨W1, hW1⟩ : ∃ W1, W1 = w.drew.setRow g l1.toArray := ⟨_, rfl⟩
 have hap : ∀ ty mc, (Builtin.append_ #[22, 22] ty #[.slice (some ⟨g, 0, none⟩) i c, .slice A1 (n - j) mc]).run Try.prog w.drew = .ok (.slice (some ⟨g, 0, none⟩) q c) W1 := fun ty mc => by
  have h := run_append_room_sz (P := Try.prog) w.drew 22 31 ty i0 2 Try.underlying22 hi0 hzs g i c A1 (n - j) mc cur 31 ((cur.toList.take (n * 2)).drop (j * 2)) hg sm
   (fun h0 => ⟨⟨g, j * 2, none⟩, by rw [hA1' (by omega), hzs]; simp [Addr.add_lit], fun k v hk => by
    rw [Addr.add_lit]
    change w.cell? _ = _
    rw [cell_row hg]
    rw [List.getElem?_drop, List.getElem?_take] at hk
    split at hk
    ·simpa using hk
    ·cases hk⟩) (by omega) (by rw [sm]; omega) (fun v hv => h1 v (List.mem_of_mem_drop hv))
  rw [hl1] at h
  rw [hW1, hq]
  exact h
 have hg1 : W1.heap[g]? = some (.cells l1.toArray 31 (0, 0)) := by rw [hW1]; exact setRow_heap _ _ _ _ _ _ hg
 have hclr : ∀ ty cc, (Builtin.clear_ #[22] ty #[.slice (some ⟨g, q * 2, none⟩) (n - q) cc]).run Try.prog W1 = .ok (.tuple #[]) (W1.setRow g l2.toArray) := fun ty cc => by
  have h := run_clear_sz (P := Try.prog) W1 22 31 ty i0 _ 2 Try.underlying22 hi0 hz0 rfl g (q * 2) (n - q) cc l1.toArray 31 hg1 (by rw [List.size_toArray, s1]; omega) (api_Amount_28.ones _)
  have e : n - q = j - i := by omega
  rw [e] at h ⊢
  simp only [List.toList_toArray, hl2] at h
  exact h
 have hjn : ((j : Int) ≤ (n : Int)) := by omega
 have hij' : ((i : Int) ≤ (j : Int)) := by omega
 have hne : ((i : Int) == (j : Int)) = false := by simp; omega
 have hqn : q ≤ n := by omega
 have hic : i ≤ c := by omega
 have hjc : j ≤ c := by omega
 have hqi : (q : Int) ≤ (n : Int) := by omega
 have hnc' : (n : Int) ≤ (c : Int) := by omega
 have hcq : ¬ (c = q) := by omega
 have hci : ¬ (c = i) := by omega
 have hni : ¬ (n = i) := by omega
 have HQ := Aside0.mk hq
 have HW1 := Aside0.mk hW1
 have HG1 := Aside0.mk hg1
 have HS2 := Aside0.mk s2
 have HS3 := Aside0.mk s3
 have HCL := Aside0.mk hcl
 clear hq hW1 hg1 s1 s2 s3 sm hcl hcs hl1 hl2 hzl hi0 hz0 hzs hzb hA1'
 go_enter Try.func28, Try.ntmps28
 go_wp2_with (fail)
 go_region_law (refine step_append_runG rfl (.tmp 22) (.tmp 25) 22 22 rfl (.slice (some ⟨g, 0, none⟩) i c) (.slice A1 (n - j) (c - j)) (by simp [Act.eval, Act.put]) (by simp [Act.eval, Act.put]) (hap 22 (c - j)) ?_)
 go_wp2_with (at_builtin; refine wpList_call1_runG _ rfl _ 22 rfl _ rfl (hclr _ _) ?_)
 go_ret
 refine ⟨_, rfl, ⟨g, c, l2.toArray, rfl, .inl rfl, setRow_heap _ _ _ _ _ _ HG1.out, by omega, Hc.out, by rw [List.size_toArray, HS2.out, HCL.out], HS3.out⟩, ?_, ?_⟩
 ·rw [← HS3.out, List.length_take, HS2.out, HCL.out]; omega
 ·rw [HW1.out]
  exact grown_setRow (grown_setRow (grown_drew (grown_refl _ _)) _ _ (.inl rfl)) _ _ (.inl rfl)

def api_Amount_28.f (l0 : List S31) (a1 : Int) (a2 : Int) : Option (List S31) := if 0 ≤ a1 then (if a1 ≤ a2 then (if a2 ≤ (l0.length : Int) then some (l0.take a1.toNat ++ l0.drop a2.toNat) else none) else none) else none
set_option maxHeartbeats 8000000 in
set_option maxRecDepth 100000 in
theorem api_Amount_28.calls (P0_ : Nat → Prop) (u9000_ : Value) (l0 : List S31) (a1 : Int) (a2 : Int) (r : List S31) (w0 w : World) (hB : Below w0.heap.size w0 w) (ho0 : Kd.R k31 31 w w0.heap.size P0_ u9000_ l0) (h : api_Amount_28.f l0 a1 a2 = some r) :
  Calls Try.prog 28 #[u9000_, .int .i64 a1, .int .i64 a2] w fun e w' => ∃ v0_ : Value, e = .returned (v0_) ∧ Kd.R k31 31 w' w0.heap.size (fun k_ => (P0_ k_ ∨ w.heap.size ≤ k_)) v0_ r ∧ Below w0.heap.size w0 w' ∧ Kept w w' (fun k_ => P0_ k_) := by
 unfold api_Amount_28.f at h
 by_cases h0 : 0 ≤ a1
 rotate_left
 ·rw [if_neg h0] at h; cases h
 rw [if_pos h0] at h
 by_cases hij : a1 ≤ a2
 rotate_left
 ·rw [if_neg hij] at h; cases h
 rw [if_pos hij] at h
 by_cases hle : a2 ≤ (l0.length : Int)
 rotate_left
 ·rw [if_neg hle] at h; cases h
 rw [if_pos hle] at h
 have hr := (Option.some.inj h).symm
 clear h
 obtain ⟨i, rfl⟩ := Int.eq_ofNat_of_zero_le h0
 obtain ⟨j, rfl⟩ := Int.eq_ofNat_of_zero_le (Int.le_trans h0 hij)
 have hijn : i ≤ j := by omega
 have hj : j ≤ l0.length := by omega
 rw [Int.toNat_natCast, Int.toNat_natCast] at hr
 by_cases heq : i = j
 ·subst heq
  have hr' : r = l0 := by rw [hr, List.take_append_drop]
  obtain ⟨A0, c0, hu, hc0, hC⟩ := Kd.R_reads ho0
  obtain ⟨_, hm, _⟩ := hC
  have HO := Aside0.mk (show Kd.R k31 31 w w0.heap.size (fun k => (P0_ k ∨ w.heap.size ≤ k)) u9000_ r from hr' ▸ Kd.R_mono ho0 (fun k hk => .inl hk))
  have HB := Aside0.mk hB
  obtain ⟨i0, hi0, _⟩ := api_Amount_28.info
  obtain ⟨v3, hv3⟩ := run_cut3 (P := Try.prog) 22 31 Try.underlying22 hi0 A0 l0.length c0 i i l0.length (Nat.le_refl _) hj hc0
  clear ho0 hB hr hr' hi0
  subst hu
  have he : ((i : Int) == (i : Int)) = true := by simp
  have hc0' : (l0.length : Int) ≤ (c0 : Int) := by omega
  go_enter Try.func28, Try.ntmps28
  go_wp2
  go_ret
  exact ⟨_, rfl, HO.out, HB.out, Kept.refl _ _⟩
 ·have ho0' := ho0
  obtain ⟨hok0, inner0, ⟨hin0, hown0⟩, hrep0⟩ := ho0
  rcases hown0 with ⟨_, hbad⟩ | ⟨g, cap, cur, rfl, hgbase, hgh, hgc, hgm, hgsz, hgt⟩
  ·omega
  have hrepA : Reps (fun x cs => ∀ (W : World) (b : Nat) (o : Nat → Prop), Kd.M k31 W b o x cs) 2 l0 inner0 := hrep0.imp_ (fun _ _ h _ _ _ => h)
  have h1 : ∀ v ∈ cur.toList.take (l0.length * 2), v.oneCell' = true := fun v hv => by
   have e : cur.toList.take (l0.length * 2) = inner0 := hgt
   rw [e] at hv
   obtain ⟨j, hj, rfl⟩ := List.getElem_of_mem hv
   have hlen : inner0.length = l0.length * 2 := hin0
   have hd := hrepA.2 (j / 2) (l0.getD (j / 2) z31) (by rw [List.getD_eq_getElem?_getD, List.getElem?_eq_getElem (by omega)]; rfl)
   refine k31.K_one (k31.K_of_M (hd w 0 (fun _ => True))) _ ?_
   rw [List.mem_take_iff_getElem]
   refine ⟨j % 2, by rw [List.length_drop]; omega, ?_⟩
   rw [List.getElem_drop]
   congr 1
   omega
  have hrl : r.length = i + (l0.length - j) := by rw [hr, List.length_append, List.length_take, List.length_drop]; omega
  refine (api_Amount_28.taken g l0.length cap i j cur w (by omega) hj hgc hgm hgh hgsz h1).mono fun e w' hx => ?_
  obtain ⟨v, rfl, hw⟩ := hx
  rw [show cur.toList.take (l0.length * 2) = inner0 from hgt, ← hrl] at hw
  refine ⟨v, rfl, Wrote.R hB ho0' hw ?_⟩
  rw [hr]
  exact Kd.reps_append ((reps_take hrepA i (by omega)).imp_ (fun _ _ h => h _ _ _)) ((reps_drop hrepA j hj).imp_ (fun _ _ h => h _ _ _))

end Go.Proofs.Ythblegfihenflaa.P
