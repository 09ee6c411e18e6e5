/- Small general lemmas for the proofs of this seat: copy and clear onto a row that is known whole; rows of elements, taken and dropped; what a row that was written in place, or anew, comes to. -/
import Derived.Test.YthhdfefobblmkaaWKept
import Derived.Test.YthhdfefobblmkaaWKept
import Derived.Lib.Overlaps
import Derived.Lib.AppendZerosOnto
import Derived.Lib.SliceRun
import Derived.Laws.CopyRow
import Derived.Laws.NewBlocks
import Derived.Laws.Externs
namespace Go.Proofs.YthhdfefobblmkaaG
open Go.RowKit Go.Proofs.YthhdfefobblmkaaW.PrintWords
set_option linter.unusedVariables false
variable {P : Program}

theorem run_copy_sz (w : World) (dT sT ty elem : TypeId) (sz g o dLen dCap : Nat) (a : Addr) (sLen sCap : Nat) (cur : Array Value) (t : TypeId) (cs : List Value) (n : Nat)
    (hu : P.underlying dT = some (.slice elem)) (hs : (P.info? elem).map (·.size) = some sz) (hn : n = Nat.min sLen dLen) (hcl : cs.length = n * sz)
    (hg : w.heap[g]? = some (.cells cur t (0, 0)))
    (hsrc : ∀ j v, cs[j]? = some v → w.cell? (a.add j) = some v) (hfit : o + cs.length ≤ cur.size) (h1 : ∀ v ∈ cs, v.oneCell' = true) :
    (Builtin.copy_ #[dT, sT] ty #[.slice (some ⟨g, o, none⟩) dLen dCap, .slice (some a) sLen sCap]).run P w =
      .ok (goInt n) (w.setRow g (cur.toList.take o ++ cs ++ cur.toList.drop (o + cs.length)).toArray) := by
  have hl := run_loadCells_list (P := P) w a cs hsrc
  have hst := run_storeCells_at P g o t cs 0 cur w hg (by simpa using hfit) h1
  cases hq : P.info? elem with
  | none => simp [hq] at hs
  | some i =>
    have hi : i.size = sz := by simpa [hq] using hs
    rw [hcl] at hl
    simp [Builtin.copy_, run_underlying hu, Builtin.lenOf, Builtin.firstCells, sizeOf, typeInfo, hq, hi, ← hn, hl, hst]

theorem run_copy_zero (w : World) (dT sT ty elem : TypeId) (d a : Option Addr) (dLen dCap sLen sCap : Nat) (hu : P.underlying dT = some (.slice elem)) (hs : ((P.info? elem).map (·.size)).isSome = true) (hn : Nat.min sLen dLen = 0) :
    (Builtin.copy_ #[dT, sT] ty #[.slice d dLen dCap, .slice a sLen sCap]).run P w = .ok (goInt 0) w := by
  cases hq : P.info? elem with
  | none => simp [hq] at hs
  | some i =>
    have hl : ∀ (x : Addr), (loadCells x 0).run P w = .ok #[] w := fun x => by simpa using run_loadCells_list (P := P) w x [] (by simp)
    cases d <;> cases a <;> simp [Builtin.copy_, run_underlying hu, Builtin.lenOf, Builtin.firstCells, sizeOf, typeInfo, hq, hn, storeCells, hl]

theorem run_clear_sz (w : World) (t e ty : TypeId) (i : TypeInfo) (z : Value) (sz : Nat) (ht : P.underlying t = some (.slice e)) (hi : P.info? e = some i) (hz : i.zero = some z) (hzs : z.cells.size = sz)
    (g o n c : Nat) (cur : Array Value) (u : TypeId) (hg : w.heap[g]? = some (.cells cur u (0, 0))) (hfit : o + n * sz ≤ cur.size) (h1 : ∀ v ∈ (Builtin.zeroCells z.cells n).toList, v.oneCell' = true) :
    (Builtin.clear_ #[t] ty #[.slice (some ⟨g, o, none⟩) n c]).run P w = .ok (.tuple #[]) (w.setRow g (cur.toList.take o ++ (Builtin.zeroCells z.cells n).toList ++ cur.toList.drop (o + n * sz)).toArray) := by
  have hl : (Builtin.zeroCells z.cells n).toList.length = n * sz := by rw [Array.length_toList, size_zeroCells, hzs]
  have hst := run_storeCells_at P g o u (Builtin.zeroCells z.cells n).toList 0 cur w hg (by rw [hl]; simpa using hfit) h1
  rw [hl] at hst
  cases n with
  | zero =>
    have e0 : (Builtin.zeroCells z.cells 0).toList = [] := List.eq_nil_of_length_eq_zero (by rw [hl]; simp)
    rw [e0]
    simp [Builtin.clear_, run_underlying ht, setRow_self w g cur u (0, 0) hg]
  | succ m =>
    simp only [Nat.add_zero] at hst
    simp [Builtin.clear_, run_underlying ht, zeroValue, typeInfo, hi, hz, hst]

/-- The operation 'copy(d, s)', its run known by an equation: in a plain stretch, and as one step of a region that draws. -/
theorem wpList_copy_runG (w : World) {ops : Array Oper} {rest : List Oper} {o : Oper} {a : Act} {Q : Exit → Act → World → Prop} (hgd : o.guard = none) (d s : Operand) (t t' : TypeId)
    (ho : o.op = .call { callee := .builtin .copy, args := #[d, s], argTypes := #[t, t'] }) (v u : Value) (hd : a.eval d = v) (hs : a.eval s = u) {v' : Value} {w' : World}
    (hr : (Builtin.copy_ #[t, t'] o.type #[v, u]).run P w = .ok v' w') (h : wpList P ops Q rest (a.put o.dst v') w') : wpList P ops Q (o :: rest) a w :=
  wpList_plain hgd fun K hK => by
    unfold Oper.wp execOp
    simp only [ho, resolve, invoke, builtin, Sem.run_bind, Sem.run_pure, Result.andThen_ok, List.map_toArray, List.map_cons, List.map_nil, hd, hs, hr]
    exact hK _ _ h
theorem wpList_call1_runG (w : World) {ops : Array Oper} {rest : List Oper} {o : Oper} {a : Act} {Q : Exit → Act → World → Prop} (hgd : o.guard = none) (s : Operand) (t : TypeId)
    (ho : o.op = .call { callee := .builtin .clear, args := #[s], argTypes := #[t] }) (u : Value) (hs : a.eval s = u) {v' : Value} {w' : World}
    (hr : (Builtin.clear_ #[t] o.type #[u]).run P w = .ok v' w') (h : wpList P ops Q rest (a.put o.dst v') w') : wpList P ops Q (o :: rest) a w :=
  wpList_plain hgd fun K hK => by
    unfold Oper.wp execOp
    simp only [ho, resolve, invoke, builtin, Sem.run_bind, Sem.run_pure, Result.andThen_ok, List.map_toArray, List.map_cons, List.map_nil, hs, hr]
    exact hK _ _ h
theorem wpList_append_runG (w : World) {ops : Array Oper} {rest : List Oper} {o : Oper} {a : Act} {Q : Exit → Act → World → Prop} (hgd : o.guard = none) (d s : Operand) (t t' : TypeId)
    (ho : o.op = .call { callee := .builtin .append, args := #[d, s], argTypes := #[t, t'] }) (v u : Value) (hd : a.eval d = v) (hs : a.eval s = u) {v' : Value} {w' : World}
    (hr : (Builtin.append_ #[t, t'] o.type #[v, u]).run P w = .ok v' w') (h : wpList P ops Q rest (a.put o.dst v') w') : wpList P ops Q (o :: rest) a w :=
  wpList_plain hgd fun K hK => by
    unfold Oper.wp execOp
    simp only [ho, resolve, invoke, builtin, Sem.run_bind, Sem.run_pure, Result.andThen_ok, List.map_toArray, List.map_cons, List.map_nil, hd, hs, hr]
    exact hK _ _ h
theorem step_copy_runG {ops : Array Oper} {o : Oper} {a : Act} {w : World} {K : Act → World → Prop} {Q : Exit → Act → World → Prop} {E : Prop}
    (hg : o.guard = none) (d x : Operand) (dT sT : TypeId) (hop : o.op = Op.call { callee := Callee.builtin Builtin.copy, args := #[d, x], argTypes := #[dT, sT] })
    (v u : Value) (hd : a.eval d = v) (hx : a.eval x = u) {v' : Value} {w' : World} (hr : (Builtin.copy_ #[dT, sT] o.type #[v, u]).run P w = .ok v' w') (hK : K (a.put o.dst v') w') :
    if Region.wanted o (yielded ops a.tmps) = true then Oper.wp P o a w K Q else E := by
  have hw : Region.wanted o (yielded ops a.tmps) = true := by simp [Region.wanted, hg]
  rw [if_pos hw]
  unfold Oper.wp
  simp [execOp, hop, resolve, invoke, builtin, hd, hx, hr, Result.andThen]
  exact hK
theorem step_append_runG {ops : Array Oper} {o : Oper} {a : Act} {w : World} {K : Act → World → Prop} {Q : Exit → Act → World → Prop} {E : Prop}
    (hg : o.guard = none) (d x : Operand) (dT sT : TypeId) (hop : o.op = Op.call { callee := Callee.builtin Builtin.append, args := #[d, x], argTypes := #[dT, sT] })
    (v u : Value) (hd : a.eval d = v) (hx : a.eval x = u) {v' : Value} {w' : World} (hr : (Builtin.append_ #[dT, sT] o.type #[v, u]).run P w = .ok v' w') (hK : K (a.put o.dst v') w') :
    if Region.wanted o (yielded ops a.tmps) = true then Oper.wp P o a w K Q else E := by
  have hw : Region.wanted o (yielded ops a.tmps) = true := by simp [Region.wanted, hg]
  rw [if_pos hw]
  unfold Oper.wp
  simp [execOp, hop, resolve, invoke, builtin, hd, hx, hr, Result.andThen]
  exact hK

section reps
variable {α : Type} {R : α → List Value → Prop} {sz : Nat} {ps qs : List α} {cs ds : List Value}
theorem reps_take (h : Reps R sz ps cs) (i : Nat) (hi : i ≤ ps.length) : Reps R sz (ps.take i) (cs.take (i * sz)) := by
  have hl : i * sz ≤ cs.length := by rw [h.1]; exact Nat.mul_le_mul_right _ hi
  refine ⟨by rw [List.length_take, List.length_take, Nat.min_eq_left hl, Nat.min_eq_left hi], fun j p hj => ?_⟩
  rw [List.getElem?_take] at hj
  split at hj
  · rename_i hji
    have := h.2 j p hj
    rw [List.drop_take, List.take_take]
    have h2 : j * sz + sz ≤ i * sz := by rw [← Nat.succ_mul]; exact Nat.mul_le_mul_right _ hji
    rw [Nat.min_eq_left (by omega)]
    exact this
  · cases hj
theorem reps_drop (h : Reps R sz ps cs) (i : Nat) (hi : i ≤ ps.length) : Reps R sz (ps.drop i) (cs.drop (i * sz)) := by
  refine ⟨by rw [List.length_drop, List.length_drop, h.1, Nat.sub_mul], fun j p hj => ?_⟩
  rw [List.getElem?_drop] at hj
  have := h.2 (i + j) p hj
  rw [List.drop_drop, ← Nat.add_mul]
  exact this
theorem reps_one {p : α} (hp : R p cs) (hc : cs.length = sz) : Reps R sz [p] cs := by
  have := (Reps.none R sz).snoc hp hc
  simpa using this
end reps

theorem ones_of (z : Array Value) (h0 : 0 < z.size) (h : z.toList.all (·.oneCell') = true) (n : Nat) : ∀ v ∈ (Builtin.zeroCells z n).toList, v.oneCell' = true := fun v hv => by
  simp only [Builtin.zeroCells, Array.toList_map, List.mem_map] at hv
  obtain ⟨k, _, rfl⟩ := hv
  have hk : k % z.size < z.size := Nat.mod_lt _ h0
  rw [getElem!_pos z _ hk]
  exact List.all_eq_true.1 h _ (by simp)

/-- 's[m:]', without a case on the capacity. -/
theorem run_cut_on (t e : TypeId) {i : TypeInfo} (ht : P.underlying t = some (.slice e)) (hi : P.info? e = some i) (kl : IntKind) (A : Option Addr) (n c m : Nat) (hm : m ≤ n) :
    ∃ A' : Option Addr, (∀ W : World, (Instr.slice t (.slice A n c) (some (.int kl (m : Int))) none none).run P W = .ok (.slice A' (n - m) (c - m)) W) ∧ (m < c → A' = A.map (·.add (m * i.size))) := by
  refine ⟨if c = m then A else A.map (·.add (m * i.size)), fun W => ?_, fun h => if_neg (by omega)⟩
  have hel : P.elem t = e := by simp [Program.elem, ht]
  have hu : P.underlying t = some (.slice (P.elem t)) := by rw [hel]; exact ht
  rw [run_slice_l W t A n c hu kl (m : Int) (Int.natCast_nonneg _) (by omega), hel]
  simp [sizeOf, typeInfo, hi, sliced, Result.andThen]

theorem run_cut3 (t e : TypeId) {i : TypeInfo} (ht : P.underlying t = some (.slice e)) (hi : P.info? e = some i) (A : Option Addr) (n c a b m : Nat) (h1 : a ≤ b) (h2 : b ≤ m) (h3 : m ≤ c) :
    ∃ v : Value, ∀ W : World, (Instr.slice t (.slice A n c) (some (.int .i64 (a : Int))) (some (.int .i64 (b : Int))) (some (.int .i64 (m : Int)))).run P W = .ok v W := by
  have hel : P.elem t = e := by simp [Program.elem, ht]
  have hu : P.underlying t = some (.slice (P.elem t)) := by rw [hel]; exact ht
  refine ⟨sliced A a b m i.size, fun W => ?_⟩
  rw [run_slice_lhm W t A n c hu .i64 .i64 .i64 (a : Int) (b : Int) (m : Int) (by omega) (by omega) (by omega) (by omega), hel]
  simp [sizeOf, typeInfo, hi, Result.andThen]

/-- 'append(s, x...)' where there is room: in place. -/
theorem run_append_room_sz (w : World) (t e ty : TypeId) (i : TypeInfo) (sz : Nat) (ht : P.underlying t = some (.slice e)) (hi : P.info? e = some i) (hsz : i.size = sz)
    (g n c : Nat) (A : Option Addr) (m mc : Nat) (cur : Array Value) (u : TypeId) (cs : List Value) (hg : w.heap[g]? = some (.cells cur u (0, 0))) (hcl : cs.length = m * sz)
    (hsrc : 0 < m → ∃ a, A = some a ∧ ∀ j v, cs[j]? = some v → w.cell? (a.add j) = some v) (hroom : n + m ≤ c) (hfit : n * sz + cs.length ≤ cur.size) (h1 : ∀ v ∈ cs, v.oneCell' = true) :
    (Builtin.append_ #[t, t] ty #[.slice (some ⟨g, 0, none⟩) n c, .slice A m mc]).run P w =
      .ok (.slice (some ⟨g, 0, none⟩) (n + m) c) (w.setRow g (cur.toList.take (n * sz) ++ cs ++ cur.toList.drop (n * sz + cs.length)).toArray) := by
  subst hsz
  have hst := run_storeCells_at P g (n * i.size) u cs 0 cur w hg (by simpa using hfit) h1
  simp only [Nat.add_zero] at hst
  have hold : (Builtin.firstCells i.size m (.slice A m mc)).run P w = .ok cs.toArray w := by
    rcases Nat.eq_zero_or_pos m with h0 | h0
    · subst h0
      obtain rfl : cs = [] := List.eq_nil_of_length_eq_zero (by rw [hcl]; simp)
      have hl : ∀ (x : Addr), (loadCells x 0).run P w = .ok #[] w := fun x => by simpa using run_loadCells_list (P := P) w x [] (by simp)
      cases A <;> simp [Builtin.firstCells, hl]
    · obtain ⟨a, rfl, h⟩ := hsrc h0
      exact run_firstCells_some w i.size m a m mc cs hcl h
  simp [Builtin.append_, run_underlying ht, sizeOf, typeInfo, hi, Builtin.lenOf, hroom, hold, hst, Addr.add_lit]

/-- A row that the call has written: in place (its block is 'row'), or anew. -/
structure Wrote (P : Program) (e : TypeId) (sz : Nat) (w w' : World) (row : Option Nat) (n : Nat) (inner : List Value) (v : Value) : Prop where
  own : ∃ g cap cur, v = .slice (some ⟨g, 0, none⟩) n cap ∧ (row = some g ∨ w.heap.size ≤ g) ∧ w'.heap[g]? = some (.cells cur e (0, 0)) ∧ n ≤ cap ∧ cap ≤ maxLen ∧ cur.size = cap * sz ∧ cur.toList.take (n * sz) = inner
  len : inner.length = n * sz
  grown : w.grownBy w' row

theorem Wrote.owns {e : TypeId} {sz : Nat} {w w' : World} {row : Option Nat} {n : Nat} {inner : List Value} {v : Value} (h : Wrote P e sz w w' row n inner v) {base : Nat} (hb : base ≤ w.heap.size) (hr : ∀ g, row = some g → base ≤ g) :
    w'.ownsRow base e sz v n inner := by
  obtain ⟨⟨g, cap, cur, rfl, hg, hh, h1, h2, h3, h4⟩, hl, _⟩ := h
  refine ⟨hl, .inr ⟨g, cap, cur, rfl, ?_, hh, h1, h2, h3, h4⟩⟩
  rcases hg with hg | hg
  · exact hr g hg
  · omega

/-- From what was written to the row's fact; for elements that lead nowhere (hM). -/
theorem Wrote.R {α : Type} {d : Kd α} {e : TypeId} {w0 w w' : World} {v0 v : Value} {l0 xs : List α} {inner : List Value} {P0 : Nat → Prop}
    (hB : Below w0.heap.size w0 w) (ho : Kd.R d e w w0.heap.size P0 v0 l0) (h : Wrote P e d.sz w w' v0.ownBlock xs.length inner v)
    (hr : Reps (d.M w' w0.heap.size (fun k => (P0 k ∨ w.heap.size ≤ k) ∧ some k ≠ v.ownBlock)) d.sz xs inner) :
    Kd.R d e w' w0.heap.size (fun k => (P0 k ∨ w.heap.size ≤ k)) v xs ∧ Below w0.heap.size w0 w' ∧ Kept w w' (fun k => P0 k) := by
  have hbs : ∀ g, v0.ownBlock = some g → w0.heap.size ≤ g := fun g hg => by
    obtain ⟨_, inner0, hown, _⟩ := ho
    exact own_base hown g hg
  refine ⟨⟨fun k hk => ?_, inner, h.owns hB.size hbs, hr⟩, hB.grown h.grown hB.size (fun k hk => hbs k hk), Kept.of_grown h.grown (Kept.refl w _) (fun k hk => .inl (ho.1 k hk))⟩
  obtain ⟨⟨g, cap, cur, rfl, hg, _⟩, _, _⟩ := h
  have : g = k := by simpa [Value.ownBlock] using hk
  subst this
  rcases hg with hg | hg
  · exact .inl (ho.1 g hg)
  · exact .inr hg

theorem grown_setRow {w w1 : World} {row : Option Nat} (h : w.grownBy w1 row) (g : Nat) (cs : Array Value) (hg : row = some g ∨ w.heap.size ≤ g) : w.grownBy (w1.setRow g cs) row :=
  ⟨h.os, h.tape, h.output, by rw [setRow_size]; exact h.size, fun k hk hne => by
    rw [setRow_other _ _ _ _ (by rintro rfl; rcases hg with hg | hg; exact hne hg.symm; omega)]
    exact h.block k hk hne⟩
theorem grown_drew {w w1 : World} {row : Option Nat} (h : w.grownBy w1 row) : w.grownBy w1.drew row := ⟨h.os, h.tape, h.output, h.size, h.block⟩
theorem grown_refl (w : World) (row : Option Nat) : w.grownBy w row := ⟨rfl, rfl, rfl, Nat.le_refl _, fun _ _ _ => rfl⟩
theorem grown_alloc {w w1 : World} {row : Option Nat} (h : w.grownBy w1 row) (o : Obj) : w.grownBy (w1.alloc o) row :=
  ⟨h.os, h.tape, h.output, Nat.le_trans h.size (below_alloc (Below.refl _ _) o).size, fun k hk hne => by
    rw [Below.heap_alloc w1 o k (by have := h.size; omega)]
    exact h.block k hk hne⟩
theorem cell_row {w : World} {g : Nat} {cur : Array Value} {t : TypeId} {fz : Nat × Nat} (h : w.heap[g]? = some (.cells cur t fz)) (j : Nat) : w.cell? ⟨g, j, none⟩ = cur[j]? := by
  simp [World.cell?, h]
theorem cell_setRow_empty (w : World) (p : Addr) : (w.setRow p.block #[]).cell? p = none := by
  unfold World.cell? World.setRow
  simp only [Array.getElem?_modify, if_true]
  cases w.heap[p.block]? with
  | none => rfl
  | some o => cases o <;> simp
/-- What is read beside the row that is written lies in another block. -/
theorem apart_of_kept {α : Type} {d : Kd α} {w : World} {S : Nat → Prop} {A : Option Addr} {xs : List α} (hsz : 0 < d.sz) (h : ∀ W', Kept w W' S → d.C W' A xs.length xs) (h0 : 0 < xs.length) :
    ∃ ad, A = some ad ∧ ¬ S ad.block := by
  obtain ⟨_, _, hx⟩ := h w (Kept.refl w S)
  obtain ⟨ad, rfl, _⟩ := hx h0
  refine ⟨ad, rfl, fun hS => ?_⟩
  have hk : Kept w (w.setRow ad.block #[]) S := ⟨by rw [setRow_size]; exact Nat.le_refl _, fun i _ hn => setRow_other _ _ _ _ (by rintro rfl; exact hn hS)⟩
  have h2 := h _ hk
  obtain ⟨_, _, hx2⟩ := h2
  obtain ⟨ad2, e2, hc2⟩ := hx2 h0
  cases e2
  obtain ⟨c, hcl, _, hcc⟩ := hc2 0 xs[0] (List.getElem?_eq_getElem h0)
  have hc0 := hcc 0 (c[0]'(by omega)) (List.getElem?_eq_getElem _)
  rw [show (ad.add (0 * d.sz + 0)) = ad from by simp [Addr.add], cell_setRow_empty] at hc0
  cases hc0
/-- a call by a value that is a known function without captures -/
theorem goesT_ {ops : Array Oper} {Q : Exit → Act → World → Prop} {oi : Oper} {N : Option Tmp} {a : Act} {w : World} {K : Act → World → Prop} {f : FuncId} {fn : Func} {c : Operand} {as : Array Operand} {ts : Array TypeId} (hf : P.funcs[f]? = some fn) (hname : (fn.name == "runtime.NumGoroutine") = false) (hb : fn.body.isSome = true) (args : Array Value)
    (hw : Region.wanted oi (yielded ops a.tmps) = true) (hN : oi.dst = N) (hop : oi.op = .call { callee := .value c, args := as, argTypes := ts }) (hargs : as.map a.eval = args) (hc : a.eval c = .func (.func f) #[] #[])
    (h : Calls P f args w fun e w' => ∃ v, e = .returned v ∧ K (a.put N v) w') : if Region.wanted oi (yielded ops a.tmps) = true then Oper.wp P oi a w K Q else K (a.put N undef) w := by
  refine Go.Proofs.YthhdfefobblmkaaW.PrintLast.call_ f args hw hN ?_ h
  have he := Go.Proofs.YthhdfefobblmkaaW.PrintLast.enters_ hf hname hb args w
  unfold execOp
  simp [hop, resolve, Deferred.ofValue, invoke, hargs, hc, he]
end Go.Proofs.YthhdfefobblmkaaG
