/- How the arguments of a law are opened: what can be read as data is a value of its kind (numbers, bools, strings, slices, structs, arrays, in whatever depth), and its lengths and numbers keep their bounds. -/
import Derived.Test.YthhdfefobblmkaaWKept
import Derived.ProofKit
import Derived.OpenShut
import Derived.ShutString
import Derived.ChangeOld
import Derived.Below
import Derived.SizedLaws
import Derived.DataElems
import Derived.DataShut
namespace Go.Proofs.YthhdfefobblmkaaG
open Go.ChangeShapes Go.WideShapes Go.ChangeAt Go.RowKit Go.Proofs.YthhdfefobblmkaaW.PrintWords
open Go.ChangeMaps (open_string shut_string)
set_option linter.unusedVariables false
variable {P : Program}

def Opens (P : Program) {α : Type} (d : Kd α) (T : TypeId) (B : α → Prop) : Prop :=
  ∀ {H : Type} (enc : TypeId × Value → H) (W : World) (fuel : Nat) (cs : List Value) (r : DataW H × List MemPlace),
    DataW.trod enc P W 0 (fun _ => true) true fuel T cs = some r → (r.1.weights P T).all (· ≤ reachBytes) = true → ∃ x, d.K W x cs ∧ B x

theorem opens_int {T : TypeId} {k : IntKind} (hu : P.underlying T = some (.int k)) : Opens P (Kd.int k) T (fun x => (Lit.int k x).wf = true) := by
  intro H enc W fuel cs r h _
  obtain ⟨n, h1, h2, h3⟩ := DataW.trod_int hu h
  exact ⟨n, h1, h3⟩

theorem opens_bool {T : TypeId} (hu : P.underlying T = some .bool) : Opens P Kd.bool T (fun _ => True) := by
  intro H enc W fuel cs r h _
  obtain ⟨n, h1, h2⟩ := DataW.trod_bool hu h
  exact ⟨n, h1, trivial⟩

theorem opens_slice {α : Type} {d : Kd α} {B : α → Prop} {T e : TypeId} (hu : P.underlying T = some (.slice e)) (hc : P.cellsOf e = d.sz) {by_ : Nat} (hby : P.bytesOf e = by_) (hE : Opens P d e B) :
    Opens P (Kd.slice e d) T (fun xs => xs.length * by_ ≤ 140737488351232 ∧ xs.length ≤ 9223372036854775807 ∧ ∀ x ∈ xs, B x) := by
  intro H enc W fuel cs r h hw
  cases fuel with
  | zero => simp [DataW.trod] at h
  | succ fuel =>
    simp only [DataW.trod, hu] at h
    split at h
    all_goals (first | (simp at h; done) | skip)
    all_goals (rename_i he; simp only [Option.some.injEq, TypeDesc.slice.injEq, reduceCtorEq] at he)
    · simp only [Option.some.injEq] at h
      refine ⟨[], ⟨none, 0, rfl, Nat.le_refl _, rfl, by simp, fun h0 => absurd h0 (by simp)⟩, by simp⟩
    · subst he
      rename_i a len cap
      simp only [hc] at h
      split at h
      rotate_left
      · cases h
      rename_i hbb
      obtain ⟨hb, hlc, hcm⟩ := hbb
      obtain ⟨elems, hel, h⟩ := Option.bind_eq_some_iff.1 h
      obtain ⟨rest, hrest, h⟩ := Option.map_eq_some_iff.1 h
      subst h
      have hlen := mapM_some_length hel
      rw [List.length_range] at hlen
      have hrl : rest.length = cap - len := by
        simp only [if_true] at hrest
        have := mapM_some_length hrest
        rwa [List.length_range] at this
      have hlm : len ≤ maxLen := Nat.le_trans hlc hcm
      simp only [DataW.weights, hu, List.length_map, List.all_cons, List.all_append, Bool.and_eq_true, decide_eq_true_eq, hby] at hw
      obtain ⟨hw0, hw1, _⟩ := hw
      -- the elements, one by one
      have hget : ∀ j, j < len → ∃ x c, c.length = d.sz ∧ d.K W x c ∧ B x ∧ ∀ i u, c[i]? = some u → W.cell? (a.add (j * d.sz + i)) = some u := by
        intro j hj
        have hj2 := mapM_some_get hel j j (by simp [hj])
        have hjl : j < elems.length := by omega
        rw [List.getElem?_eq_getElem hjl] at hj2
        obtain ⟨c, hcc, hr⟩ := Option.bind_eq_some_iff.1 hj2
        obtain ⟨_, hcl, hcell⟩ := World.cells?_some hcc
        have hwj : (elems[j].1.weights P e).all (· ≤ reachBytes) = true := by
          have key : ∀ (l : List (DataW H)) (x : DataW H), x ∈ l → (DataW.weightsAll P e l).all (· ≤ reachBytes) = true → (x.weights P e).all (· ≤ reachBytes) = true := by
            intro l
            induction l with
            | nil => intro x hx; cases hx
            | cons y l ih =>
              intro x hx hl
              simp only [DataW.weightsAll, List.all_append, Bool.and_eq_true] at hl
              rcases List.mem_cons.1 hx with rfl | hx
              · exact hl.1
              · exact ih x hx hl.2
          exact key (elems.map (·.1)) _ (List.mem_map.2 ⟨elems[j], List.getElem_mem hjl, rfl⟩) (by simpa using hw1)
        obtain ⟨x, hx, hB⟩ := hE enc W fuel c _ hr hwj
        refine ⟨x, c, hcl, hx, hB, fun i u hu => ?_⟩
        have hi : i < d.sz := by
          have := (List.getElem?_eq_some_iff.1 hu).1
          omega
        have := hcell i hi
        rw [Addr.add_add] at this
        rw [this, hu]
      obtain ⟨xs, hxl, hxs⟩ : ∃ xs : List α, xs.length = len ∧ ∀ j p, xs[j]? = some p → ∃ c, c.length = d.sz ∧ d.K W p c ∧ B p ∧ ∀ i u, c[i]? = some u → W.cell? (a.add (j * d.sz + i)) = some u := by
        have go : ∀ m, m ≤ len → ∃ xs : List α, xs.length = m ∧ ∀ j p, xs[j]? = some p → ∃ c, c.length = d.sz ∧ d.K W p c ∧ B p ∧ ∀ i u, c[i]? = some u → W.cell? (a.add (j * d.sz + i)) = some u := by
          intro m
          induction m with
          | zero => exact fun _ => ⟨[], rfl, fun j p hj => by simp at hj⟩
          | succ m ih =>
            intro hm
            obtain ⟨xs, hl, hx⟩ := ih (by omega)
            obtain ⟨x, c, h1, h2, h3, h4⟩ := hget m (by omega)
            refine ⟨xs ++ [x], by simp [hl], fun j p hj => ?_⟩
            rcases Nat.lt_or_ge j m with hjm | hjm
            · rw [List.getElem?_append_left (by omega)] at hj
              exact hx j p hj
            · have hjl := (List.getElem?_eq_some_iff.1 hj).1
              rw [List.length_append, List.length_singleton] at hjl
              obtain rfl : j = m := by omega
              rw [List.getElem?_append_right (by omega), hl, Nat.sub_self] at hj
              cases hj
              exact ⟨c, h1, h2, h3, h4⟩
        exact go len (Nat.le_refl _)
      have hl63 : len ≤ 9223372036854775807 := by unfold maxLen at hlm; omega
      refine ⟨xs, ⟨some a, cap, by rw [hxl], by rw [hxl]; exact hlc, rfl, by rw [hxl]; exact hl63, fun _ => ⟨a, rfl, fun j p hj => ?_⟩⟩, ?_, by rw [hxl]; exact hl63, ?_⟩
      · obtain ⟨c, h1, h2, _, h3⟩ := hxs j p hj
        exact ⟨c, h1, h2, h3⟩
      · rw [hxl]
        have : len * by_ ≤ (elems.length + rest.length) * by_ := Nat.mul_le_mul_right _ (by omega)
        exact Nat.le_trans this hw0
      · intro x hx
        obtain ⟨j, hj, rfl⟩ := List.getElem_of_mem hx
        obtain ⟨_, _, _, hB, _⟩ := hxs j _ (List.getElem?_eq_getElem hj)
        exact hB

/-- Fields in line from cell 'off' on. -/
def OpensL (P : Program) {α : Type} (d : Kd α) (off : Nat) (fs : List Field) (B : α → Prop) : Prop :=
  ∀ {H : Type} (enc : TypeId × Value → H) (W : World) (fuel : Nat) (cs : List Value) (rs : List (DataW H × List MemPlace)),
    (fs.mapM fun f => DataW.trod enc P W 0 (fun _ => true) true fuel f.type ((cs.drop f.offset).take (P.cellsOf f.type))) = some rs →
    (DataW.weightsEach P (fs.map (·.type)) (rs.map (·.1))).all (· ≤ reachBytes) = true → ∃ x, d.K W x ((cs.drop off).take d.sz) ∧ B x

theorem opensL_one {α : Type} {d : Kd α} {B : α → Prop} {f : Field} {off : Nat} (ho : f.offset = off) (hc : P.cellsOf f.type = d.sz) (hE : Opens P d f.type B) : OpensL P d off [f] B := by
  intro H enc W fuel cs rs h hw
  have hl := mapM_some_length h
  obtain ⟨r, rfl⟩ : ∃ r, rs = [r] := by
    match rs, hl with
    | [r], _ => exact ⟨r, rfl⟩
  have h0 := mapM_some_get h 0 f rfl
  simp only [List.getElem?_cons_zero] at h0
  simp only [List.map_cons, List.map_nil, DataW.weightsEach, List.append_nil] at hw
  rw [ho, hc] at h0
  exact hE enc W fuel _ r h0 hw

theorem opensL_cons {α β : Type} {d : Kd α} {d' : Kd β} {B : α → Prop} {B' : β → Prop} {f : Field} {fs : List Field} {off : Nat} (ho : f.offset = off) (hc : P.cellsOf f.type = d.sz) (hE : Opens P d f.type B) (hR : OpensL P d' (off + d.sz) fs B') :
    OpensL P (Kd.pair d d') off (f :: fs) (fun x => B x.1 ∧ B' x.2) := by
  intro H enc W fuel cs rs h hw
  have hl := mapM_some_length h
  obtain ⟨r, rs', rfl⟩ : ∃ r rs', rs = r :: rs' := by
    match rs, hl with
    | r :: rs', _ => exact ⟨r, rs', rfl⟩
  have h0 := mapM_some_get h 0 f rfl
  simp only [List.getElem?_cons_zero] at h0
  have hm : (fs.mapM fun f => DataW.trod enc P W 0 (fun _ => true) true fuel f.type ((cs.drop f.offset).take (P.cellsOf f.type))) = some rs' := by
    rw [List.mapM_cons] at h
    obtain ⟨a, ha, h⟩ := Option.bind_eq_some_iff.1 h
    obtain ⟨b, hb, h⟩ := Option.bind_eq_some_iff.1 h
    have := Option.some.inj h
    injection this with _ h2
    rw [hb, h2]
  simp only [List.map_cons, DataW.weightsEach, List.all_append, Bool.and_eq_true] at hw
  rw [ho, hc] at h0
  obtain ⟨x, hx, hBx⟩ := hE enc W fuel _ r h0 hw.1
  obtain ⟨y, hy, hBy⟩ := hR enc W fuel cs rs' hm hw.2
  have hxl := d.K_len hx
  refine ⟨(x, y), ⟨_, _, ?_, hx, hy⟩, hBx, hBy⟩
  show (cs.drop off).take (d.sz + d'.sz) = _
  rw [List.take_add, List.drop_drop]

theorem opens_struct {α β : Type} {d : Kd α} {B : α → Prop} {f : β → α} {g : α → β} {T : TypeId} {fs : Array Field} (hu : P.underlying T = some (.struct fs)) (hc : P.cellsOf T = d.sz) (hfg : ∀ y, f (g y) = y) (hL : OpensL P d 0 fs.toList B) :
    Opens P (Kd.iso d f) T (fun x => B (f x)) := by
  intro H enc W fuel cs r h hw
  cases fuel with
  | zero => simp [DataW.trod] at h
  | succ fuel =>
    simp only [DataW.trod, hu] at h
    split at h
    rotate_left
    · cases h
    rename_i hl
    obtain ⟨rs, hrs, h⟩ := Option.map_eq_some_iff.1 h
    subst h
    simp only [DataW.weights, hu] at hw
    obtain ⟨x, hx, hB⟩ := hL enc W fuel _ rs hrs hw
    rw [List.drop_zero, List.take_of_length_le (by rw [hl, hc]; exact Nat.le_refl _)] at hx
    exact ⟨g x, by show d.K W (f (g x)) _; rw [hfg]; exact hx, by show B (f (g x)); rw [hfg]; exact hB⟩

def fld (t : TypeId) (o : Nat) : Field := { name := "", type := t, offset := o, embedded := false, tag := "", pkgPath := "", byteOffset := 0 }
theorem weights_all_each {H : Type} {e : TypeId} : ∀ (ts : List TypeId) (ds : List (DataW H)), (∀ t ∈ ts, t = e) → (DataW.weightsAll P e ds).all (· ≤ reachBytes) = true → (DataW.weightsEach P ts ds).all (· ≤ reachBytes) = true
  | [], _, _, _ => by simp [DataW.weightsEach]
  | _ :: _, [], _, _ => by simp [DataW.weightsEach]
  | t :: ts, d :: ds, ht, h => by
    simp only [DataW.weightsAll, DataW.weightsEach, List.all_append, Bool.and_eq_true] at h ⊢
    have := ht t List.mem_cons_self
    subst this
    exact ⟨h.1, weights_all_each ts ds (fun x hx => ht x (List.mem_cons_of_mem _ hx)) h.2⟩
theorem opens_array {α β : Type} {d : Kd α} {B : α → Prop} {f : β → α} {g : α → β} {T e : TypeId} {n : Nat} (hu : P.underlying T = some (.array n e)) (hc : P.cellsOf T = d.sz) (hfg : ∀ y, f (g y) = y) (fs : List Field) (hn : fs.length = n)
    (hf : ∀ (i : Nat) (q : Field), fs[i]? = some q → q.type = e ∧ q.offset = i * P.cellsOf e) (hL : OpensL P d 0 fs B) : Opens P (Kd.iso d f) T (fun x => B (f x)) := by
  intro H enc W fuel cs r h hw
  cases fuel with
  | zero => simp [DataW.trod] at h
  | succ fuel =>
    simp only [DataW.trod, hu] at h
    split at h
    rotate_left
    · cases h
    rename_i hl
    obtain ⟨rs, hrs, h⟩ := Option.map_eq_some_iff.1 h
    subst h
    simp only [DataW.weights, hu] at hw
    have hm : (fs.mapM fun q => DataW.trod enc P W 0 (fun _ => true) true fuel q.type ((cs.drop q.offset).take (P.cellsOf q.type))) = some rs := by
      refine mapM_some_of_get _ _ (by have := mapM_some_length hrs; rw [List.length_range] at this; omega) (fun i q hq => ?_)
      obtain ⟨h1, h2⟩ := hf i q hq
      have hi := (List.getElem?_eq_some_iff.1 hq).1
      have h3 := mapM_some_get hrs i i (List.getElem?_range (by omega))
      rw [h1, h2]
      exact h3
    have hw2 : (DataW.weightsEach P (fs.map (·.type)) (rs.map (·.1))).all (· ≤ reachBytes) = true := by
      refine weights_all_each _ _ (fun t ht => ?_) hw
      obtain ⟨q, hq, rfl⟩ := List.mem_map.1 ht
      obtain ⟨i, hi, rfl⟩ := List.getElem_of_mem hq
      exact (hf i _ (List.getElem?_eq_getElem hi)).1
    obtain ⟨x, hx, hB⟩ := hL enc W fuel _ rs hm hw2
    rw [List.drop_zero, List.take_of_length_le (by rw [hl, hc]; exact Nat.le_refl _)] at hx
    exact ⟨g x, by show d.K W (f (g x)) _; rw [hfg]; exact hx, by show B (f (g x)); rw [hfg]; exact hB⟩

theorem Opens.mono {α : Type} {d : Kd α} {T : TypeId} {B B' : α → Prop} (h : Opens P d T B) (hB : ∀ x, B x → B' x) : Opens P d T B' := by
  intro H enc W fuel cs r hr hw
  obtain ⟨x, hx, hb⟩ := h enc W fuel cs r hr hw
  exact ⟨x, hx, hB x hb⟩

/-- An argument that is a struct: its value, its cells. -/
theorem open_arg {α : Type} {d : Kd α} {T : TypeId} {B : α → Prop} (hO : Opens P d T B) {H : Type} {enc : TypeId × Value → H} {W : World} {v : Value} {dd : DataW H} {p : List MemPlace}
    (h : DataW.Trod enc P W 0 (fun _ => true) true T v dd p) (hw : (dd.weights P T).all (· ≤ reachBytes) = true) : ∃ x, d.K W x v.cells.toList ∧ B x := by
  obtain ⟨fuel, hf⟩ := h
  exact hO enc W fuel _ _ hf hw
theorem weights_each {H : Type} {ts : List TypeId} {ds : List (DataW H)} (h : (DataW.weightsEach P ts ds).all (· ≤ reachBytes) = true) {j : Nat} {t : TypeId} {d : DataW H} (ht : ts[j]? = some t) (hd : ds[j]? = some d) : (d.weights P t).all (· ≤ reachBytes) = true := by
  rw [List.all_eq_true] at h ⊢
  intro n hn
  exact h n (DataW.weights_mem_each ht hd n hn)
theorem agg_cells {T : TypeId} {fs : Array Field} {W : World} {base : Nat} {r : Reach} {v : Value} (hu : P.underlying T = some (.struct fs)) (hv : Value.okWide P W r base T v) : ∃ cs : List Value, v = .agg cs.toArray ∧ v.cells.toList = cs := by
  obtain ⟨cs, rfl, _⟩ := okWide_struct hu hv
  exact ⟨cs.toList, by simp, by simp [Value.cells]⟩
theorem slice_cells {T e : TypeId} {W : World} {base : Nat} {r : Reach} {v : Value} (hu : P.underlying T = some (.slice e)) (hv : Value.okWide P W r base T v) : v.cells.toList = [v] := by
  obtain ⟨a, len, cap, rfl⟩ := okWide_slice hu hv
  simp [Value.cells]
end Go.Proofs.YthhdfefobblmkaaG
