/- For every list of places, key and number, the law ShardmapNewer answers true: plain lists and numbers. -/
import Derived.Test.YthflfekhanjlnaaPx22
import Derived.Test.YthflfekhanjlnaaL0
namespace Go.Proofs.Ythflfekhanjlnaa.Pure
open Go.RowKit Go.Proofs.Ythflfekhanjlnaa.P Go.Proofs.YthflfekhanjlnaaW.PrintWords Go.Proofs.YthflfekhanjlnaaG Go.Proofs.Ythflfekhanjlnaa.Plain
set_option linter.unusedSimpArgs false
theorem newer_loop (l : List S30) (hl : l.length ≤ 9223372036854775807) (a : S24) (g : Int) : ∀ (r : List S30) (i : Nat) (m : List S30) (v : Int), l.drop i = r → i ≤ l.length → fineB m = true → ((v ≤ 0) ∨ ∃ x, atL m (kc a) = some x ∧ v ≤ x.f2) → 
    Ev (fun k => rialtolaw20_ShardmapNewer.l0 k l g m v (i : Int) a.f0 a.f1) true := by
  intro r
  induction r with
  | nil =>
    intro i m v h hi hm hv
    obtain rfl := drop_nil h hi
    refine Ev.step (fun k => by simp only [rialtolaw20_ShardmapNewer.l0]; rfl) (Ev.neg (by omega) ?_)
    refine Ev.step (fun k => by simp only [rialtolaw20_ShardmapNewer.j1]; rfl) (Ev.neg (by simp) (Ev.bind live_ev (Ev.now _)))
  | cons p ps ih =>
    intro i m v h hi hm hv
    obtain ⟨hx, hil, hd⟩ := rd_at h
    refine Ev.step (fun k => by simp only [rialtolaw20_ShardmapNewer.l0]; rfl) (Ev.pos (by omega) ?_)
    refine Ev.step (fun k => by simp only [rialtolaw20_ShardmapNewer.j1]; rfl) ?_
    by_cases h60 : (i : Int) < 60
    rotate_left
    · exact Ev.neg (by simpa using h60) (Ev.bind live_ev (Ev.now _))
    refine Ev.pos (by simpa using h60) (Ev.pos (by omega) (Ev.pos (by omega) ?_))
    rw [hx]
    have hlen : (m.length : Int) ≤ 35 := by have := ok_len m 0 hm (by omega); omega
    refine Ev.bind (learn_ev m p (by omega)) ?_
    by_cases hg : goodB p = true
    rotate_left
    · have e : learnS m p = ([], 200) := if_neg (fun h => hg h.2)
      rw [e]
      refine Ev.neg (by simp) ?_
      rw [next i l.length hil hl]
      exact ih (i + 1) m v hd (by omega) hm hv
    have e : learnS m p = (learnL m p, 0) := if_pos ⟨hm, hg⟩
    have hlp := learn_len m p
    have hf1 := learn_fine hm hg
    rw [e]
    refine Ev.pos rfl (Ev.bind (owner_ev (learnL m p) a g (by omega)) ?_)
    have hat := at_learn m 0 p (kc a) hm
    unfold ownerS
    rw [if_pos hf1]
    by_cases h2 : (homeS a g).2 = 0
    rotate_left
    · rw [if_neg h2]
      have h3 : (homeS a g).2 = 1 := by
        revert h2
        unfold homeS
        split <;> simp
      exact Ev.neg h2 (Ev.pos h3 (Ev.bind live_ev (Ev.now _)))
    rw [if_pos h2]
    have hka := home_ok h2
    have hgo : ∀ b w c d e, b = false → ((w ≤ 0) ∨ ∃ x, atL (learnL m p) (kc a) = some x ∧ w ≤ x.f2) → Ev (fun k => rialtolaw20_ShardmapNewer.j2 k l g (learnL m p) (i : Int) b a.f0 a.f1 c d e w) true := fun b w c d e hb hw => by
      subst hb
      refine Ev.step (fun k => by simp only [rialtolaw20_ShardmapNewer.j2]; rfl) (Ev.neg (by simp) ?_)
      rw [next i l.length hil hl]
      exact ih (i + 1) _ w hd (by omega) hf1 hw
    cases h3 : atL (learnL m p) (kc a) with
    | none =>
      simp only
      have hn : atL m (kc a) = none := by
        rw [hat] at h3
        split at h3
        · split at h3
          · split at h3 <;> cases h3
          · cases h3
        · exact h3
      have hv0 : v ≤ 0 := by
        rcases hv with hv | ⟨x, hx, _⟩
        · exact hv
        · rw [hn] at hx; cases hx
      refine Ev.pos (by simp) (Ev.neg (by simp; omega) (hgo _ _ _ _ _ (by simp) (.inl (Int.le_refl _))))
    | some x =>
      simp only
      obtain ⟨hkx, hgx⟩ := at_key _ 0 (kc a) x hf1 h3
      have hxa := kc_inj (good_of hgx).1 hka hkx
      have hvx : v ≤ x.f2 := by
        have hx0 := (good_of hgx).2.2.2.1
        rcases hv with hv | ⟨y, hy, hyv⟩
        · omega
        · rw [hat, hy] at h3
          by_cases q1 : kc a = kc p.f0
          · rw [if_pos q1] at h3
            simp only at h3
            by_cases q2 : y.f2 < p.f2
            · rw [if_pos q2] at h3
              have : p = x := Option.some.inj h3
              subst this; omega
            · rw [if_neg q2] at h3
              have : y = x := Option.some.inj h3
              subst this; exact hyv
          · rw [if_neg q1] at h3
            have : y = x := Option.some.inj h3
            subst this; exact hyv
      refine Ev.pos (by simp) (Ev.neg (by omega) (hgo _ _ _ _ _ (by simp [hxa]) (.inr ⟨x, h3, Int.le_refl _⟩)))
theorem ShardmapNewer : rialtolaw20_ShardmapNewer.Pure := by
  intro x a g hB ha hg
  obtain ⟨_, hl2, _⟩ := hB
  refine Ev.rounds (g := fun k => rialtolaw20_ShardmapNewer.f k x a.f0 a.f1 g) ?_
  unfold rialtolaw20_ShardmapNewer.f
  exact newer_loop x hl2 a g x 0 [] 0 rfl (Nat.zero_le _) rfl (.inl (Int.le_refl _))
end Go.Proofs.Ythflfekhanjlnaa.Pure
