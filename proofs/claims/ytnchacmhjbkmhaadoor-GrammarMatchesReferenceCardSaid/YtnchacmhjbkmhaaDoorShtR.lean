/- Shortest: the least length of a packing, and what follows of it. -/
import Derived.Test.YtnchacmhjbkmhaaDoorGram6SR
import Derived.Test.YtnchacmhjbkmhaaDoorGrp2R
namespace Go.Proofs.YtnchacmhjbkmhaaDoor.UnShortest
open Go Go.RowKit Go.Proofs.YtnchacmhjbkmhaaDoor.M Go.Proofs.YtnchacmhjbkmhaaDoor.Un Go.Proofs.YtnchacmhjbkmhaaDoorW.PrintWords Go.Proofs.YtnchacmhjbkmhaaDoorW.PrintLast Go.Proofs.YtnchacmhjbkmhaaDoorW.PrintMore
set_option linter.unusedVariables false
set_option linter.unusedSimpArgs false
set_option maxRecDepth 10000
theorem fold_min (c : Int × Nat × Int → Int) (f : Int → (Int × Nat × Int) → Int) : ∀ (vs : List (Int × Nat × Int)) (a : Int), 0 < a → (∀ v ∈ vs, 0 < c v ∧ ∀ a, f a v = if a = 0 ∨ c v < a then c v else a) →
    0 < vs.foldl f a ∧ vs.foldl f a ≤ a ∧ (∀ v ∈ vs, vs.foldl f a ≤ c v) ∧ (vs.foldl f a = a ∨ ∃ v ∈ vs, vs.foldl f a = c v)
  | [], a, h, _ => ⟨h, Int.le_refl _, fun v hv => by simp at hv, .inl rfl⟩
  | v :: vs, a, h, hc => by
    obtain ⟨c0, c1⟩ := hc v List.mem_cons_self
    have hn : 0 < f a v ∧ f a v ≤ a ∧ f a v ≤ c v ∧ (f a v = a ∨ f a v = c v) := by
      rw [c1 a]
      by_cases q : c v < a
      · rw [if_pos (.inr q)]; exact ⟨c0, Int.le_of_lt q, Int.le_refl _, .inr rfl⟩
      · rw [if_neg (by rintro (x | x) <;> omega)]; exact ⟨h, Int.le_refl _, by omega, .inl rfl⟩
    obtain ⟨i1, i2, i3, i4⟩ := fold_min c f vs (f a v) hn.1 (fun x hx => hc x (List.mem_cons_of_mem _ hx))
    rw [List.foldl_cons]
    refine ⟨i1, by omega, fun x hx => ?_, ?_⟩
    · rcases List.mem_cons.mp hx with rfl | hx
      · omega
      · exact i3 x hx
    · rcases i4 with i4 | ⟨x, hx, i4⟩
      · rcases hn.2.2.2 with e | e
        · exact .inl (by omega)
        · exact .inr ⟨v, List.mem_cons_self, by omega⟩
      · exact .inr ⟨x, List.mem_cons_of_mem _ hx, i4⟩
theorem fold_min0 (c : Int × Nat × Int → Int) (f : Int → (Int × Nat × Int) → Int) {vs : List (Int × Nat × Int)} (hne : vs ≠ []) (hc : ∀ v ∈ vs, 0 < c v ∧ ∀ a, f a v = if a = 0 ∨ c v < a then c v else a) :
    (∀ v ∈ vs, vs.foldl f 0 ≤ c v) ∧ (∃ v ∈ vs, vs.foldl f 0 = c v) := by
  cases vs with
  | nil => exact absurd rfl hne
  | cons v vs =>
    obtain ⟨c0, c1⟩ := hc v List.mem_cons_self
    have e : f 0 v = c v := by rw [c1 0, if_pos (.inl rfl)]
    obtain ⟨i1, i2, i3, i4⟩ := fold_min c f vs (c v) c0 (fun x hx => hc x (List.mem_cons_of_mem _ hx))
    rw [List.foldl_cons, e]
    refine ⟨fun x hx => ?_, ?_⟩
    · rcases List.mem_cons.mp hx with rfl | hx
      · exact i2
      · exact i3 x hx
    · rcases i4 with i4 | ⟨x, hx, i4⟩
      · exact ⟨v, List.mem_cons_self, i4⟩
      · exact ⟨x, List.mem_cons_of_mem _ hx, i4⟩
theorem vis1_size (on : Nat) (h : on ≤ 8) : ∀ (k i : Nat) (m : Int), i + k = 8 - on → ∀ v ∈ vis1 on k i m, ∃ j : Nat, i ≤ j ∧ j < 8 - on ∧ 0 < on + j ∧ v.1 = 1 + (on : Int) + (j : Int)
  | 0, _, _, _, v, hv => by simp [vis1] at hv
  | k + 1, i, m, hk, v, hv => by
    rw [vis1] at hv
    split at hv
    · rename_i q
      rcases List.mem_cons.mp hv with rfl | hv
      · exact ⟨i, Nat.le_refl _, by omega, q, rfl⟩
      · obtain ⟨j, h1, h2, h3, h4⟩ := vis1_size on h k (i + 1) _ (by omega) v hv
        exact ⟨j, by omega, h2, h3, h4⟩
    · obtain ⟨j, h1, h2, h3, h4⟩ := vis1_size on h k (i + 1) _ (by omega) v hv
      exact ⟨j, by omega, h2, h3, h4⟩
theorem vis1_has (on : Nat) : ∀ (k i j : Nat) (m : Int), i ≤ j → j < i + k → 0 < on + j → ∃ m', (1 + (on : Int) + (j : Int), 1, m') ∈ vis1 on k i m
  | 0, i, j, m, h1, h2, _ => by omega
  | k + 1, i, j, m, h1, h2, h3 => by
    rw [vis1]
    by_cases e : i = j
    · subst e; rw [if_pos h3]; exact ⟨m, List.mem_cons_self⟩
    · obtain ⟨m', hm⟩ := vis1_has on k (i + 1) j (nextC on i m) (by omega) (by omega) h3
      refine ⟨m', ?_⟩
      split
      · exact List.mem_cons_of_mem _ hm
      · exact hm
theorem vis2_spec (ws : List Int) : ∀ (k n : Nat), 1 ≤ n → ∀ v ∈ vis2 ws k n, v.1 = 2 ∧ ∀ j, n ≤ j + 1 → j < v.2.1 → rd ws (j : Int) = 0
  | 0, _, _, v, hv => by simp [vis2] at hv
  | k + 1, n, hn, v, hv => by
    rw [vis2] at hv
    split at hv
    · rename_i q
      rw [show (n : Int) - 1 = ((n - 1 : Nat) : Int) by omega] at q
      rcases List.mem_cons.mp hv with rfl | hv
      · refine ⟨rfl, fun j h1 h2 => ?_⟩
        simp only [] at h2
        rw [show j = n - 1 by omega]; exact q
      · obtain ⟨e, h⟩ := vis2_spec ws k (n + 1) (by omega) v hv
        refine ⟨e, fun j h1 h2 => ?_⟩
        by_cases ej : j = n - 1
        · rw [ej]; exact q
        · exact h j (by omega) h2
    · simp at hv
theorem vis2_has (ws : List Int) : ∀ (k n m : Nat), 1 ≤ n → n ≤ m → m < n + k → (∀ j, n ≤ j + 1 → j < m → rd ws (j : Int) = 0) → (2, m, 1) ∈ vis2 ws k n
  | 0, n, m, _, _, _, _ => by omega
  | k + 1, n, m, hn, h1, h2, h3 => by
    have q := h3 (n - 1) (by omega) (by omega)
    rw [vis2, show (n : Int) - 1 = ((n - 1 : Nat) : Int) by omega, if_pos q]
    by_cases e : n = m
    · subst e; exact List.mem_cons_self
    · exact List.mem_cons_of_mem _ (vis2_has ws k (n + 1) m (by omega) (by omega) (by omega) (fun j a b => h3 j (by omega) b))
theorem vis3_has : ∀ (k n m : Nat), n ≤ m → m < n + k → (2 + 8 * (m : Int), m, 1) ∈ vis3 k n
  | 0, n, m, _, _ => by omega
  | k + 1, n, m, h1, h2 => by
    rw [vis3]
    by_cases e : n = m
    · subst e; exact List.mem_cons_self
    · exact List.mem_cons_of_mem _ (vis3_has k (n + 1) m (by omega) (by omega))
def Ch (ws : List Int) (size : Int) (n : Nat) : Prop :=
  1 ≤ n ∧ n ≤ ws.length ∧ n ≤ 256 ∧ ((n = 1 ∧ ∃ j : Nat, j < 8 - onesS (ofS (rd ws 0)) ∧ 0 < onesS (ofS (rd ws 0)) + j ∧ size = 1 + (onesS (ofS (rd ws 0)) : Int) + (j : Int)) ∨ (size = 2 ∧ ∀ j : Nat, j < n → rd ws (j : Int) = 0) ∨ size = 2 + 8 * (n : Int))
theorem vis_Ch {ws : List Int} (h0 : 0 < ws.length) : ∀ v ∈ vis ws, Ch ws v.1 v.2.1 := by
  intro v hv
  have ho := onesS_le (ofS (rd ws 0))
  have hp := vis_pos h0 v hv
  rcases List.mem_append.mp hv with h | h
  · have e := vis1_pos _ _ _ _ v h
    obtain ⟨j, h1, h2, h3, h4⟩ := vis1_size _ ho _ 0 1 (by omega) v h
    exact ⟨hp.1, hp.2, by omega, .inl ⟨e, j, h2, h3, h4⟩⟩
  · rcases List.mem_append.mp h with h | h
    · have q := vis2_pos ws _ _ v h
      obtain ⟨e, h1⟩ := vis2_spec ws _ 1 (by omega) v h
      exact ⟨hp.1, hp.2, by omega, .inr (.inl ⟨e, fun j hj => h1 j (by omega) hj⟩)⟩
    · have q := vis3_pos _ _ v h
      exact ⟨hp.1, hp.2, by omega, .inr (.inr q.2.2)⟩
theorem Ch_vis {ws : List Int} {size : Int} {n : Nat} (h : Ch ws size n) : ∃ m, (size, n, m) ∈ vis ws := by
  obtain ⟨h1, h2, h3, h4 | h4 | h4⟩ := h
  · obtain ⟨rfl, j, hj, hj2, rfl⟩ := h4
    obtain ⟨m, hm⟩ := vis1_has (onesS (ofS (rd ws 0))) (8 - onesS (ofS (rd ws 0))) 0 j 1 (by omega) (by omega) hj2
    exact ⟨m, List.mem_append_left _ hm⟩
  · obtain ⟨rfl, hz⟩ := h4
    exact ⟨1, List.mem_append_right _ (List.mem_append_left _ (vis2_has ws _ 1 n (by omega) h1 (by omega) (fun j _ hj => hz j hj)))⟩
  · subst h4
    exact ⟨1, List.mem_append_right _ (List.mem_append_right _ (vis3_has _ 1 n h1 (by omega)))⟩
theorem Ch_one {ws : List Int} (h : 0 < ws.length) : Ch ws 10 1 := ⟨by omega, by omega, by omega, .inr (.inr (by omega))⟩
theorem Ch_size {ws : List Int} {size : Int} {n : Nat} (h : Ch ws size n) : 2 ≤ size ∧ size ≤ 2 + 8 * 256 := by
  obtain ⟨h1, h2, h3, ⟨_, j, hj, hj2, h4⟩ | ⟨h4, _⟩ | h4⟩ := h <;> omega
theorem Dv_spec : ∀ (n : Nat) (ws : List Int), ws.length ≤ n → ws.length ≤ 1000000 → 0 ≤ Dv ws ∧ Dv ws ≤ 10 * (ws.length : Int) ∧
    (∀ size m, Ch ws size m → Dv ws ≤ size + Dv (ws.drop m)) ∧ (0 < ws.length → ∃ size m, Ch ws size m ∧ Dv ws = size + Dv (ws.drop m)) := by
  intro n
  induction n with
  | zero =>
    intro ws hn hl
    obtain rfl : ws = [] := List.length_eq_zero_iff.mp (by omega)
    exact ⟨Int.le_refl _, by rw [Dv_nil]; simp, fun size m h => by have h1 := h.1; have h2 := h.2.1; simp only [List.length_nil] at h2; omega, fun h => by simp at h⟩
  | succ n ih =>
    intro ws hn hl
    by_cases h0 : 0 < ws.length
    · have hrec : ∀ v ∈ vis ws, 0 ≤ Dv (ws.drop v.2.1) ∧ Dv (ws.drop v.2.1) ≤ 10 * (ws.length : Int) := by
        intro v hv
        have hp := vis_pos h0 v hv
        have := ih (ws.drop v.2.1) (by rw [List.length_drop]; omega) (by rw [List.length_drop]; omega)
        rw [List.length_drop] at this
        omega
      have hne : vis ws ≠ [] := by
        obtain ⟨m, hm⟩ := Ch_vis (Ch_one h0)
        intro e; rw [e] at hm; simp at hm
      have hf := fold_min0 (fun v => v.1 + Dv (ws.drop v.2.1)) (fun a v => stv a (Dv (ws.drop v.2.1)) v.1 v.2.2) hne (fun v hv => by
        have hs := Ch_size (vis_Ch h0 v hv)
        have hr := hrec v hv
        refine ⟨by omega, fun a => ?_⟩
        unfold stv
        rw [w64 (by omega) (by omega)])
      rw [← Dv_eq h0] at hf
      obtain ⟨f1, v, hv, f2⟩ := hf
      have hA : ∀ size m, Ch ws size m → Dv ws ≤ size + Dv (ws.drop m) := fun size m h => by
        obtain ⟨q, hq⟩ := Ch_vis h
        exact f1 _ hq
      have hc := vis_Ch h0 v hv
      have hs := Ch_size hc
      have hr := hrec v hv
      have h1 := hA 10 1 (Ch_one h0)
      have h2 := ih (ws.drop 1) (by rw [List.length_drop]; omega) (by rw [List.length_drop]; omega)
      rw [List.length_drop] at h2
      exact ⟨by omega, by omega, hA, fun _ => ⟨v.1, v.2.1, hc, f2⟩⟩
    · exact ih ws (by omega) hl
theorem Dv_A {ws : List Int} (hl : ws.length ≤ 1000000) {size : Int} {m : Nat} (h : Ch ws size m) : Dv ws ≤ size + Dv (ws.drop m) := (Dv_spec _ ws (Nat.le_refl _) hl).2.2.1 _ _ h
theorem Dv_B {ws : List Int} (hl : ws.length ≤ 1000000) (h : 0 < ws.length) : ∃ size m, Ch ws size m ∧ Dv ws = size + Dv (ws.drop m) := (Dv_spec _ ws (Nat.le_refl _) hl).2.2.2 h
theorem Dv_0 {ws : List Int} (hl : ws.length ≤ 1000000) : 0 ≤ Dv ws := (Dv_spec _ ws (Nat.le_refl _) hl).1
end Go.Proofs.YtnchacmhjbkmhaaDoor.UnShortest
