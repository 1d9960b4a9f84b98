/- Shortest over concatenations; no packing is shorter. -/
import Derived.Test.YtnchacmhjbkmhaaDoorSht
namespace Go.Proofs.YtnchacmhjbkmhaaDoor.UnShortest
open Go Go.RowKit Go.Proofs.YtnchacmhjbkmhaaDoor.M Go.Proofs.YtnchacmhjbkmhaaDoor.Un Go.Proofs.YtnchacmhjbkmhaaDoorW.PrintWords Go.Proofs.YtnchacmhjbkmhaaDoorW.PrintLast Go.Proofs.YtnchacmhjbkmhaaDoorW.PrintMore
set_option linter.unusedVariables false
set_option linter.unusedSimpArgs false
set_option maxRecDepth 10000

theorem rd_app {a : List Int} (b : List Int) {j : Nat} (h : j < a.length) : rd (a ++ b) (j : Int) = rd a (j : Int) := by
  simp only [rd, Int.toNat_natCast, List.getD_eq_getElem?_getD]; rw [List.getElem?_append_left h]
theorem rd_app_r (a b : List Int) (j : Nat) : rd (a ++ b) ((a.length + j : Nat) : Int) = rd b (j : Int) := by
  simp only [rd, Int.toNat_natCast, List.getD_eq_getElem?_getD]; rw [List.getElem?_append_right (by omega), Nat.add_sub_cancel_left]
theorem Ch_app {a : List Int} (b : List Int) {size : Int} {m : Nat} (h : Ch a size m) : Ch (a ++ b) size m := by
  obtain ⟨h1, h2, h3, h4⟩ := h
  have r0 : rd (a ++ b) ((0 : Nat) : Int) = rd a ((0 : Nat) : Int) := rd_app b (by omega)
  rw [show ((0 : Nat) : Int) = 0 from rfl] at r0
  refine ⟨h1, by rw [List.length_append]; omega, h3, ?_⟩
  rcases h4 with h4 | ⟨e, hz⟩ | h4
  · rw [r0]; exact .inl h4
  · exact .inr (.inl ⟨e, fun j hj => by rw [rd_app b (by omega)]; exact hz j hj⟩)
  · exact .inr (.inr h4)
theorem Ch_left {a b : List Int} {size : Int} {m : Nat} (h : Ch (a ++ b) size m) (hm : m ≤ a.length) : Ch a size m := by
  obtain ⟨h1, h2, h3, h4⟩ := h
  have r0 : rd (a ++ b) ((0 : Nat) : Int) = rd a ((0 : Nat) : Int) := rd_app b (by omega)
  rw [show ((0 : Nat) : Int) = 0 from rfl] at r0
  refine ⟨h1, hm, h3, ?_⟩
  rw [r0] at h4
  rcases h4 with h4 | ⟨e, hz⟩ | h4
  · exact .inl h4
  · exact .inr (.inl ⟨e, fun j hj => by rw [← rd_app b (by omega)]; exact hz j hj⟩)
  · exact .inr (.inr h4)
theorem Dv_append_le : ∀ (n : Nat) (a b : List Int), a.length ≤ n → (a ++ b).length ≤ 1000000 → Dv (a ++ b) ≤ Dv a + Dv b := by
  intro n
  induction n with
  | zero =>
    intro a b hn hl
    obtain rfl : a = [] := List.length_eq_zero_iff.mp (by omega)
    rw [List.nil_append, Dv_nil]; omega
  | succ n ih =>
    intro a b hn hl
    rw [List.length_append] at hl
    by_cases h0 : 0 < a.length
    · obtain ⟨size, m, hc, e⟩ := Dv_B (by omega) h0
      have h1 := Dv_A (by rw [List.length_append]; omega) (Ch_app b hc)
      have hm := hc.2.1
      have hm1 := hc.1
      rw [List.drop_append_of_le_length hm] at h1
      have h2 := ih (a.drop m) b (by rw [List.length_drop]; omega) (by rw [List.length_append, List.length_drop]; omega)
      omega
    · obtain rfl : a = [] := List.length_eq_zero_iff.mp (by omega)
      rw [List.nil_append, Dv_nil]; omega
theorem Dv_left : ∀ (n : Nat) (a b : List Int), a.length ≤ n → (a ++ b).length ≤ 1000000 → Dv a ≤ Dv (a ++ b) := by
  intro n
  induction n with
  | zero =>
    intro a b hn hl
    obtain rfl : a = [] := List.length_eq_zero_iff.mp (by omega)
    rw [List.nil_append, Dv_nil]; exact Dv_0 (by simpa using hl)
  | succ n ih =>
    intro a b hn hl
    have hl2 := hl
    rw [List.length_append] at hl2
    by_cases h0 : 0 < a.length
    · obtain ⟨size, m, hc, e⟩ := Dv_B hl (by rw [List.length_append]; omega)
      have hs := Ch_size hc
      by_cases hm : m ≤ a.length
      · have hm1 := hc.1
        have h1 := Dv_A (by omega) (Ch_left hc hm)
        rw [List.drop_append_of_le_length hm] at e
        have h2 := ih (a.drop m) b (by rw [List.length_drop]; omega) (by rw [List.length_append, List.length_drop]; omega)
        omega
      · have hr := Dv_0 (ws := (a ++ b).drop m) (by rw [List.length_drop]; omega)
        obtain ⟨c1, c2, c3, c4⟩ := hc
        rcases c4 with ⟨c4, _⟩ | ⟨c4, hz⟩ | c4
        · omega
        · have h1 := Dv_A (ws := a) (by omega) (size := 2) (m := a.length) ⟨by omega, Nat.le_refl _, by omega, .inr (.inl ⟨rfl, fun j hj => by rw [← rd_app b hj]; exact hz j (by omega)⟩)⟩
          rw [List.drop_length, Dv_nil] at h1
          omega
        · have h1 := Dv_A (ws := a) (by omega) (size := 2 + 8 * (a.length : Int)) (m := a.length) ⟨by omega, Nat.le_refl _, by omega, .inr (.inr rfl)⟩
          rw [List.drop_length, Dv_nil] at h1
          omega
    · obtain rfl : a = [] := List.length_eq_zero_iff.mp (by omega)
      rw [List.nil_append, Dv_nil]; exact Dv_0 (by simpa using hl)
theorem Dv_right : ∀ (n : Nat) (a b : List Int), a.length ≤ n → (a ++ b).length ≤ 1000000 → Dv b ≤ Dv (a ++ b) := by
  intro n
  induction n with
  | zero =>
    intro a b hn hl
    obtain rfl : a = [] := List.length_eq_zero_iff.mp (by omega)
    exact Int.le_refl _
  | succ n ih =>
    intro a b hn hl
    have hl2 := hl
    rw [List.length_append] at hl2
    by_cases h0 : 0 < a.length
    · obtain ⟨size, m, hc, e⟩ := Dv_B hl (by rw [List.length_append]; omega)
      have hs := Ch_size hc
      have hm1 := hc.1
      have hm2 := hc.2.1
      rw [List.length_append] at hm2
      by_cases hm : m ≤ a.length
      · rw [List.drop_append_of_le_length hm] at e
        have h2 := ih (a.drop m) b (by rw [List.length_drop]; omega) (by rw [List.length_append, List.length_drop]; omega)
        omega
      · have ed : (a ++ b).drop m = b.drop (m - a.length) := by rw [List.drop_append, List.drop_of_length_le (by omega), List.nil_append]
        rw [ed] at e
        obtain ⟨c1, c2, c3, c4⟩ := hc
        rcases c4 with ⟨c4, _⟩ | ⟨c4, hz⟩ | c4
        · omega
        · have h1 := Dv_A (ws := b) (by omega) (size := 2) (m := m - a.length) ⟨by omega, by omega, by omega, .inr (.inl ⟨rfl, fun j hj => by rw [← rd_app_r a b j]; exact hz _ (by omega)⟩)⟩
          omega
        · have h1 := Dv_A (ws := b) (by omega) (size := 2 + 8 * ((m - a.length : Nat) : Int)) (m := m - a.length) ⟨by omega, by omega, by omega, .inr (.inr rfl)⟩
          omega
    · obtain rfl : a = [] := List.length_eq_zero_iff.mp (by omega)
      exact Int.le_refl _
theorem nz_expF (n : Nat) : ∀ (t : Int) (b : List Int), 0 ≤ t → (nz (expF n t b)).length ≤ onesF n t := by
  induction n with
  | zero => intro t b h; simp [expF, nz, onesF]
  | succ n ih =>
    intro t b h
    rw [expF, onesF]
    by_cases q : t % 2 = 1
    · rw [if_pos q, nz_cons]
      have := ih (t / 2) b.tail (by omega)
      split
      · omega
      · rw [List.length_cons]; omega
    · rw [if_neg q, nz_cons, if_pos rfl]
      have := ih (t / 2) b (by omega)
      omega
theorem ones_exp {t : Int} {b : List Int} (hB : IsB b) (h : 0 ≤ t) : onesS (ofS (expS t b)) ≤ onesS t := by
  rw [ones_ofS]
  unfold nzS
  rw [bs_expS hB]
  exact nz_expF 8 t b h
theorem ones_pos : ∀ n : Fin 256, n.val ≠ 0 → 0 < onesS ((n.val : Nat) : Int) := by decide +kernel
/-- A group that stands whole is one of the choices, or longer than one. -/
theorem grp_Ch {p R : List Int} {tt nn : Nat} {W : List Int} (hB : IsB p) (h0 : 0 < p.length) (hg : grpS p = (rd p 0, 0, (tt : Int), 0, (nn : Int), true)) (h2 : tt ≤ p.length) (h3 : 1 ≤ nn) (h4 : nn ≤ 256) (h5 : W.length = nn) (h6 : decS (p.take tt) = (W, false)) : ∃ size : Int, size ≤ (tt : Int) ∧ Ch (W ++ R) size nn := by
  have hlen : nn ≤ (W ++ R).length := by rw [List.length_append]; omega
  cases p with
  | nil => simp at h0
  | cons t q =>
    have ht := hB t List.mem_cons_self
    by_cases t0 : t = 0
    · subst t0
      cases q with
      | nil => simp [grpS, rdc0] at hg
      | cons c r =>
        have hc := hB c (List.mem_cons_of_mem _ List.mem_cons_self)
        have e : tt = 2 := by
          unfold grpS at hg
          rw [if_pos (show rd (0 :: c :: r) 0 = 0 from rfl), if_neg (show ¬ (0 :: c :: r).length < 2 by simp)] at hg
          simp only [Prod.mk.injEq] at hg
          omega
        subst e
        have h6' : decS (0 :: c :: []) = (W, false) := h6
        rw [decS_zero, decS_nil, List.append_nil] at h6'
        have hW : W = List.replicate (c.toNat + 1) 0 := (Prod.mk.inj h6').1.symm
        refine ⟨2, Int.le_refl _, h3, hlen, h4, .inr (.inl ⟨rfl, fun j hj => ?_⟩)⟩
        rw [rd_app R (by omega), hW]
        simp only [rd, Int.toNat_natCast, List.getD_eq_getElem?_getD, List.getElem?_replicate]
        split <;> rfl
    · by_cases t1 : t = 255
      · subst t1
        unfold grpS at hg
        rw [if_neg (show ¬ rd (255 :: q) 0 = 0 from t0), if_pos (show rd (255 :: q) 0 = 255 from rfl)] at hg
        by_cases hs : (255 :: q).length < 10
        · rw [if_pos hs] at hg; simp at hg
        · rw [if_neg hs] at hg
          simp only [Prod.mk.injEq] at hg
          refine ⟨2 + 8 * (nn : Int), by omega, h3, hlen, h4, .inr (.inr rfl)⟩
      · unfold grpS at hg
        rw [if_neg (show ¬ rd (t :: q) 0 = 0 from t0), if_neg (show ¬ rd (t :: q) 0 = 255 from t1)] at hg
        by_cases hs : 1 + onesS (rd (t :: q) 0) ≤ (t :: q).length
        · rw [if_pos hs] at hg
          simp only [Prod.mk.injEq, rdc0] at hg
          rw [rdc0, List.length_cons] at hs
          have e1 : tt = 1 + onesS t := by omega
          have e2 : nn = 1 := by omega
          subst e1
          have eT : (t :: q).take (1 + onesS t) = t :: q.take (onesS t) := by rw [Nat.add_comm, List.take_succ_cons]
          have hq : IsB (q.take (onesS t)) := fun x hx => hB x (List.mem_cons_of_mem _ (List.mem_of_mem_take hx))
          rw [eT, decS_tag t0 t1 (by rw [List.length_take]; omega), List.drop_of_length_le (by rw [List.length_take]; omega), decS_nil] at h6
          have hW : W = [expS t (q.take (onesS t))] := (Prod.mk.inj h6).1.symm
          have r0 : rd (W ++ R) 0 = expS t (q.take (onesS t)) := by rw [hW]; rfl
          have ho := ones_exp (t := t) hq ht.1
          have hp := ones_pos ⟨t.toNat, by omega⟩ (by simp only []; omega)
          simp only [Int.toNat_of_nonneg ht.1] at hp
          have h8 : onesS t < 8 := by
            have hle := onesS_le t
            rcases Nat.lt_or_ge (onesS t) 8 with h | h
            · exact h
            · have := onesS_lt ⟨t.toNat, by omega⟩ (by simp only [Int.toNat_of_nonneg ht.1]; omega)
              simp only [] at this
              omega
          refine ⟨1 + (onesS t : Int), by omega, h3, hlen, h4, .inl ⟨e2, onesS t - onesS (ofS (rd (W ++ R) 0)), ?_, ?_, ?_⟩⟩
          all_goals (rw [r0]; omega)
        · rw [if_neg hs] at hg; simp at hg
theorem Dv_pack : ∀ (n : Nat) (p ws : List Int), p.length ≤ n → IsB p → decS p = (ws, false) → ws.length ≤ 1000000 → Dv ws ≤ (p.length : Int) := by
  intro n
  induction n with
  | zero =>
    intro p ws hn hB hd hw
    obtain rfl : p = [] := List.length_eq_zero_iff.mp (by omega)
    rw [decS_nil] at hd
    obtain rfl : [] = ws := (Prod.mk.inj hd).1
    exact Int.le_refl _
  | succ n ih =>
    intro p ws hn hB hd hw
    by_cases h0 : 0 < p.length
    · rcases grp_case hB h0 with ⟨tt, nn, W, e1, e2, e3, e4, e5, e6, e7, e8⟩ | ⟨_, e2⟩
      · rw [hd] at e8
        obtain ⟨s1, s2⟩ := Prod.mk.inj e8
        have hdd : decS (p.drop tt) = ((decS (p.drop tt)).1, false) := by rw [s2]
        have hlw : ws.length = nn + (decS (p.drop tt)).1.length := by rw [s1, List.length_append, e6]
        obtain ⟨size, hs, hc⟩ := grp_Ch (R := (decS (p.drop tt)).1) hB h0 e1 e3 e4 e5 e6 e7
        rw [← s1] at hc
        have h1 := Dv_A hw hc
        have e9 : ws.drop nn = (decS (p.drop tt)).1 := by rw [s1, ← e6, List.drop_left]
        rw [e9] at h1
        have h2 := ih (p.drop tt) _ (by rw [List.length_drop]; omega) (hB.drop _) hdd (by omega)
        rw [List.length_drop] at h2
        omega
      · rw [hd] at e2; exact absurd e2 (by simp)
    · obtain rfl : p = [] := List.length_eq_zero_iff.mp (by omega)
      rw [decS_nil] at hd
      obtain rfl : [] = ws := (Prod.mk.inj hd).1
      exact Int.le_refl _
end Go.Proofs.YtnchacmhjbkmhaaDoor.UnShortest
