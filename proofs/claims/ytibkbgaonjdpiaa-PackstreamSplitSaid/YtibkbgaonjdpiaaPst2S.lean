/- The streaming packer's state over words, and where the open group of all words begins. -/
import Derived.Test.YtibkbgaonjdpiaaPstS
namespace Go.Proofs.Ytibkbgaonjdpiaa.Ps
open Go Go.RowKit Go.Proofs.Ytibkbgaonjdpiaa Go.Proofs.Ytibkbgaonjdpiaa.M Go.Proofs.YtibkbgaonjdpiaaW.PrintWords Go.Proofs.YtibkbgaonjdpiaaW.PrintLast Go.Proofs.YtibkbgaonjdpiaaW.PrintMore
set_option linter.unusedVariables false
set_option linter.unusedSimpArgs false
def grpN (w : Int) (l : List Int) : Nat := if ofS w = 0 then 1 + runP isZ 255 l else if ofS w = 255 then 1 + runP denseS 255 l else 1
def begF : Nat → List Int → Nat
  | 0, _ => 0
  | _ + 1, [] => 0
  | k + 1, w :: l => if grpN w l = l.length + 1 ∧ grpN w l < 256 ∧ (ofS w = 0 ∨ ofS w = 255) then 0 else grpN w l + begF k (l.drop (grpN w l - 1))
def begS (l : List Int) : Nat := begF l.length l
theorem begF_fuel : ∀ (k j : Nat) (l : List Int), l.length ≤ k → l.length ≤ j → begF k l = begF j l := by
  intro k
  induction k with
  | zero =>
    intro j l h1 h2
    have : l = [] := List.length_eq_zero_iff.mp (by omega)
    subst this
    cases j <;> rfl
  | succ k ih =>
    intro j l h1 h2
    cases l with
    | nil => cases j <;> rfl
    | cons w l =>
      cases j with
      | zero => simp at h2
      | succ j =>
        simp only [List.length_cons] at h1 h2
        simp only [begF]
        rw [ih j (l.drop (grpN w l - 1)) (by rw [List.length_drop]; omega) (by rw [List.length_drop]; omega)]
theorem begS_cons (w : Int) (l : List Int) : begS (w :: l) = if grpN w l = l.length + 1 ∧ grpN w l < 256 ∧ (ofS w = 0 ∨ ofS w = 255) then 0 else grpN w l + begS (l.drop (grpN w l - 1)) := by
  show begF (l.length + 1) (w :: l) = _
  simp only [begF]
  unfold begS
  rw [begF_fuel l.length (l.drop (grpN w l - 1)).length (l.drop (grpN w l - 1)) (by rw [List.length_drop]; omega) (Nat.le_refl _)]
theorem stL_len (z : Nat) (r : List Int) : (stL z r).length = z + r.length := by simp [stL]
theorem grp_open {z : Nat} {r t : List Int} (h : Inv 256 z r) (hz : 0 < z → runP isZ (256 - z) t = 0) (hr : 0 < r.length → runP denseS (256 - r.length) t = 0) (h0 : 0 < z + r.length) :
    ∃ x l, stL z r ++ t = x :: l ∧ grpN x l = z + r.length ∧ l.drop (z + r.length - 1) = t ∧ (ofS x = 0 ∨ ofS x = 255) := by
  unfold stL
  cases z with
  | succ z =>
    have hr0 : r = [] := by rcases h.one with e | e; · omega
                            · exact e
    subst hr0
    have h1 := hz (by omega)
    have hzM := h.zM
    refine ⟨0, List.replicate z 0 ++ t, by rw [List.append_nil, List.replicate_succ, List.cons_append], ?_, ?_, Or.inl of0⟩
    · unfold grpN
      rw [of0, if_pos rfl, runP_app isZ _ t 255 (fun x hx => by rw [(List.mem_replicate.mp hx).2]; rfl) (by rw [List.length_replicate]; omega), List.length_replicate, show 255 - z = 256 - (z + 1) by omega, h1]
      simp; omega
    · rw [List.drop_append_of_le_length (by rw [List.length_replicate]; simp), List.drop_of_length_le (by rw [List.length_replicate]; simp), List.nil_append]
  | zero =>
    rw [List.replicate_zero, List.nil_append]
    cases r with
    | nil => simp at h0
    | cons x l =>
      have hf := h.f x l rfl
      have hrM := h.rM
      have h1 := hr (by simp)
      simp only [List.length_cons] at hrM h1
      refine ⟨x, l ++ t, rfl, ?_, ?_, Or.inr hf⟩
      · unfold grpN
        rw [hf, if_neg (by decide), if_pos rfl, runP_app denseS l t 255 (fun y hy => h.d y (List.mem_cons_of_mem _ hy)) (by omega), show 255 - l.length = 256 - (l.length + 1) by omega, h1]
        simp only [List.length_cons]; omega
      · simp only [List.length_cons]
        rw [List.drop_append_of_le_length (by omega), List.drop_of_length_le (by omega), List.nil_append]
theorem beg_open {z : Nat} {r t : List Int} (h : Inv 256 z r) (hz : 0 < z → runP isZ (256 - z) t = 0) (hr : 0 < r.length → runP denseS (256 - r.length) t = 0) (ht : 0 < t.length ∨ z + r.length = 256) :
    begS (stL z r ++ t) = (stL z r).length + begS t := by
  rw [stL_len]
  by_cases h0 : 0 < z + r.length
  · obtain ⟨x, l, e, hg, hd, ho⟩ := grp_open h hz hr h0
    have hl : z + r.length + t.length = l.length + 1 := by have := congrArg List.length e; rw [List.length_append, stL_len, List.length_cons] at this; exact this
    rw [e, begS_cons, hg, hd, if_neg (by omega)]
  · have hz0 : z = 0 := by omega
    have hr0 : r = [] := List.length_eq_zero_iff.mp (by omega)
    subst hz0 hr0
    simp [stL]
theorem beg_all {z : Nat} {r : List Int} (h : Inv 255 z r) : begS (stL z r) = 0 := by
  have h256 : Inv 256 z r := ⟨h.one, by have := h.zM; omega, by have := h.rM; omega, h.d, h.f⟩
  by_cases h0 : 0 < z + r.length
  · obtain ⟨x, l, e, hg, hd, ho⟩ := grp_open (t := []) h256 (fun _ => runP_nil _ _) (fun _ => runP_nil _ _) h0
    rw [List.append_nil] at e
    have hl : z + r.length = l.length + 1 := by have := congrArg List.length e; rw [stL_len, List.length_cons] at this; exact this
    have := h.zM
    have := h.rM
    have := h.one
    rw [e, begS_cons, hg, if_pos ⟨hl, by rcases h.one with e2 | e2; · omega
                                         · rw [e2]; simp; omega, ho⟩]
  · have hz0 : z = 0 := by omega
    have hr0 : r = [] := List.length_eq_zero_iff.mp (by omega)
    subst hz0 hr0
    rfl
theorem word_beg {z : Nat} {r : List Int} (h : Inv 255 z r) {x : Int} (h0 : 0 ≤ x) (h1 : x < 18446744073709551616) (o : List Int) :
    ∃ E : List Int, (∀ t, stL z r ++ x :: t = E ++ (stL (wordW (z, r, o) x).1 (wordW (z, r, o) x).2.1 ++ t)) ∧ (wordW (z, r, o) x).2.2 = o ++ packS E ∧
      (∀ t, begS (stL z r ++ x :: t) = E.length + begS (stL (wordW (z, r, o) x).1 (wordW (z, r, o) x).2.1 ++ t)) ∧
      (∀ t D q, stL (wordW (z, r, o) x).1 (wordW (z, r, o) x).2.1 ++ t = D ++ q → packS (E ++ D) = packS E ++ packS D) := by
  have h256 : Inv 256 z r := ⟨h.one, by have := h.zM; omega, by have := h.rM; omega, h.d, h.f⟩
  have P0 : packS ([] : List Int) = [] := packS_nil
  unfold wordW
  by_cases c1 : 0 < z ∧ x = 0
  · obtain ⟨c1, rfl⟩ := c1
    have ht : takeW (z, r, o) 0 = (z + 1, r, o) := by unfold takeW; rw [if_pos ⟨c1, rfl⟩]
    have hr : r = [] := by rcases h.one with e | e; · omega
                           · exact e
    subst hr
    rw [ht]
    have hst : ∀ t, stL z [] ++ 0 :: t = stL (z + 1) [] ++ t := fun t => by unfold stL; rw [List.append_nil, List.append_nil, List.replicate_succ', List.append_assoc]; rfl
    by_cases c2 : 255 < z + 1 ∨ 255 < ([] : List Int).length
    · have hz : z = 255 := by have := h.zM; simp at c2; omega
      subst hz
      rw [if_pos c2]
      have hI : Inv 256 256 [] := ⟨Or.inr rfl, by decide, by simp, by simp, by simp⟩
      have hp : ∀ t, packS (stL 256 [] ++ t) = openW 256 [] ++ packS t := fun t => pack_open hI (fun _ => by rfl) (fun e => by simp at e)
      have hp0 : packS (stL 256 []) = openW 256 [] := by have := hp []; rw [List.append_nil, P0, List.append_nil] at this; exact this
      refine ⟨stL 256 [], fun t => hst t, by rw [hp0]; rfl, fun t => ?_, fun t D q _ => by rw [hp, hp0]⟩
      rw [hst, beg_open hI (fun _ => by rfl) (fun e => by simp at e) (Or.inr rfl)]
      rfl
    · rw [if_neg c2]
      exact ⟨[], fun t => hst t, by simp [P0], fun t => by rw [hst]; simp, fun t D q _ => by simp [P0]⟩
  · by_cases c2 : 0 < r.length ∧ denseS x = true
    · have ht : takeW (z, r, o) x = (z, r ++ [x], o) := by unfold takeW; rw [if_neg c1, if_pos c2]
      have hz : z = 0 := by rcases h.one with e | e; · exact e
                            · rw [e] at c2; simp at c2
      subst hz
      rw [ht]
      have hst : ∀ t, stL 0 r ++ x :: t = stL 0 (r ++ [x]) ++ t := fun t => by simp [stL]
      have hd : ∀ y ∈ r ++ [x], denseS y = true := fun y hy => by
        rcases List.mem_append.mp hy with e | e
        · exact h.d y e
        · rw [List.mem_singleton.mp e]; exact c2.2
      have hf : ∀ y l, r ++ [x] = y :: l → ofS y = 255 := fun y l e => by
        cases r with
        | nil => simp at c2
        | cons a r => simp only [List.cons_append, List.cons.injEq] at e; rw [← e.1]; exact h.f a r rfl
      have hl : (r ++ [x]).length = r.length + 1 := by simp
      by_cases c3 : 255 < 0 ∨ 255 < (r ++ [x]).length
      · rw [if_pos c3]
        have hrM := h.rM
        have hr : (r ++ [x]).length = 256 := by omega
        have hI : Inv 256 0 (r ++ [x]) := ⟨Or.inl rfl, by omega, by omega, hd, hf⟩
        have hp : ∀ t, packS (stL 0 (r ++ [x]) ++ t) = openW 0 (r ++ [x]) ++ packS t := fun t => pack_open hI (fun e => by omega) (fun _ => by rw [hr]; rfl)
        have hp0 : packS (stL 0 (r ++ [x])) = openW 0 (r ++ [x]) := by have := hp []; rw [List.append_nil, P0, List.append_nil] at this; exact this
        refine ⟨stL 0 (r ++ [x]), fun t => hst t, by rw [hp0]; rfl, fun t => ?_, fun t D q _ => by rw [hp, hp0]⟩
        rw [hst, beg_open hI (fun e => by omega) (fun _ => by rw [hr]; rfl) (Or.inr (by omega))]
        rfl
      · rw [if_neg c3]
        exact ⟨[], fun t => hst t, by simp [P0], fun t => by rw [hst]; simp, fun t D q _ => by simp [P0]⟩
    · have ht : takeW (z, r, o) x = beginW (flushW (z, r, o)) x := by unfold takeW; rw [if_neg c1, if_neg c2]
      obtain ⟨b1, b2⟩ := begin_ok h0 h1 (o ++ openW z r)
      have hfl : flushW (z, r, o) = (0, [], o ++ openW z r) := rfl
      rw [ht, hfl, if_neg (by have := b1.zM; have := b1.rM; omega)]
      have s1 : ∀ t, 0 < z → runP isZ (256 - z) (x :: t) = 0 := fun t e => runP_no _ _ t (by
        unfold isZ
        rw [beq_eq_false_iff_ne]
        exact fun e2 => c1 ⟨e, e2⟩)
      have s2 : ∀ t, 0 < r.length → runP denseS (256 - r.length) (x :: t) = 0 := fun t e => runP_no _ _ t (by
        by_cases hd : denseS x = true
        · exact absurd ⟨e, hd⟩ c2
        · simpa using hd)
      have hb : ∀ t, begS (stL z r ++ x :: t) = (stL z r).length + begS (x :: t) := fun t => beg_open h256 (s1 t) (s2 t) (Or.inl (by simp))
      have hp : ∀ t, packS (stL z r ++ x :: t) = openW z r ++ packS (x :: t) := fun t => pack_open h256 (s1 t) (s2 t)
      have hp0 : packS (stL z r) = openW z r := open_pack h
      have hpD : ∀ D q t : List Int, x :: t = D ++ q → packS (stL z r ++ D) = packS (stL z r) ++ packS D := fun D q t e => by
        cases D with
        | nil => rw [List.append_nil, P0, List.append_nil]
        | cons y D => injection e with e1 e2; rw [← e1, hp, hp0]
      unfold beginW
      by_cases hz : ofS x = 0
      · have := (ofS_zero h0 h1 hz).1
        subst this
        rw [if_pos hz]
        refine ⟨stL z r, fun t => rfl, by rw [hp0], fun t => hb t, fun t D q e => hpD D q t e⟩
      · rw [if_neg hz]
        by_cases hf : ofS x = 255
        · rw [if_pos hf]
          exact ⟨stL z r, fun t => rfl, by rw [hp0], fun t => hb t, fun t D q e => hpD D q t e⟩
        · rw [if_neg hf]
          have hx : ∀ t, packS (x :: t) = ofS x :: (nzS x ++ packS t) := fun t => by rw [packS_cons, if_neg hz, if_neg hf]
          have e0 : ∀ t, stL z r ++ x :: t = (stL z r ++ [x]) ++ t := fun t => by simp
          have hE : packS (stL z r ++ [x]) = openW z r ++ (ofS x :: nzS x) := by rw [hp, hx, P0, List.append_nil]
          refine ⟨stL z r ++ [x], fun t => by rw [e0]; rfl, by rw [hE]; simp, fun t => ?_, fun t D q e => ?_⟩
          · rw [hb, begS_cons, if_neg (fun e => e.2.2.elim (fun e2 => hz e2) (fun e2 => hf e2))]
            have hg : grpN x t = 1 := by unfold grpN; rw [if_neg hz, if_neg hf]
            rw [hg, Nat.sub_self, List.drop_zero, List.length_append]
            simp only [stL, List.replicate_zero, List.nil_append, List.length_cons, List.length_nil]; omega
          · rw [← e0, hp, hE, hx]; simp
theorem run_beg : ∀ (ws : List Int) (z : Nat) (r o : List Int), Inv 255 z r → IsW ws →
    ∃ D : List Int, stL z r ++ ws = D ++ stL (runW ws (z, r, o)).1 (runW ws (z, r, o)).2.1 ∧ (runW ws (z, r, o)).2.2 = o ++ packS D ∧ begS (stL z r ++ ws) = D.length
  | [], z, r, o, h, _ => ⟨[], by simp [runW], by simp [runW, packS_nil], by rw [List.append_nil, beg_all h]; rfl⟩
  | x :: ws, z, r, o, h, hW => by
    have h0 := hW x List.mem_cons_self
    obtain ⟨E, e1, e2, e3, e4⟩ := word_beg h h0.1 h0.2 o
    obtain ⟨w1, _⟩ := word_ok h h0.1 h0.2 o
    have e0 : runW (x :: ws) (z, r, o) = runW ws (wordW (z, r, o) x) := rfl
    rw [e0]
    rcases hs : wordW (z, r, o) x with ⟨z1, r1, o1⟩
    rw [hs] at w1 e1 e2 e3 e4
    obtain ⟨D, d1, d2, d3⟩ := run_beg ws z1 r1 o1 w1 (fun y hy => hW y (List.mem_cons_of_mem _ hy))
    refine ⟨E ++ D, ?_, ?_, ?_⟩
    · rw [e1, List.append_assoc, ← d1]
    · rw [d2, e4 ws D _ d1]
      simp only at e2
      rw [e2, List.append_assoc]
    · rw [e3, List.length_append, ← d3]
end Go.Proofs.Ytibkbgaonjdpiaa.Ps
