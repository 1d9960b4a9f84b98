/- The packed encoding as plain lists: packing words, decoding bytes, and that decoding a packed form gives the words back; no program in sight. -/
import Derived.Test.YtibkbgaonjdpiaaM4S
namespace Go.Proofs.Ytibkbgaonjdpiaa.M
open Go Go.RowKit Go.Proofs.YtibkbgaonjdpiaaW.PrintWords Go.Proofs.YtibkbgaonjdpiaaW.PrintLast Go.Proofs.YtibkbgaonjdpiaaW.PrintMore
set_option linter.unusedVariables false
set_option linter.unusedSimpArgs false
def runP (p : Int → Bool) : Nat → List Int → Nat
  | 0, _ => 0
  | _ + 1, [] => 0
  | n + 1, x :: l => if p x = true then runP p n l + 1 else 0
def denseS (w : Int) : Bool := decide (7 ≤ (nzS w).length)
def isZ (w : Int) : Bool := w == 0
def packF : Nat → List Int → List Int
  | 0, _ => []
  | _ + 1, [] => []
  | k + 1, w :: l =>
    if ofS w = 0 then ofS w :: (nzS w ++ ((runP isZ 255 l : Nat) : Int) :: packF k (l.drop (runP isZ 255 l)))
    else if ofS w = 255 then ofS w :: (nzS w ++ ((runP denseS 255 l : Nat) : Int) :: (bytesS (l.take (runP denseS 255 l)) ++ packF k (l.drop (runP denseS 255 l))))
    else ofS w :: (nzS w ++ packF k l)
def packS (l : List Int) : List Int := packF l.length l
theorem runP_le (p : Int → Bool) : ∀ (n : Nat) (l : List Int), runP p n l ≤ n
  | 0, l => by simp [runP]
  | n + 1, [] => by simp [runP]
  | n + 1, x :: l => by have := runP_le p n l; simp only [runP]; split <;> omega
theorem runP_length (p : Int → Bool) : ∀ (n : Nat) (l : List Int), runP p n l ≤ l.length
  | 0, l => by simp [runP]
  | n + 1, [] => by simp [runP]
  | n + 1, x :: l => by have := runP_length p n l; simp only [runP, List.length_cons]; split <;> omega
theorem runP_stop (p : Int → Bool) : ∀ (n : Nat) (l : List Int), runP p n l < n → runP p n l < l.length → p (rd l ((runP p n l : Nat) : Int)) = false
  | 0, l => by simp [runP]
  | n + 1, [] => by simp [runP]
  | n + 1, x :: l => by
    have := runP_stop p n l
    simp only [runP]
    by_cases h : p x = true
    · rw [if_pos h]
      intro h1 h2
      have h3 := this (by omega) (by simpa using h2)
      have e : rd (x :: l) ((runP p n l + 1 : Nat) : Int) = rd l ((runP p n l : Nat) : Int) := by simp [rd]
      rw [e]; exact h3
    · rw [if_neg h]
      intro _ _
      simpa [rd] using h
theorem packF_fuel : ∀ (k : Nat) (l : List Int), l.length ≤ k → packF k l = packS l := by
  have key : ∀ (n : Nat) (k j : Nat) (l : List Int), l.length ≤ n → l.length ≤ k → l.length ≤ j → packF k l = packF j l := by
    intro n
    induction n with
    | zero =>
      intro k j l hn hk hj
      have : l = [] := List.length_eq_zero_iff.mp (by omega)
      subst this
      cases k <;> cases j <;> rfl
    | succ n ih =>
      intro k j l hn hk hj
      cases l with
      | nil => cases k <;> cases j <;> rfl
      | cons w l =>
        simp only [List.length_cons] at hn hk hj
        obtain ⟨k, rfl⟩ : ∃ q, k = q + 1 := ⟨k - 1, by omega⟩
        obtain ⟨j, rfl⟩ : ∃ q, j = q + 1 := ⟨j - 1, by omega⟩
        simp only [packF]
        rw [ih k j (l.drop (runP isZ 255 l)) (by rw [List.length_drop]; omega) (by rw [List.length_drop]; omega) (by rw [List.length_drop]; omega),
          ih k j (l.drop (runP denseS 255 l)) (by rw [List.length_drop]; omega) (by rw [List.length_drop]; omega) (by rw [List.length_drop]; omega),
          ih k j l (by omega) (by omega) (by omega)]
  intro k l h
  exact key l.length k l.length l (Nat.le_refl _) h (Nat.le_refl _)
theorem packS_nil : packS [] = [] := rfl
theorem packS_cons (w : Int) (l : List Int) : packS (w :: l) =
    if ofS w = 0 then ofS w :: (nzS w ++ ((runP isZ 255 l : Nat) : Int) :: packS (l.drop (runP isZ 255 l)))
    else if ofS w = 255 then ofS w :: (nzS w ++ ((runP denseS 255 l : Nat) : Int) :: (bytesS (l.take (runP denseS 255 l)) ++ packS (l.drop (runP denseS 255 l))))
    else ofS w :: (nzS w ++ packS l) := by
  show packF (l.length + 1) (w :: l) = _
  simp only [packF]
  rw [packF_fuel l.length (l.drop (runP isZ 255 l)) (by rw [List.length_drop]; omega), packF_fuel l.length (l.drop (runP denseS 255 l)) (by rw [List.length_drop]; omega), packF_fuel l.length l (Nat.le_refl _)]
theorem nz_none {l : List Int} (h : nz l = []) : val l = 0 := by
  induction l with
  | nil => rfl
  | cons x l ih =>
    rw [nz_cons] at h
    by_cases hx : x = 0
    · rw [if_pos hx] at h
      rw [val, ih h, hx]; rfl
    · rw [if_neg hx] at h; cases h
theorem ofS_zero {w : Int} (h0 : 0 ≤ w) (h1 : w < 18446744073709551616) (h : ofS w = 0) : w = 0 ∧ nzS w = [] := by
  have h2 := ones_ofS w
  rw [h] at h2
  have h3 : onesS 0 = 0 := by decide
  have e : nzS w = [] := List.length_eq_zero_iff.mp (by omega)
  refine ⟨?_, e⟩
  have := nz_none e
  rwa [val_bs8 h0 h1] at this
theorem onesS_lt : ∀ n : Fin 256, onesS ((n.val : Nat) : Int) = 8 → n.val = 255 := by decide +kernel
theorem onesS_0 : onesS 0 = 0 := by decide
theorem ofS_full {w : Int} (h : ofS w = 255) : (nzS w).length = 8 := by rw [← ones_ofS, h]; rfl
theorem ofS_lt8 {w : Int} (h : ofS w ≠ 255) : (nzS w).length ≤ 7 := by
  have h1 := ones_ofS w
  have h2 := nzS_length_le w
  have ho := ofS_range w
  rcases Nat.lt_or_ge (nzS w).length 8 with h3 | h3
  · omega
  · exfalso
    obtain ⟨m, hm⟩ := Int.eq_ofNat_of_zero_le ho.1
    rw [hm] at h1 ho h
    have := onesS_lt ⟨m, by omega⟩ (by show onesS (m : Int) = 8; omega)
    simp at this
    omega
theorem packS_bound : ∀ (n : Nat) (l : List Int), l.length ≤ n → (packS l).length ≤ 9 * l.length + 1 ∧ (0 < l.length → denseS (rd l 0) = false → (packS l).length + 1 ≤ 9 * l.length) := by
  intro n
  induction n with
  | zero =>
    intro l h
    have : l = [] := List.length_eq_zero_iff.mp (by omega)
    subst this; simp [packS_nil]
  | succ n ih =>
    intro l h
    cases l with
    | nil => simp [packS_nil]
    | cons w l =>
      simp only [List.length_cons] at h
      have hrd : rd (w :: l) 0 = w := by simp [rd]
      rw [hrd, packS_cons]
      have hno := ones_ofS w
      by_cases h0 : ofS w = 0
      · rw [if_pos h0]
        rw [h0, onesS_0] at hno
        have hr := runP_length isZ 255 l
        obtain ⟨h1, _⟩ := ih (l.drop (runP isZ 255 l)) (by rw [List.length_drop]; omega)
        simp only [List.length_cons, List.length_append] at h1 ⊢
        rw [List.length_drop] at h1
        refine ⟨by omega, fun _ _ => by omega⟩
      · rw [if_neg h0]
        by_cases h2 : ofS w = 255
        · rw [if_pos h2]
          have h8 := ofS_full h2
          have hr := runP_length denseS 255 l
          have hle := runP_le denseS 255 l
          have hst := runP_stop denseS 255 l
          have hb := bytesS_length (l.take (runP denseS 255 l))
          rw [List.length_take, Nat.min_eq_left hr] at hb
          obtain ⟨h1, h3⟩ := ih (l.drop (runP denseS 255 l)) (by rw [List.length_drop]; omega)
          have hd : denseS w = true := by simp [denseS, h8]
          rw [List.length_drop] at h1 h3
          simp only [List.length_cons, List.length_append, hb]
          refine ⟨?_, fun _ h4 => by rw [hd] at h4; cases h4⟩
          by_cases h5 : runP denseS 255 l < l.length
          · by_cases h6 : runP denseS 255 l < 255
            · have h7 := hst h6 h5
              have e : rd (l.drop (runP denseS 255 l)) 0 = rd l ((runP denseS 255 l : Nat) : Int) := by simp [rd]
              have h9 := h3 (by omega) (by rw [e]; exact h7)
              omega
            · omega
          · have e : l.drop (runP denseS 255 l) = [] := List.drop_of_length_le (by omega)
            rw [e, packS_nil, List.length_nil]; omega
        · rw [if_neg h2]
          have h7 := ofS_lt8 h2
          obtain ⟨h1, _⟩ := ih l (by omega)
          simp only [List.length_cons, List.length_append]
          refine ⟨by omega, fun _ h4 => ?_⟩
          have h5 : (nzS w).length < 7 := by
            rcases Nat.lt_or_ge (nzS w).length 7 with h | h
            · exact h
            · simp [denseS, h] at h4
          omega
theorem packS_length_le (l : List Int) : (packS l).length ≤ 9 * l.length + 1 := (packS_bound l.length l (Nat.le_refl _)).1
end Go.Proofs.Ytibkbgaonjdpiaa.M
