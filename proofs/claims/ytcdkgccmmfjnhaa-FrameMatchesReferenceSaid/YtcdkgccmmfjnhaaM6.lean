/- The packed encoding as plain lists: packing words, decoding bytes, and that decoding a packed form gives the words back; no program in sight. -/
import Derived.Test.YtcdkgccmmfjnhaaM4
namespace Go.Proofs.Ytcdkgccmmfjnhaa.M
open Go Go.RowKit Go.Proofs.YtcdkgccmmfjnhaaW.PrintWords Go.Proofs.YtcdkgccmmfjnhaaW.PrintLast Go.Proofs.YtcdkgccmmfjnhaaW.PrintMore
set_option linter.unusedVariables false
set_option linter.unusedSimpArgs false

/-- how many words at the begin satisfy p, at most n -/
def runP (p : Int → Bool) : Nat → List Int → Nat
  | 0, _ => 0
  | _ + 1, [] => 0
  | n + 1, x :: l => if p x = true then runP p n l + 1 else 0
def denseS (w : Int) : Bool := decide (7 ≤ (nzS w).length)
def isZ (w : Int) : Bool := w == 0
def packF : Nat → List Int → List Int
  | 0, _ => []
  | _ + 1, [] => []
  | k + 1, w :: l =>
    if ofS w = 0 then ofS w :: (nzS w ++ ((runP isZ 255 l : Nat) : Int) :: packF k (l.drop (runP isZ 255 l)))
    else if ofS w = 255 then ofS w :: (nzS w ++ ((runP denseS 255 l : Nat) : Int) :: (bytesS (l.take (runP denseS 255 l)) ++ packF k (l.drop (runP denseS 255 l))))
    else ofS w :: (nzS w ++ packF k l)
def packS (l : List Int) : List Int := packF l.length l

theorem rd_drop (l : List Int) (j n : Nat) : rd (l.drop j) (n : Int) = rd l ((j + n : Nat) : Int) := by
  rw [rd_nat, rd_nat]; simp [List.getD_eq_getElem?_getD, List.getElem?_drop]
theorem runP_le (p : Int → Bool) : ∀ (n : Nat) (l : List Int), runP p n l ≤ n
  | 0, l => by simp [runP]
  | n + 1, [] => by simp [runP]
  | n + 1, x :: l => by have := runP_le p n l; simp only [runP]; split <;> omega
theorem runP_length (p : Int → Bool) : ∀ (n : Nat) (l : List Int), runP p n l ≤ l.length
  | 0, l => by simp [runP]
  | n + 1, [] => by simp [runP]
  | n + 1, x :: l => by have := runP_length p n l; simp only [runP, List.length_cons]; split <;> omega
theorem runP_all (p : Int → Bool) : ∀ (n : Nat) (l : List Int), ∀ x ∈ l.take (runP p n l), p x = true
  | 0, l => by simp [runP]
  | n + 1, [] => by simp [runP]
  | n + 1, x :: l => by
    have := runP_all p n l
    simp only [runP]
    by_cases h : p x = true
    · rw [if_pos h, List.take_succ_cons]
      intro y hy
      rcases List.mem_cons.mp hy with rfl | hy
      · exact h
      · exact this y hy
    · rw [if_neg h]; simp
theorem runP_stop (p : Int → Bool) : ∀ (n : Nat) (l : List Int), runP p n l < n → runP p n l < l.length → p (rd l ((runP p n l : Nat) : Int)) = false
  | 0, l => by simp [runP]
  | n + 1, [] => by simp [runP]
  | n + 1, x :: l => by
    have := runP_stop p n l
    simp only [runP]
    by_cases h : p x = true
    · rw [if_pos h]
      intro h1 h2
      have h3 := this (by omega) (by simpa using h2)
      have e : rd (x :: l) ((runP p n l + 1 : Nat) : Int) = rd l ((runP p n l : Nat) : Int) := by simp [rd]
      rw [e]; exact h3
    · rw [if_neg h]
      intro _ _
      simpa [rd] using h
theorem runP_zeros (n : Nat) (l : List Int) : l.take (runP isZ n l) = List.replicate (runP isZ n l) 0 := by
  have h := runP_all isZ n l
  have hl : (l.take (runP isZ n l)).length = runP isZ n l := by have := runP_length isZ n l; rw [List.length_take]; omega
  rw [List.eq_replicate_iff]
  exact ⟨hl, fun x hx => by simpa [isZ] using h x hx⟩
theorem packF_fuel : ∀ (k : Nat) (l : List Int), l.length ≤ k → packF k l = packS l := by
  have key : ∀ (n : Nat) (k j : Nat) (l : List Int), l.length ≤ n → l.length ≤ k → l.length ≤ j → packF k l = packF j l := by
    intro n
    induction n with
    | zero =>
      intro k j l hn hk hj
      have : l = [] := List.length_eq_zero_iff.mp (by omega)
      subst this
      cases k <;> cases j <;> rfl
    | succ n ih =>
      intro k j l hn hk hj
      cases l with
      | nil => cases k <;> cases j <;> rfl
      | cons w l =>
        simp only [List.length_cons] at hn hk hj
        obtain ⟨k, rfl⟩ : ∃ q, k = q + 1 := ⟨k - 1, by omega⟩
        obtain ⟨j, rfl⟩ : ∃ q, j = q + 1 := ⟨j - 1, by omega⟩
        simp only [packF]
        rw [ih k j (l.drop (runP isZ 255 l)) (by rw [List.length_drop]; omega) (by rw [List.length_drop]; omega) (by rw [List.length_drop]; omega),
          ih k j (l.drop (runP denseS 255 l)) (by rw [List.length_drop]; omega) (by rw [List.length_drop]; omega) (by rw [List.length_drop]; omega),
          ih k j l (by omega) (by omega) (by omega)]
  intro k l h
  exact key l.length k l.length l (Nat.le_refl _) h (Nat.le_refl _)
theorem packS_nil : packS [] = [] := rfl
theorem packS_cons (w : Int) (l : List Int) : packS (w :: l) =
    if ofS w = 0 then ofS w :: (nzS w ++ ((runP isZ 255 l : Nat) : Int) :: packS (l.drop (runP isZ 255 l)))
    else if ofS w = 255 then ofS w :: (nzS w ++ ((runP denseS 255 l : Nat) : Int) :: (bytesS (l.take (runP denseS 255 l)) ++ packS (l.drop (runP denseS 255 l))))
    else ofS w :: (nzS w ++ packS l) := by
  show packF (l.length + 1) (w :: l) = _
  simp only [packF]
  rw [packF_fuel l.length (l.drop (runP isZ 255 l)) (by rw [List.length_drop]; omega), packF_fuel l.length (l.drop (runP denseS 255 l)) (by rw [List.length_drop]; omega), packF_fuel l.length l (Nat.le_refl _)]
theorem packS_B : ∀ (n : Nat) (l : List Int), l.length ≤ n → IsB (packS l) := by
  intro n
  induction n with
  | zero =>
    intro l h
    have : l = [] := List.length_eq_zero_iff.mp (by omega)
    subst this; exact IsB.nil
  | succ n ih =>
    intro l h
    cases l with
    | nil => exact IsB.nil
    | cons w l =>
      simp only [List.length_cons] at h
      have ho := ofS_range w
      have hz := runP_le isZ 255 l
      have hd := runP_le denseS 255 l
      rw [packS_cons]
      split
      · exact IsB.cons ho.1 ho.2 ((nzS_B w).append (IsB.cons (by omega) (by omega) (ih _ (by rw [List.length_drop]; omega))))
      · split
        · exact IsB.cons ho.1 ho.2 ((nzS_B w).append (IsB.cons (by omega) (by omega) ((bytesS_B _).append (ih _ (by rw [List.length_drop]; omega)))))
        · exact IsB.cons ho.1 ho.2 ((nzS_B w).append (ih _ (by omega)))
theorem packS_isB (l : List Int) : IsB (packS l) := packS_B l.length l (Nat.le_refl _)
theorem nz_none {l : List Int} (h : nz l = []) : val l = 0 := by
  induction l with
  | nil => rfl
  | cons x l ih =>
    rw [nz_cons] at h
    by_cases hx : x = 0
    · rw [if_pos hx] at h
      rw [val, ih h, hx]; rfl
    · rw [if_neg hx] at h; cases h
theorem ofS_zero {w : Int} (h0 : 0 ≤ w) (h1 : w < 18446744073709551616) (h : ofS w = 0) : w = 0 ∧ nzS w = [] := by
  have h2 := ones_ofS w
  rw [h] at h2
  have h3 : onesS 0 = 0 := by decide
  have e : nzS w = [] := List.length_eq_zero_iff.mp (by omega)
  refine ⟨?_, e⟩
  have := nz_none e
  rwa [val_bs8 h0 h1] at this
theorem onesS_lt : ∀ n : Fin 256, onesS ((n.val : Nat) : Int) = 8 → n.val = 255 := by decide +kernel
theorem onesS_255 : onesS 255 = 8 := by decide
theorem onesS_0 : onesS 0 = 0 := by decide
theorem ofS_full {w : Int} (h : ofS w = 255) : (nzS w).length = 8 := by rw [← ones_ofS, h]; rfl
theorem ofS_lt8 {w : Int} (h : ofS w ≠ 255) : (nzS w).length ≤ 7 := by
  have h1 := ones_ofS w
  have h2 := nzS_length_le w
  have ho := ofS_range w
  rcases Nat.lt_or_ge (nzS w).length 8 with h3 | h3
  · omega
  · exfalso
    obtain ⟨m, hm⟩ := Int.eq_ofNat_of_zero_le ho.1
    rw [hm] at h1 ho h
    have := onesS_lt ⟨m, by omega⟩ (by show onesS (m : Int) = 8; omega)
    simp at this
    omega
/-- the packed form is not long -/
theorem packS_bound : ∀ (n : Nat) (l : List Int), l.length ≤ n → (packS l).length ≤ 9 * l.length + 1 ∧ (0 < l.length → denseS (rd l 0) = false → (packS l).length + 1 ≤ 9 * l.length) := by
  intro n
  induction n with
  | zero =>
    intro l h
    have : l = [] := List.length_eq_zero_iff.mp (by omega)
    subst this; simp [packS_nil]
  | succ n ih =>
    intro l h
    cases l with
    | nil => simp [packS_nil]
    | cons w l =>
      simp only [List.length_cons] at h
      have hrd : rd (w :: l) 0 = w := by simp [rd]
      rw [hrd, packS_cons]
      have hno := ones_ofS w
      by_cases h0 : ofS w = 0
      · rw [if_pos h0]
        rw [h0, onesS_0] at hno
        have hr := runP_length isZ 255 l
        obtain ⟨h1, _⟩ := ih (l.drop (runP isZ 255 l)) (by rw [List.length_drop]; omega)
        simp only [List.length_cons, List.length_append] at h1 ⊢
        rw [List.length_drop] at h1
        refine ⟨by omega, fun _ _ => by omega⟩
      · rw [if_neg h0]
        by_cases h2 : ofS w = 255
        · rw [if_pos h2]
          have h8 := ofS_full h2
          have hr := runP_length denseS 255 l
          have hle := runP_le denseS 255 l
          have hst := runP_stop denseS 255 l
          have hb := bytesS_length (l.take (runP denseS 255 l))
          rw [List.length_take, Nat.min_eq_left hr] at hb
          obtain ⟨h1, h3⟩ := ih (l.drop (runP denseS 255 l)) (by rw [List.length_drop]; omega)
          have hd : denseS w = true := by simp [denseS, h8]
          rw [List.length_drop] at h1 h3
          simp only [List.length_cons, List.length_append, hb]
          refine ⟨?_, fun _ h4 => by rw [hd] at h4; cases h4⟩
          by_cases h5 : runP denseS 255 l < l.length
          · by_cases h6 : runP denseS 255 l < 255
            · have h7 := hst h6 h5
              have e : rd (l.drop (runP denseS 255 l)) 0 = rd l ((runP denseS 255 l : Nat) : Int) := by simp [rd]
              have h9 := h3 (by omega) (by rw [e]; exact h7)
              omega
            · omega
          · have e : l.drop (runP denseS 255 l) = [] := List.drop_of_length_le (by omega)
            rw [e, packS_nil, List.length_nil]; omega
        · rw [if_neg h2]
          have h7 := ofS_lt8 h2
          obtain ⟨h1, _⟩ := ih l (by omega)
          simp only [List.length_cons, List.length_append]
          refine ⟨by omega, fun _ h4 => ?_⟩
          have h5 : (nzS w).length < 7 := by
            rcases Nat.lt_or_ge (nzS w).length 7 with h | h
            · exact h
            · simp [denseS, h] at h4
          omega
theorem packS_length_le (l : List Int) : (packS l).length ≤ 9 * l.length + 1 := (packS_bound l.length l (Nat.le_refl _)).1

/-- decoding: the words of all groups, and whether the bytes end within a group -/
def decF : Nat → List Int → List Int × Bool
  | 0, _ => ([], true)
  | _ + 1, [] => ([], false)
  | k + 1, t :: p =>
    if t = 0 then
      match p with
      | [] => ([], true)
      | c :: q => (List.replicate (c.toNat + 1) 0 ++ (decF k q).1, (decF k q).2)
    else if p.length < onesS t then ([], true)
    else if t = 255 then
      match p.drop 8 with
      | [] => ([expS t p], true)
      | c :: q =>
        if q.length < 8 * c.toNat then (expS t p :: wordsS q, true)
        else (expS t p :: (wordsS (q.take (8 * c.toNat)) ++ (decF k (q.drop (8 * c.toNat))).1), (decF k (q.drop (8 * c.toNat))).2)
    else (expS t p :: (decF k (p.drop (onesS t))).1, (decF k (p.drop (onesS t))).2)
def decS (p : List Int) : List Int × Bool := decF (p.length + 1) p
theorem decF_fuel : ∀ (k : Nat) (p : List Int), p.length < k → decF k p = decS p := by
  have key : ∀ (n : Nat) (k j : Nat) (p : List Int), p.length ≤ n → p.length < k → p.length < j → decF k p = decF j p := by
    intro n
    induction n with
    | zero =>
      intro k j p hn hk hj
      have : p = [] := List.length_eq_zero_iff.mp (by omega)
      subst this
      obtain ⟨k, rfl⟩ : ∃ q, k = q + 1 := ⟨k - 1, by omega⟩
      obtain ⟨j, rfl⟩ : ∃ q, j = q + 1 := ⟨j - 1, by omega⟩
      rfl
    | succ n ih =>
      intro k j p hn hk hj
      obtain ⟨k, rfl⟩ : ∃ q, k = q + 1 := ⟨k - 1, by omega⟩
      obtain ⟨j, rfl⟩ : ∃ q, j = q + 1 := ⟨j - 1, by omega⟩
      cases p with
      | nil => rfl
      | cons t p =>
        simp only [List.length_cons] at hn hk hj
        simp only [decF]
        split
        · cases p with
          | nil => rfl
          | cons c q =>
            simp only [List.length_cons] at hn hk hj
            simp only []
            rw [ih k j q (by omega) (by omega) (by omega)]
        · split
          · rfl
          · split
            · cases hq : p.drop 8 with
              | nil => rfl
              | cons c q =>
                have hl : q.length + 1 ≤ p.length := by
                  have := congrArg List.length hq
                  rw [List.length_drop, List.length_cons] at this; omega
                simp only []
                rw [ih k j (q.drop (8 * c.toNat)) (by rw [List.length_drop]; omega) (by rw [List.length_drop]; omega) (by rw [List.length_drop]; omega)]
            · rw [ih k j (p.drop (onesS t)) (by rw [List.length_drop]; omega) (by rw [List.length_drop]; omega) (by rw [List.length_drop]; omega)]
  intro k p h
  exact key p.length k (p.length + 1) p (Nat.le_refl _) h (by omega)
theorem decS_nil : decS [] = ([], false) := rfl
theorem decS_zero (c : Int) (q : List Int) : decS (0 :: c :: q) = (List.replicate (c.toNat + 1) 0 ++ (decS q).1, (decS q).2) := by
  show decF (q.length + 1 + 1 + 1) (0 :: c :: q) = _
  simp only [decF, if_true]
  rw [decF_fuel _ q (by omega)]
theorem decS_zero_end : decS [0] = ([], true) := rfl
theorem decS_short {t : Int} {p : List Int} (h0 : t ≠ 0) (h : p.length < onesS t) : decS (t :: p) = ([], true) := by
  show decF (p.length + 1 + 1) (t :: p) = _
  simp only [decF, if_neg h0, if_pos h]
theorem decS_tag {t : Int} {p : List Int} (h0 : t ≠ 0) (h1 : t ≠ 255) (h : onesS t ≤ p.length) : decS (t :: p) = (expS t p :: (decS (p.drop (onesS t))).1, (decS (p.drop (onesS t))).2) := by
  show decF (p.length + 1 + 1) (t :: p) = _
  simp only [decF, if_neg h0, if_neg h1, if_neg (Nat.not_lt.mpr h)]
  rw [decF_fuel _ (p.drop (onesS t)) (by rw [List.length_drop]; omega)]
theorem decS_full_end {p : List Int} (h : p.length = 8) : decS (255 :: p) = ([expS 255 p], true) := by
  show decF (p.length + 1 + 1) (255 :: p) = _
  have e : p.drop 8 = [] := List.drop_of_length_le (by omega)
  have o : onesS 255 = 8 := by decide
  simp only [decF, if_neg (show ¬ (255 : Int) = 0 by decide), if_neg (show ¬ p.length < onesS 255 by omega), e, if_true]
theorem decS_full {p : List Int} {c : Int} {q : List Int} (h : p.length = 8) : decS (255 :: (p ++ c :: q)) = if q.length < 8 * c.toNat then (expS 255 p :: wordsS q, true) else (expS 255 p :: (wordsS (q.take (8 * c.toNat)) ++ (decS (q.drop (8 * c.toNat))).1), (decS (q.drop (8 * c.toNat))).2) := by
  show decF ((p ++ c :: q).length + 1 + 1) (255 :: (p ++ c :: q)) = _
  have e : (p ++ c :: q).drop 8 = c :: q := by rw [List.drop_append_of_le_length (by omega), List.drop_of_length_le (by omega), List.nil_append]
  have o : onesS 255 = 8 := by decide
  have hl : ¬ (p ++ c :: q).length < onesS 255 := by rw [List.length_append]; omega
  have h8 : onesF 8 255 = 8 := by decide
  have hx : expS 255 (p ++ c :: q) = expS 255 p := by rw [expS, expF_append 8 255 p (c :: q) (by omega)]; rfl
  simp only [decF, if_neg (show ¬ (255 : Int) = 0 by decide), if_neg hl, e, if_true, hx]
  rw [decF_fuel _ (q.drop (8 * c.toNat)) (by rw [List.length_drop, List.length_append, List.length_cons]; omega)]
/-- decoding a packed form, and what follows -/
theorem dec_pack (q : List Int) : ∀ (n : Nat) (l : List Int), l.length ≤ n → IsW l → decS (packS l ++ q) = (l ++ (decS q).1, (decS q).2) := by
  intro n
  induction n with
  | zero =>
    intro l h _
    have : l = [] := List.length_eq_zero_iff.mp (by omega)
    subst this; simp [packS_nil]
  | succ n ih =>
    intro l h hW
    cases l with
    | nil => simp [packS_nil]
    | cons w l =>
      simp only [List.length_cons] at h
      have hw := hW w List.mem_cons_self
      have hL : IsW l := fun x hx => hW x (List.mem_cons_of_mem _ hx)
      rw [packS_cons]
      by_cases h0 : ofS w = 0
      · rw [if_pos h0]
        obtain ⟨e1, e2⟩ := ofS_zero hw.1 hw.2 h0
        rw [h0, e2, List.nil_append, List.cons_append, List.cons_append, decS_zero, ih _ (by rw [List.length_drop]; omega) (hL.drop _), Int.toNat_natCast, List.replicate_succ, ← runP_zeros, e1, List.cons_append, ← List.append_assoc, List.take_append_drop]
        rfl
      · rw [if_neg h0]
        by_cases h1 : ofS w = 255
        · rw [if_pos h1]
          have hn := ofS_full h1
          have hd := runP_length denseS 255 l
          have hb := bytesS_length (l.take (runP denseS 255 l))
          rw [List.length_take, Nat.min_eq_left hd] at hb
          rw [h1, List.cons_append, List.append_assoc, List.cons_append, decS_full hn, Int.toNat_natCast, if_neg (by rw [List.length_append, List.length_append]; omega)]
          have ew : expS 255 (nzS w) = w := by
            have := expS_of hw.1 hw.2 []
            rwa [List.append_nil, h1] at this
          rw [ew, List.append_assoc, List.take_append_of_le_length (by omega), List.take_of_length_le (by omega), List.drop_append_of_le_length (by omega), List.drop_of_length_le (by omega), List.nil_append, wordsS_bytesS _ (hL.take _), ih _ (by rw [List.length_drop]; omega) (hL.drop _)]
          simp only [List.cons_append]
          rw [← List.append_assoc, List.take_append_drop]
        · rw [if_neg h1, List.cons_append, List.append_assoc, decS_tag h0 h1 (by rw [ones_ofS, List.length_append]; omega), expS_of hw.1 hw.2, ones_ofS, List.drop_append_of_le_length (Nat.le_refl _), List.drop_of_length_le (Nat.le_refl _), List.nil_append, ih l (by omega) hL]
          rfl
theorem dec_packS {l : List Int} (h : IsW l) : decS (packS l) = (l, false) := by
  have := dec_pack [] l.length l (Nat.le_refl _) h
  rw [List.append_nil, decS_nil] at this
  simpa using this
theorem packS_inj {a b : List Int} (ha : IsW a) (hb : IsW b) : packS a = packS b ↔ a = b := by
  constructor
  · intro h
    have h1 := dec_packS ha
    rw [h, dec_packS hb] at h1
    exact (Prod.mk.inj h1).1.symm
  · intro h; rw [h]
end Go.Proofs.Ytcdkgccmmfjnhaa.M
