/- Plain facts on tags: the tag of bytes, the non-zero bytes, expanding; no program in sight. -/
import Derived.Test.YtcdkgccmmfjnhaaM3
namespace Go.Proofs.Ytcdkgccmmfjnhaa.M
open Go Go.RowKit Go.Proofs.YtcdkgccmmfjnhaaW.PrintWords Go.Proofs.YtcdkgccmmfjnhaaW.PrintLast Go.Proofs.YtcdkgccmmfjnhaaW.PrintMore
set_option linter.unusedVariables false
set_option linter.unusedSimpArgs false

/-- one bit for each byte that is not zero -/
def tagL : List Int → Int
  | [] => 0
  | x :: l => (if x = 0 then 0 else 1) + 2 * tagL l
def nz (l : List Int) : List Int := l.filter (fun x => decide (x ≠ 0))
def ofS (w : Int) : Int := tagL (bs 8 w)
def nzS (w : Int) : List Int := nz (bs 8 w)
/-- the number of the n lowest bits that are 1 -/
def onesF : Nat → Int → Nat
  | 0, _ => 0
  | n + 1, t => (t % 2).toNat + onesF n (t / 2)
def onesS (t : Int) : Nat := onesF 8 t
/-- the bytes that a tag and bytes lead to -/
def expF : Nat → Int → List Int → List Int
  | 0, _, _ => []
  | n + 1, t, b => if t % 2 = 1 then b.headD 0 :: expF n (t / 2) b.tail else 0 :: expF n (t / 2) b
def expS (t : Int) (b : List Int) : Int := val (expF 8 t b)

theorem nz_nil : nz [] = [] := rfl
theorem nz_cons (x : Int) (l : List Int) : nz (x :: l) = if x = 0 then nz l else x :: nz l := by
  simp only [nz, List.filter_cons]; by_cases h : x = 0 <;> simp [h]
theorem nz_append (l m : List Int) : nz (l ++ m) = nz l ++ nz m := by simp [nz]
theorem nz_B {l : List Int} (h : IsB l) : IsB (nz l) := fun x hx => h x (List.mem_filter.mp hx).1
theorem nz_length_le (l : List Int) : (nz l).length ≤ l.length := List.length_filter_le _ _
theorem nz_mem {l : List Int} {x : Int} (h : x ∈ nz l) : x ≠ 0 := by simpa [nz] using (List.mem_filter.mp h).2
theorem nz_nz (l : List Int) : nz (nz l) = nz l := by simp [nz, List.filter_filter]
theorem nzS_length_le (w : Int) : (nzS w).length ≤ 8 := by
  have := nz_length_le (bs 8 w); rw [bs_length] at this; exact this
theorem nzS_B (w : Int) : IsB (nzS w) := nz_B (bs_B 8 w)
theorem tagL_nonneg : ∀ l, 0 ≤ tagL l
  | [] => by simp [tagL]
  | x :: l => by have := tagL_nonneg l; simp only [tagL]; split <;> omega
theorem tagL_lt : ∀ l : List Int, tagL l < 2 ^ l.length
  | [] => by simp [tagL]
  | x :: l => by
    have := tagL_lt l
    simp only [tagL, List.length_cons, Int.pow_succ]; split <;> omega
theorem tagL_append (l m : List Int) : tagL (l ++ m) = tagL l + 2 ^ l.length * tagL m := by
  induction l with
  | nil => simp [tagL]
  | cons x l ih =>
    simp only [List.cons_append, tagL, ih, List.length_cons, Int.pow_succ]
    rw [Int.mul_add, Int.add_assoc, Int.mul_comm (2 ^ l.length) 2, Int.mul_assoc]
theorem tagL_mod (x : Int) (l : List Int) : tagL (x :: l) % 2 = if x = 0 then 0 else 1 := by simp only [tagL]; split <;> omega
theorem tagL_div (x : Int) (l : List Int) : tagL (x :: l) / 2 = tagL l := by simp only [tagL]; split <;> omega
theorem onesF_tagL : ∀ l : List Int, onesF l.length (tagL l) = (nz l).length
  | [] => rfl
  | x :: l => by
    rw [List.length_cons, onesF, tagL_mod, tagL_div, onesF_tagL l, nz_cons]
    by_cases h : x = 0
    · simp [h]
    · simp [h]; omega
theorem onesF_le (n : Nat) : ∀ t, onesF n t ≤ n := by
  induction n with
  | zero => intro t; simp [onesF]
  | succ n ih => intro t; have := ih (t / 2); simp only [onesF]; omega
theorem ones_ofS (w : Int) : onesS (ofS w) = (nzS w).length := by
  have := onesF_tagL (bs 8 w)
  rwa [bs_length] at this
theorem ofS_range (w : Int) : 0 ≤ ofS w ∧ ofS w < 256 := by
  have h := tagL_lt (bs 8 w)
  rw [bs_length] at h
  exact ⟨tagL_nonneg _, h⟩
theorem onesS_le (t : Int) : onesS t ≤ 8 := onesF_le 8 t
theorem expF_length (n : Nat) : ∀ t b, (expF n t b).length = n := by
  induction n with
  | zero => intro t b; rfl
  | succ n ih => intro t b; simp only [expF]; split <;> simp [ih]
theorem expF_B (n : Nat) : ∀ t b, IsB b → IsB (expF n t b) := by
  induction n with
  | zero => intro t b _; exact IsB.nil
  | succ n ih =>
    intro t b h
    simp only [expF]
    split
    · cases b with
      | nil => exact IsB.cons (by simp) (by simp) (ih _ _ IsB.nil)
      | cons x b => exact IsB.cons (h x List.mem_cons_self).1 (h x List.mem_cons_self).2 (ih _ _ (fun y hy => h y (List.mem_cons_of_mem _ hy)))
    · exact IsB.cons (by decide) (by decide) (ih _ _ h)
/-- only as many bytes count as the tag has 1 bits -/
theorem expF_take (n : Nat) : ∀ t b m, onesF n t ≤ m → expF n t (b.take m) = expF n t b := by
  induction n with
  | zero => intro t b m _; rfl
  | succ n ih =>
    intro t b m h
    simp only [expF]
    simp only [onesF] at h
    by_cases h1 : t % 2 = 1
    · rw [if_pos h1, if_pos h1]
      cases b with
      | nil => simp
      | cons x b =>
        obtain ⟨m, rfl⟩ : ∃ q, m = q + 1 := ⟨m - 1, by omega⟩
        rw [List.take_succ_cons, List.tail_cons, List.tail_cons, ih _ _ _ (by omega)]; rfl
    · rw [if_neg h1, if_neg h1, ih _ _ _ (by omega)]
theorem expF_append (n : Nat) (t : Int) (b c : List Int) (h : onesF n t ≤ b.length) : expF n t (b ++ c) = expF n t b := by
  rw [← expF_take n t (b ++ c) (onesF n t) (Nat.le_refl _), List.take_append_of_le_length h, expF_take n t b _ (Nat.le_refl _)]
theorem expF_tag : ∀ l : List Int, expF l.length (tagL l) (nz l) = l
  | [] => rfl
  | x :: l => by
    rw [List.length_cons, expF, tagL_mod, tagL_div, nz_cons]
    by_cases h : x = 0
    · simp [h, expF_tag l]
    · simp [h, expF_tag l]
theorem expF_of (w : Int) (tail : List Int) : expF 8 (ofS w) (nzS w ++ tail) = bs 8 w := by
  have h := expF_tag (bs 8 w)
  rw [bs_length] at h
  rw [expF_append _ _ _ _ (by have := ones_ofS w; unfold onesS at this; omega)]; exact h
theorem expS_of {w : Int} (h0 : 0 ≤ w) (h1 : w < 18446744073709551616) (tail : List Int) : expS (ofS w) (nzS w ++ tail) = w := by
  rw [expS, expF_of, val_bs8 h0 h1]
theorem expS_range {t : Int} {b : List Int} (h : IsB b) : 0 ≤ expS t b ∧ expS t b < 18446744073709551616 := val_lt8 (expF_B 8 t b h) (expF_length 8 t b)
theorem bs_expS {t : Int} {b : List Int} (h : IsB b) : bs 8 (expS t b) = expF 8 t b := bs_val8 (expF_B 8 t b h) (expF_length 8 t b)
theorem onesF_snoc (n : Nat) : ∀ t : Int, onesF (n + 1) t = onesF n t + (t / 2 ^ n % 2).toNat := by
  induction n with
  | zero => intro t; simp [onesF]
  | succ n ih =>
    intro t
    rw [onesF, ih, onesF, Int.ediv_ediv_of_nonneg (by decide), Int.pow_succ, Int.mul_comm (2 ^ n) 2]; omega
theorem drop_headD {b : List Int} {i : Nat} : (b.drop i).headD 0 = rd b (i : Int) := by
  simp [rd, List.headD_eq_head?_getD, List.head?_drop]
theorem expF_snoc (n : Nat) : ∀ (t : Int) (b : List Int), expF (n + 1) t b = expF n t b ++ [if t / 2 ^ n % 2 = 1 then rd b ((onesF n t : Nat) : Int) else 0] := by
  induction n with
  | zero =>
    intro t b
    simp only [expF, onesF, Int.pow_zero, Int.ediv_one, List.nil_append]
    split
    · rw [← drop_headD]; simp
    · rfl
  | succ n ih =>
    intro t b
    have e : t / 2 / 2 ^ n = t / 2 ^ (n + 1) := by rw [Int.ediv_ediv_of_nonneg (by decide), Int.pow_succ, Int.mul_comm]
    have s : ∀ m, expF (m + 1) t b = if t % 2 = 1 then b.headD 0 :: expF m (t / 2) b.tail else 0 :: expF m (t / 2) b := fun m => rfl
    have o : onesF (n + 1) t = (t % 2).toNat + onesF n (t / 2) := rfl
    rw [s (n + 1), s n, o]
    by_cases h : t % 2 = 1
    · rw [if_pos h, if_pos h, ih, e, List.cons_append, h, ← drop_headD, ← drop_headD, ← List.drop_one, List.drop_drop]
      rfl
    · rw [if_neg h, if_neg h, ih, e, List.cons_append, show t % 2 = 0 by omega]
      simp
/-- a larger tag -/
theorem tagL_expF (n : Nat) : ∀ (t : Int) (b : List Int), 0 ≤ t → t < 2 ^ n → onesF n t ≤ b.length → (∀ i, i < n → (tagL (expF n t b)) / 2 ^ i % 2 ≤ t / 2 ^ i % 2) ∧ (tagL (expF n t b) = t ↔ ∀ x ∈ b.take (onesF n t), x ≠ 0) := by
  induction n with
  | zero =>
    intro t b h0 h1 h2
    have h1' : t < 1 := h1
    refine ⟨fun i hi => by omega, ?_⟩
    simp [expF, tagL, onesF]; omega
  | succ n ih =>
    intro t b h0 h1 h2
    rw [Int.pow_succ] at h1
    simp only [onesF] at h2 ⊢
    have hd : ∀ (x : Int) i, x / 2 ^ (i + 1) = x / 2 / 2 ^ i := fun x i => by rw [Int.ediv_ediv_of_nonneg (by decide), Int.pow_succ, Int.mul_comm]
    by_cases h : t % 2 = 1
    · rw [h] at h2 ⊢
      rw [expF, if_pos h]
      cases b with
      | nil => simp at h2
      | cons x b =>
        obtain ⟨h3, h4⟩ := ih (t / 2) b (by omega) (by omega) (by simp at h2; omega)
        rw [List.headD_cons, List.tail_cons]
        have e1 := tagL_mod x (expF n (t / 2) b)
        have e2 := tagL_div x (expF n (t / 2) b)
        refine ⟨fun i hi => ?_, ?_⟩
        · cases i with
          | zero => rw [Int.pow_zero, Int.ediv_one, Int.ediv_one, e1, h]; split <;> omega
          | succ i => rw [hd, hd, e2]; exact h3 i (by omega)
        · rw [show (1 : Int).toNat + onesF n (t / 2) = onesF n (t / 2) + 1 by simp; omega, List.take_succ_cons]
          simp only [List.mem_cons, forall_eq_or_imp]
          rw [← h4]
          by_cases hx : x = 0
          · rw [if_pos hx] at e1
            refine ⟨fun h5 => ?_, fun h5 => absurd hx h5.1⟩
            rw [h5] at e1; omega
          · rw [if_neg hx] at e1
            refine ⟨fun h5 => ⟨hx, ?_⟩, fun h5 => ?_⟩
            · rw [← e2, h5]
            · rw [← e2] at h5; omega
    · rw [show t % 2 = 0 by omega] at h2 ⊢
      rw [expF, if_neg h]
      obtain ⟨h3, h4⟩ := ih (t / 2) b (by omega) (by omega) (by simpa using h2)
      have e1 := tagL_mod 0 (expF n (t / 2) b)
      have e2 := tagL_div 0 (expF n (t / 2) b)
      rw [if_pos rfl] at e1
      refine ⟨fun i hi => ?_, ?_⟩
      · cases i with
        | zero => rw [Int.pow_zero, Int.ediv_one, Int.ediv_one, e1]; omega
        | succ i => rw [hd, hd, e2]; exact h3 i (by omega)
      · rw [show (0 : Int).toNat + onesF n (t / 2) = onesF n (t / 2) by simp, ← h4]
        refine ⟨fun h5 => ?_, fun h5 => ?_⟩
        · rw [← e2, h5]
        · rw [← e2] at h5; omega
end Go.Proofs.Ytcdkgccmmfjnhaa.M
