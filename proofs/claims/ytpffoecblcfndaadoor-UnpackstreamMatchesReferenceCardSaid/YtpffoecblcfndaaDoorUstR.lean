/- The streaming unpacker as plain functions; what it comes to is the plain decoding up to the limit. -/
import Derived.Test.YtpffoecblcfndaaDoorM6R
namespace Go.Proofs.YtpffoecblcfndaaDoor.Us
open Go Go.RowKit Go.Proofs.YtpffoecblcfndaaDoor Go.Proofs.YtpffoecblcfndaaDoor.M Go.Proofs.YtpffoecblcfndaaDoorW.PrintWords Go.Proofs.YtpffoecblcfndaaDoorW.PrintLast Go.Proofs.YtpffoecblcfndaaDoorW.PrintMore
set_option linter.unusedVariables false
set_option linter.unusedSimpArgs false
structure U where
  st : Int
  tag : Int
  word : List Int
  left : Int
  done : Int
  err : Int
abbrev UO := U × List Int
def emitU (lim : Int) (p : UO) (x : Int) : UO :=
  if lim < p.1.done + 8 then (⟨0, 0, [], 0, p.1.done, 11⟩, p.2) else ({ p.1 with done := p.1.done + 8 }, p.2 ++ bytesS [x])
def finishU (lim : Int) (p : UO) (tag st : Int) : UO := emitU lim ({ p.1 with st := st, tag := 0, word := [] }, p.2) (expS tag p.1.word)
def zerosU (lim : Int) : Nat → UO → UO
  | 0, p => p
  | n + 1, p => if p.1.err = 0 then zerosU lim n (emitU lim p 0) else p
def taggedU (lim : Int) (p : UO) (c : Int) : UO :=
  if (p.1.word.length : Int) + 1 < onesS p.1.tag then ({ p.1 with word := p.1.word ++ [c] }, p.2)
  else finishU lim ({ p.1 with word := p.1.word ++ [c] }, p.2) p.1.tag (if p.1.tag = 255 then 3 else 0)
def literalU (lim : Int) (p : UO) (c : Int) : UO :=
  if (p.1.word.length : Int) + 1 < 8 then ({ p.1 with word := p.1.word ++ [c] }, p.2)
  else finishU lim ({ p.1 with word := p.1.word ++ [c], left := p.1.left - 1 }, p.2) 255 (if 0 < p.1.left - 1 then 4 else 0)
def stepU (lim : Int) (p : UO) (c : Int) : UO :=
  if p.1.st = 0 then ({ p.1 with st := if c = 0 then 2 else 1, tag := c }, p.2)
  else if p.1.st = 1 then taggedU lim p c
  else if p.1.st = 2 then zerosU lim (c.toNat + 1) ({ p.1 with st := 0 }, p.2)
  else if p.1.st = 3 then ({ p.1 with st := if 0 < c then 4 else 0, left := c }, p.2)
  else literalU lim p c
def runU (lim : Int) : List Int → UO → UO
  | [], p => p
  | c :: l, p => if p.1.err = 0 then runU lim l (stepU lim p c) else p
def roomU (u : U) : Nat := if u.st = 1 then onesS u.tag else if u.st = 4 then 8 else 1
structure VU (u : U) : Prop where
  d0 : 0 ≤ u.done
  d1 : u.done ≤ 1152921504606846976
  d8 : u.done % 8 = 0
  s0 : 0 ≤ u.st
  s1 : u.st ≤ 4
  e : u.err = 0 ∨ u.err = 11
  t : u.tag ≠ 0 ↔ u.st = 1
  l0 : 0 ≤ u.left
  l1 : u.left ≤ 255
  ls : 0 < u.left ↔ u.st = 4
  w : u.word.length < roomU u
  es : u.err ≠ 0 → u.st = 0
  tb0 : 0 ≤ u.tag
  tb1 : u.tag < 256
  wb : IsB u.word
theorem onesS_pos : ∀ n : Fin 256, 0 < n.val → 0 < onesS ((n.val : Nat) : Int) := by decide +kernel
theorem ones_pos {t : Int} (h0 : 0 ≤ t) (h1 : t < 256) (h : t ≠ 0) : 0 < onesS t := by
  obtain ⟨n, rfl⟩ := Int.eq_ofNat_of_zero_le h0
  exact onesS_pos ⟨n, by omega⟩ (by simp; omega)
structure Idle (u : U) : Prop where
  d0 : 0 ≤ u.done
  d1 : u.done ≤ 1152921504606846976
  d8 : u.done % 8 = 0
  s0 : 0 ≤ u.st
  s1 : u.st ≤ 4
  s : u.st ≠ 1
  e : u.err = 0
  t : u.tag = 0
  l0 : 0 ≤ u.left
  l1 : u.left ≤ 255
  ls : 0 < u.left ↔ u.st = 4
  w : u.word = []
theorem Idle.valid {u : U} (h : Idle u) : VU u where
  d0 := h.d0
  d1 := h.d1
  d8 := h.d8
  s0 := h.s0
  s1 := h.s1
  e := Or.inl h.e
  t := ⟨fun h' => absurd h.t h', fun h' => absurd h' h.s⟩
  l0 := h.l0
  l1 := h.l1
  ls := h.ls
  w := by rw [h.w]; unfold roomU; rw [if_neg h.s]; split <;> simp
  es := fun h' => absurd h.e h'
  tb0 := by rw [h.t]; exact Int.le_refl 0
  tb1 := by rw [h.t]; decide
  wb := by rw [h.w]; exact IsB.nil
theorem emit_valid {lim : Int} {p : UO} (hl : lim ≤ 1152921504606846976) (x : Int) (h : Idle p.1) : VU (emitU lim p x).1 ∧ ((emitU lim p x).1.err = 0 → Idle (emitU lim p x).1) := by
  unfold emitU
  by_cases hc : lim < p.1.done + 8
  · rw [if_pos hc]
    refine ⟨⟨h.d0, h.d1, h.d8, Int.le_refl 0, by simp, Or.inr rfl, by simp, Int.le_refl 0, by simp, by simp, by simp [roomU], fun _ => rfl, Int.le_refl 0, by simp, IsB.nil⟩, fun e => by simp at e⟩
  · rw [if_neg hc]
    have hi : Idle { p.1 with done := p.1.done + 8 } := ⟨by have := h.d0; simp only; omega, by simp only; omega, by have := h.d8; simp only; omega, h.s0, h.s1, h.s, h.e, h.t, h.l0, h.l1, h.ls, h.w⟩
    exact ⟨hi.valid, fun _ => hi⟩
theorem zeros_valid {lim : Int} (hl : lim ≤ 1152921504606846976) : ∀ (n : Nat) (p : UO), Idle p.1 → VU (zerosU lim n p).1
  | 0, p, h => h.valid
  | n + 1, p, h => by
    rw [zerosU, if_pos h.e]
    obtain ⟨h1, h2⟩ := emit_valid (p := p) hl 0 h
    by_cases he : (emitU lim p 0).1.err = 0
    · exact zeros_valid hl n _ (h2 he)
    · cases n with
      | zero => exact h1
      | succ n => rw [zerosU, if_neg he]; exact h1
theorem step_valid {lim : Int} {p : UO} {c : Int} (hl : lim ≤ 1152921504606846976) (h : VU p.1) (he : p.1.err = 0) (c0 : 0 ≤ c) (c1 : c < 256) : VU (stepU lim p c).1 := by
  unfold stepU
  have hw := h.w
  have hls := h.ls
  have ht := h.t
  have hs0 := h.s0
  have hs1 := h.s1
  have wb : IsB (p.1.word ++ [c]) := h.wb.append (IsB.cons c0 c1 IsB.nil)
  unfold roomU at hw
  by_cases h0 : p.1.st = 0
  · rw [if_pos h0]
    rw [if_neg (by omega), if_neg (by omega)] at hw
    have hl0 : p.1.left = 0 := by have := h.l0; omega
    refine ⟨h.d0, h.d1, h.d8, ?_, ?_, h.e, ?_, h.l0, h.l1, ?_, ?_, fun e => absurd he e, c0, c1, h.wb⟩
    · simp only; split <;> omega
    · simp only; split <;> omega
    · simp only; split <;> omega
    · simp only; rw [hl0]; split <;> omega
    · simp only [roomU]
      by_cases hc : c = 0
      · rw [if_pos hc, if_neg (by decide), if_neg (by decide)]; omega
      · rw [if_neg hc, if_pos rfl]; have := ones_pos c0 c1 hc; omega
  · rw [if_neg h0]
    by_cases h1 : p.1.st = 1
    · rw [if_pos h1]
      rw [if_pos h1] at hw
      have hl0 : p.1.left = 0 := by have := h.l0; omega
      unfold taggedU
      by_cases hc : (p.1.word.length : Int) + 1 < onesS p.1.tag
      · rw [if_pos hc]
        exact ⟨h.d0, h.d1, h.d8, h.s0, h.s1, h.e, h.t, h.l0, h.l1, h.ls, by simp only [roomU]; rw [if_pos h1]; simp; omega, h.es, h.tb0, h.tb1, wb⟩
      · rw [if_neg hc]
        refine (emit_valid hl _ ?_).1
        exact ⟨h.d0, h.d1, h.d8, by simp only; split <;> omega, by simp only; split <;> omega, by simp only; split <;> omega, he, rfl, h.l0, h.l1, by simp only; rw [hl0]; split <;> omega, rfl⟩
    · rw [if_neg h1]
      rw [if_neg h1] at hw
      have ht0 : p.1.tag = 0 := by
        by_cases e : p.1.tag = 0
        · exact e
        · exact absurd (ht.mp e) h1
      by_cases h2 : p.1.st = 2
      · rw [if_pos h2]
        rw [if_neg (by omega)] at hw
        refine zeros_valid hl _ _ ⟨h.d0, h.d1, h.d8, Int.le_refl 0, by simp, by simp, he, ht0, h.l0, h.l1, by simp only; omega, ?_⟩
        exact List.length_eq_zero_iff.mp (show p.1.word.length = 0 by omega)
      · rw [if_neg h2]
        by_cases h3 : p.1.st = 3
        · rw [if_pos h3]
          rw [if_neg (by omega)] at hw
          refine ⟨h.d0, h.d1, h.d8, ?_, ?_, h.e, ?_, c0, by simp only; omega, ?_, ?_, fun e => absurd he e, h.tb0, h.tb1, h.wb⟩
          · simp only; split <;> omega
          · simp only; split <;> omega
          · simp only; rw [ht0]; split <;> omega
          · simp only; split <;> omega
          · simp only [roomU]
            by_cases hc : 0 < c
            · rw [if_pos hc, if_neg (by decide), if_pos rfl]; omega
            · rw [if_neg hc, if_neg (by decide), if_neg (by decide)]; omega
        · rw [if_neg h3]
          have h4 : p.1.st = 4 := by omega
          rw [if_pos h4] at hw
          have hlp := hls.mpr h4
          unfold literalU
          by_cases hc : (p.1.word.length : Int) + 1 < 8
          · rw [if_pos hc]
            exact ⟨h.d0, h.d1, h.d8, h.s0, h.s1, h.e, h.t, h.l0, h.l1, h.ls, by simp only [roomU]; rw [if_neg h1, if_pos h4]; simp; omega, h.es, h.tb0, h.tb1, wb⟩
          · rw [if_neg hc]
            refine (emit_valid hl _ ?_).1
            exact ⟨h.d0, h.d1, h.d8, by simp only; split <;> omega, by simp only; split <;> omega, by simp only; split <;> omega, he, rfl, by simp only; omega, by have := h.l1; simp only; omega, by simp only; split <;> omega, rfl⟩
theorem run_valid {lim : Int} (hl : lim ≤ 1152921504606846976) : ∀ (l : List Int) (p : UO), IsB l → VU p.1 → VU (runU lim l p).1
  | [], p, _, h => h
  | c :: l, p, hB, h => by
    rw [runU]
    split
    · next he => exact run_valid hl l _ (fun x hx => hB x (List.mem_cons_of_mem _ hx)) (step_valid hl h he (hB c List.mem_cons_self).1 (hB c List.mem_cons_self).2)
    · exact h
theorem zeros_len {lim : Int} : ∀ (n : Nat) (p : UO), (zerosU lim n p).2.length ≤ p.2.length + 8 * n
  | 0, p => by simp [zerosU]
  | n + 1, p => by
    rw [zerosU]; split
    · refine Nat.le_trans (zeros_len n _) ?_
      unfold emitU; split
      · simp only; omega
      · simp [bytesS_length]; omega
    · omega
theorem emit_len {lim : Int} (p : UO) (x : Int) : (emitU lim p x).2.length ≤ p.2.length + 8 := by
  unfold emitU; split
  · simp only; omega
  · simp [bytesS_length]
theorem step_len {lim : Int} {p : UO} {c : Int} (h0 : 0 ≤ c) (h1 : c < 256) : (stepU lim p c).2.length ≤ p.2.length + 2048 := by
  unfold stepU
  split
  · simp only; omega
  · split
    · unfold taggedU; split
      · simp only; omega
      · unfold finishU; exact Nat.le_trans (emit_len _ _) (by simp only; omega)
    · split
      · exact Nat.le_trans (zeros_len _ _) (by simp only; omega)
      · split
        · simp only; omega
        · unfold literalU; split
          · simp only; omega
          · unfold finishU; exact Nat.le_trans (emit_len _ _) (by simp only; omega)
theorem run_len {lim : Int} : ∀ (l : List Int) (p : UO), IsB l → (runU lim l p).2.length ≤ p.2.length + 2048 * l.length
  | [], p, _ => by simp [runU]
  | c :: l, p, hB => by
    rw [runU]; split
    · refine Nat.le_trans (run_len l _ (fun x hx => hB x (List.mem_cons_of_mem _ hx))) ?_
      have := step_len (lim := lim) (p := p) (hB c List.mem_cons_self).1 (hB c List.mem_cons_self).2
      simp only [List.length_cons]; omega
    · omega
end Go.Proofs.YtpffoecblcfndaaDoor.Us
