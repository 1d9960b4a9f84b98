/- The streaming packer as plain functions over words; what it comes to is the packed form of all words. -/
import Derived.Test.YtibkbgaonjdpiaaM6S
namespace Go.Proofs.Ytibkbgaonjdpiaa.Ps
open Go Go.RowKit Go.Proofs.Ytibkbgaonjdpiaa Go.Proofs.Ytibkbgaonjdpiaa.M Go.Proofs.YtibkbgaonjdpiaaW.PrintWords Go.Proofs.YtibkbgaonjdpiaaW.PrintLast Go.Proofs.YtibkbgaonjdpiaaW.PrintMore
set_option linter.unusedVariables false
set_option linter.unusedSimpArgs false
theorem runP_app (p : Int → Bool) : ∀ (s t : List Int) (n : Nat), (∀ x ∈ s, p x = true) → s.length ≤ n → runP p n (s ++ t) = s.length + runP p (n - s.length) t
  | [], t, n, _, _ => by simp
  | x :: s, t, 0, _, h => by simp at h
  | x :: s, t, n + 1, hs, h => by
    rw [List.cons_append, runP, if_pos (hs x List.mem_cons_self), runP_app p s t n (fun y hy => hs y (List.mem_cons_of_mem _ hy)) (by simpa using h)]
    simp only [List.length_cons]
    rw [show n + 1 - (s.length + 1) = n - s.length by omega]; omega
theorem runP_no (p : Int → Bool) (n : Nat) {x : Int} (t : List Int) (h : p x = false) : runP p n (x :: t) = 0 := by
  cases n with
  | zero => rfl
  | succ n => rw [runP, if_neg (by rw [h]; simp)]
theorem runP_nil (p : Int → Bool) (n : Nat) : runP p n [] = 0 := by cases n <;> rfl
theorem of0 : ofS 0 = 0 := by decide
theorem nz0 : nzS 0 = [] := by decide
theorem nz_full {w : Int} (h : ofS w = 255) : nzS w = bs 8 w := by
  have h8 := ofS_full h
  unfold nzS nz at h8 ⊢
  exact List.filter_eq_self.mpr (fun x hx => by
    have := (List.length_filter_eq_length_iff (p := fun x => decide (x ≠ 0)) (l := bs 8 w)).mp (by rw [h8, bs_length])
    exact this x hx)
theorem dense_full {w : Int} (h : ofS w = 255) : denseS w = true := by unfold denseS; rw [ofS_full h]; decide
def stL (z : Nat) (r : List Int) : List Int := List.replicate z 0 ++ r
def openW (z : Nat) (r : List Int) : List Int :=
  if 0 < z then [0, (z : Int) - 1] else match r with
    | [] => []
    | x :: l => 255 :: (bs 8 x ++ (l.length : Int) :: bytesS l)
structure Inv (M : Nat) (z : Nat) (r : List Int) : Prop where
  one : z = 0 ∨ r = []
  zM : z ≤ M
  rM : r.length ≤ M
  d : ∀ x ∈ r, denseS x = true
  f : ∀ x l, r = x :: l → ofS x = 255
theorem Inv.nil (M : Nat) : Inv M 0 [] := ⟨Or.inl rfl, Nat.zero_le _, Nat.zero_le _, by simp, by simp⟩
theorem pack_open {z : Nat} {r t : List Int} (h : Inv 256 z r) (hz : 0 < z → runP isZ (256 - z) t = 0) (hr : 0 < r.length → runP denseS (256 - r.length) t = 0) : packS (stL z r ++ t) = openW z r ++ packS t := by
  unfold stL openW
  cases z with
  | succ z =>
    have hr0 : r = [] := by rcases h.one with e | e; · omega
                            · exact e
    subst hr0
    have h1 := hz (by omega)
    have hzM := h.zM
    rw [if_pos (by omega), List.append_nil, List.replicate_succ, List.cons_append, packS_cons, of0, if_pos rfl, nz0, runP_app isZ _ t 255 (fun x hx => by rw [(List.mem_replicate.mp hx).2]; rfl) (by rw [List.length_replicate]; omega), List.length_replicate, show 255 - z = 256 - (z + 1) by omega, h1]
    rw [Nat.add_zero, List.drop_append_of_le_length (by rw [List.length_replicate]; omega), List.drop_of_length_le (by rw [List.length_replicate]; omega), List.nil_append, List.nil_append]
    rw [show ((z + 1 : Nat) : Int) - 1 = (z : Int) by omega]; rfl
  | zero =>
    rw [if_neg (by omega), List.replicate_zero, List.nil_append]
    cases r with
    | nil => rfl
    | cons x l =>
      have hf := h.f x l rfl
      have hrM := h.rM
      have h1 := hr (by simp)
      simp only [List.length_cons] at hrM h1
      rw [List.cons_append, packS_cons, hf, if_neg (by decide), if_pos rfl, nz_full hf, runP_app denseS l t 255 (fun y hy => h.d y (List.mem_cons_of_mem _ hy)) (by omega), show 255 - l.length = 256 - (l.length + 1) by omega, h1, Nat.add_zero,
        List.take_append_of_le_length (Nat.le_refl _), List.take_length, List.drop_append_of_le_length (Nat.le_refl _), List.drop_length, List.nil_append]
      simp
abbrev SW := Nat × List Int × List Int
def flushW (s : SW) : SW := (0, [], s.2.2 ++ openW s.1 s.2.1)
def beginW (s : SW) (x : Int) : SW := if ofS x = 0 then (1, s.2.1, s.2.2) else if ofS x = 255 then (s.1, [x], s.2.2) else (s.1, s.2.1, s.2.2 ++ (ofS x :: nzS x))
def takeW (s : SW) (x : Int) : SW := if 0 < s.1 ∧ x = 0 then (s.1 + 1, s.2.1, s.2.2) else if 0 < s.2.1.length ∧ denseS x = true then (s.1, s.2.1 ++ [x], s.2.2) else beginW (flushW s) x
def wordW (s : SW) (x : Int) : SW := if 255 < (takeW s x).1 ∨ 255 < (takeW s x).2.1.length then flushW (takeW s x) else takeW s x
def runW (ws : List Int) (s : SW) : SW := ws.foldl wordW s
theorem runW_append (a b : List Int) (s : SW) : runW (a ++ b) s = runW b (runW a s) := by unfold runW; rw [List.foldl_append]
theorem runW_out : ∀ (ws : List Int) (z : Nat) (r o : List Int), runW ws (z, r, o) = ((runW ws (z, r, [])).1, (runW ws (z, r, [])).2.1, o ++ (runW ws (z, r, [])).2.2)
  | [], z, r, o => by simp [runW]
  | x :: ws, z, r, o => by
    have hw : wordW (z, r, o) x = ((wordW (z, r, []) x).1, (wordW (z, r, []) x).2.1, o ++ (wordW (z, r, []) x).2.2) := by
      unfold wordW takeW beginW flushW
      simp only
      repeat' split
      all_goals simp_all
    rcases h : wordW (z, r, []) x with ⟨z1, r1, o1⟩
    have e1 : runW (x :: ws) (z, r, o) = runW ws (wordW (z, r, o) x) := rfl
    have e2 : runW (x :: ws) (z, r, []) = runW ws (wordW (z, r, []) x) := rfl
    rw [e1, e2, hw, h, runW_out ws z1 r1 (o ++ o1), runW_out ws z1 r1 o1]
    simp
theorem begin_ok {x : Int} (h0 : 0 ≤ x) (h1 : x < 18446744073709551616) (o : List Int) : Inv 255 (beginW (0, [], o) x).1 (beginW (0, [], o) x).2.1 ∧ (∀ t, (beginW (0, [], o) x).2.2 ++ packS (stL (beginW (0, [], o) x).1 (beginW (0, [], o) x).2.1 ++ t) = o ++ packS (x :: t)) := by
  unfold beginW
  by_cases hz : ofS x = 0
  · have := (ofS_zero h0 h1 hz).1
    subst this
    rw [if_pos hz]
    exact ⟨⟨Or.inr rfl, by simp, by simp, by simp, by simp⟩, fun t => rfl⟩
  · rw [if_neg hz]
    by_cases hf : ofS x = 255
    · rw [if_pos hf]
      refine ⟨⟨Or.inl rfl, by simp, by simp, fun y hy => by rw [List.mem_singleton.mp hy]; exact dense_full hf, fun y l e => by injection e with e1 e2; rw [← e1]; exact hf⟩, fun t => rfl⟩
    · rw [if_neg hf]
      refine ⟨Inv.nil _, fun t => ?_⟩
      simp only [stL, List.replicate_zero, List.nil_append]
      rw [packS_cons, if_neg hz, if_neg hf]
      simp
theorem word_ok {z : Nat} {r : List Int} (h : Inv 255 z r) {x : Int} (h0 : 0 ≤ x) (h1 : x < 18446744073709551616) (o : List Int) :
    Inv 255 (wordW (z, r, o) x).1 (wordW (z, r, o) x).2.1 ∧ ∀ t, (wordW (z, r, o) x).2.2 ++ packS (stL (wordW (z, r, o) x).1 (wordW (z, r, o) x).2.1 ++ t) = o ++ packS (stL z r ++ x :: t) := by
  have h256 : Inv 256 z r := ⟨h.one, by have := h.zM; omega, by have := h.rM; omega, h.d, h.f⟩
  unfold wordW
  by_cases c1 : 0 < z ∧ x = 0
  · obtain ⟨c1, rfl⟩ := c1
    have ht : takeW (z, r, o) 0 = (z + 1, r, o) := by unfold takeW; rw [if_pos ⟨c1, rfl⟩]
    have hr : r = [] := by rcases h.one with e | e; · omega
                           · exact e
    subst hr
    rw [ht]
    have hst : ∀ t, stL z [] ++ 0 :: t = stL (z + 1) [] ++ t := fun t => by unfold stL; rw [List.append_nil, List.append_nil, List.replicate_succ', List.append_assoc]; rfl
    by_cases c2 : 255 < z + 1 ∨ 255 < ([] : List Int).length
    · have hz : z = 255 := by have := h.zM; simp at c2; omega
      subst hz
      rw [if_pos c2]
      refine ⟨Inv.nil _, fun t => ?_⟩
      rw [hst, pack_open ⟨Or.inr rfl, by decide, by simp, by simp, by simp⟩ (fun _ => by rfl) (fun e => by simp at e)]
      simp [flushW, stL]
    · rw [if_neg c2]
      refine ⟨⟨Or.inr rfl, by simp at c2; omega, by simp, by simp, by simp⟩, fun t => ?_⟩
      rw [hst]
  · by_cases c2 : 0 < r.length ∧ denseS x = true
    · have ht : takeW (z, r, o) x = (z, r ++ [x], o) := by unfold takeW; rw [if_neg c1, if_pos c2]
      have hz : z = 0 := by rcases h.one with e | e; · exact e
                            · rw [e] at c2; simp at c2
      subst hz
      rw [ht]
      have hst : ∀ t, stL 0 r ++ x :: t = stL 0 (r ++ [x]) ++ t := fun t => by simp [stL]
      have hd : ∀ y ∈ r ++ [x], denseS y = true := fun y hy => by
        rcases List.mem_append.mp hy with e | e
        · exact h.d y e
        · rw [List.mem_singleton.mp e]; exact c2.2
      have hf : ∀ y l, r ++ [x] = y :: l → ofS y = 255 := fun y l e => by
        cases r with
        | nil => simp at c2
        | cons a r => simp only [List.cons_append, List.cons.injEq] at e; rw [← e.1]; exact h.f a r rfl
      have hl : (r ++ [x]).length = r.length + 1 := by simp
      by_cases c3 : 255 < 0 ∨ 255 < (r ++ [x]).length
      · rw [if_pos c3]
        have hrM := h.rM
        have hr : (r ++ [x]).length = 256 := by omega
        refine ⟨Inv.nil _, fun t => ?_⟩
        rw [hst, pack_open ⟨Or.inl rfl, by omega, by omega, hd, hf⟩ (fun e => by omega) (fun _ => by rw [hr]; rfl)]
        simp [flushW, stL]
      · rw [if_neg c3]
        simp only [not_or] at c3
        exact ⟨⟨Or.inl rfl, by omega, by simp only at c3 ⊢; omega, hd, hf⟩, fun t => by rw [hst]⟩
    · have ht : takeW (z, r, o) x = beginW (flushW (z, r, o)) x := by unfold takeW; rw [if_neg c1, if_neg c2]
      obtain ⟨b1, b2⟩ := begin_ok h0 h1 (o ++ openW z r)
      have hfl : flushW (z, r, o) = (0, [], o ++ openW z r) := rfl
      rw [ht, hfl, if_neg (by have := b1.zM; have := b1.rM; omega)]
      refine ⟨b1, fun t => ?_⟩
      have s1 : 0 < z → runP isZ (256 - z) (x :: t) = 0 := fun e => runP_no _ _ t (by
        unfold isZ
        rw [beq_eq_false_iff_ne]
        exact fun e2 => c1 ⟨e, e2⟩)
      have s2 : 0 < r.length → runP denseS (256 - r.length) (x :: t) = 0 := fun e => runP_no _ _ t (by
        by_cases hd : denseS x = true
        · exact absurd ⟨e, hd⟩ c2
        · simpa using hd)
      rw [b2, pack_open (t := x :: t) h256 s1 s2, List.append_assoc]
theorem run_ok : ∀ (ws : List Int) (z : Nat) (r o : List Int), Inv 255 z r → IsW ws →
    Inv 255 (runW ws (z, r, o)).1 (runW ws (z, r, o)).2.1 ∧ ∀ t, (runW ws (z, r, o)).2.2 ++ packS (stL (runW ws (z, r, o)).1 (runW ws (z, r, o)).2.1 ++ t) = o ++ packS (stL z r ++ (ws ++ t))
  | [], z, r, o, h, _ => ⟨h, fun t => rfl⟩
  | x :: ws, z, r, o, h, hW => by
    obtain ⟨w1, w2⟩ := word_ok h (hW x List.mem_cons_self).1 (hW x List.mem_cons_self).2 o
    have e1 : runW (x :: ws) (z, r, o) = runW ws (wordW (z, r, o) x) := rfl
    rw [e1]
    rcases hs : wordW (z, r, o) x with ⟨z1, r1, o1⟩
    rw [hs] at w1 w2
    obtain ⟨i1, i2⟩ := run_ok ws z1 r1 o1 w1 (fun y hy => hW y (List.mem_cons_of_mem _ hy))
    exact ⟨i1, fun t => by rw [i2, w2, List.cons_append]⟩
theorem open_pack {z : Nat} {r : List Int} (h : Inv 255 z r) : packS (stL z r) = openW z r := by
  have := pack_open (t := []) ⟨h.one, by have := h.zM; omega, by have := h.rM; omega, h.d, h.f⟩ (fun _ => runP_nil _ _) (fun _ => runP_nil _ _)
  rw [List.append_nil, packS_nil, List.append_nil] at this
  exact this
end Go.Proofs.Ytibkbgaonjdpiaa.Ps
