/- The streaming unpacker, part 2: from the initial state on it comes to the plain decoding up to the limit. -/
import Derived.Test.YtpffoecblcfndaaDoorUstC
namespace Go.Proofs.YtpffoecblcfndaaDoor.Us
open Go Go.RowKit Go.Proofs.YtpffoecblcfndaaDoor Go.Proofs.YtpffoecblcfndaaDoor.M Go.Proofs.YtpffoecblcfndaaDoorW.PrintWords Go.Proofs.YtpffoecblcfndaaDoorW.PrintLast Go.Proofs.YtpffoecblcfndaaDoorW.PrintMore
set_option linter.unusedVariables false
set_option linter.unusedSimpArgs false
def closeU (u : U) : Int := if u.err ≠ 0 then u.err else if u.st ≠ 0 then 10 else 0
def Fit (lim d : Int) (m : Nat) : Prop := d + 8 * m ≤ lim ∧ lim < d + 8 * m + 8
def Res (r : UO) (o : List Int) (m : Nat) (ws : List Int) (cut : Bool) : Prop :=
  r.2 = o ++ bytesS (ws.take m) ∧ closeU r.1 = if m < ws.length then 11 else if cut = true then 10 else 0
theorem Res.cons {r : UO} {o : List Int} {m : Nat} {x : Int} {ws : List Int} {cut : Bool} (h : Res r (o ++ bytesS [x]) m ws cut) : Res r o (m + 1) (x :: ws) cut := by
  obtain ⟨h1, h2⟩ := h
  refine ⟨?_, ?_⟩
  · rw [h1, List.take_succ_cons, List.append_assoc, ← bytesS_append]; rfl
  · rw [h2, List.length_cons]
    by_cases hm : m < ws.length
    · rw [if_pos hm, if_pos (by omega)]
    · rw [if_neg hm, if_neg (show ¬ m + 1 < ws.length + 1 by omega)]
theorem Res.full (l : List Int) (lim d : Int) (o : List Int) (x : Int) (ws : List Int) (cut : Bool) : Res (runU lim l (⟨0, 0, [], 0, d, 11⟩, o)) o 0 (x :: ws) cut := by
  rw [run_stop (by simp)]
  exact ⟨by simp [bytesS], by simp [closeU]⟩
theorem Res.emit {lim : Int} {l : List Int} {u : U} {o : List Int} {x : Int} {m : Nat} {ws : List Int} {cut : Bool} (hm : Fit lim u.done m)
    (h : ∀ m', Fit lim (u.done + 8) m' → Res (runU lim l ({ u with done := u.done + 8 }, o ++ bytesS [x])) (o ++ bytesS [x]) m' ws cut) : Res (runU lim l (emitU lim (u, o) x)) o m (x :: ws) cut := by
  unfold emitU
  obtain ⟨m0, m1⟩ := hm
  cases m with
  | zero => rw [if_pos (by simp only; omega)]; exact Res.full l lim _ o x ws cut
  | succ m => rw [if_neg (by simp only; omega)]; exact Res.cons (h m ⟨by omega, by omega⟩)
theorem res_zeros {lim : Int} {l ws : List Int} {cut : Bool} (h : ∀ d o m, Fit lim d m → Res (runU lim l (U.mk0 d, o)) o m ws cut) : ∀ (n : Nat) (d : Int) (o : List Int) (m : Nat), Fit lim d m → Res (runU lim l (zerosU lim n (U.mk0 d, o))) o m (List.replicate n 0 ++ ws) cut
  | 0, d, o, m, hm => by rw [zerosU, List.replicate_zero, List.nil_append]; exact h d o m hm
  | n + 1, d, o, m, hm => by
    rw [zerosU, if_pos (show (U.mk0 d, o).1.err = 0 from rfl), List.replicate_succ, List.cons_append]
    obtain ⟨m0, m1⟩ := hm
    unfold emitU
    cases m with
    | zero =>
      rw [if_pos (by simp only [U.mk0]; omega)]
      have e : ∀ k, zerosU lim k ((⟨0, 0, [], 0, (U.mk0 d).done, 11⟩ : U), o) = ((⟨0, 0, [], 0, (U.mk0 d).done, 11⟩ : U), o) := by
        intro k
        cases k with
        | zero => rfl
        | succ k => rw [zerosU, if_neg (by simp)]
      rw [e]
      exact Res.full l lim _ o 0 _ cut
    | succ m =>
      rw [if_neg (by simp only [U.mk0]; omega)]
      exact Res.cons (res_zeros h n (d + 8) (o ++ bytesS [0]) m ⟨by omega, by omega⟩)
theorem run_bytes (lim : Int) : ∀ (q : List Int) (u : U) (o : List Int), u.st = 1 → u.err = 0 → u.word.length < onesS u.tag →
    (u.word.length + q.length < onesS u.tag → runU lim q (u, o) = ({ u with word := u.word ++ q }, o)) ∧
    (onesS u.tag ≤ u.word.length + q.length → runU lim q (u, o) = runU lim (q.drop (onesS u.tag - u.word.length)) (finishU lim ({ u with word := u.word ++ q.take (onesS u.tag - u.word.length) }, o) u.tag (if u.tag = 255 then 3 else 0)))
  | [], u, o, hs, he, hw => by
    refine ⟨fun _ => by simp [runU], fun h => ?_⟩
    simp only [List.length_nil] at h; omega
  | c :: q, u, o, hs, he, hw => by
    rw [runU, if_pos he]
    have e1 : stepU lim (u, o) c = taggedU lim (u, o) c := by unfold stepU; rw [if_neg (by simp only; omega), if_pos hs]
    rw [e1]
    unfold taggedU
    by_cases hc : (u.word.length : Int) + 1 < onesS u.tag
    · rw [if_pos hc]
      obtain ⟨h1, h2⟩ := run_bytes lim q { u with word := u.word ++ [c] } o hs he (by simp; omega)
      simp only [List.length_append, List.length_cons, List.length_nil, List.append_assoc, List.singleton_append] at h1 h2
      refine ⟨fun h => ?_, fun h => ?_⟩
      · rw [h1 (by simp only [List.length_cons] at h; omega)]
      · rw [h2 (by simp only [List.length_cons] at h; omega)]
        obtain ⟨k, hk⟩ : ∃ k, onesS u.tag - u.word.length = k + 1 := ⟨onesS u.tag - u.word.length - 1, by omega⟩
        have hk2 : onesS u.tag - (u.word.length + (0 + 1)) = k := by omega
        rw [hk, hk2, List.drop_succ_cons, List.take_succ_cons]
    · rw [if_neg hc]
      have hk : onesS u.tag - u.word.length = 1 := by omega
      refine ⟨fun h => ?_, fun h => ?_⟩
      · simp only [List.length_cons] at h; omega
      · rw [hk, List.drop_succ_cons, List.drop_zero, List.take_succ_cons, List.take_zero]
theorem run_literal (lim : Int) : ∀ (q : List Int) (u : U) (o : List Int), u.st = 4 → u.err = 0 → u.word.length < 8 →
    (u.word.length + q.length < 8 → runU lim q (u, o) = ({ u with word := u.word ++ q }, o)) ∧
    (8 ≤ u.word.length + q.length → runU lim q (u, o) = runU lim (q.drop (8 - u.word.length)) (finishU lim ({ u with word := u.word ++ q.take (8 - u.word.length), left := u.left - 1 }, o) 255 (if 0 < u.left - 1 then 4 else 0)))
  | [], u, o, hs, he, hw => by
    refine ⟨fun _ => by simp [runU], fun h => ?_⟩
    simp only [List.length_nil] at h; omega
  | c :: q, u, o, hs, he, hw => by
    rw [runU, if_pos he]
    have e1 : stepU lim (u, o) c = literalU lim (u, o) c := by unfold stepU; rw [if_neg (by simp only; omega), if_neg (by simp only; omega), if_neg (by simp only; omega), if_neg (by simp only; omega)]
    rw [e1]
    unfold literalU
    by_cases hc : (u.word.length : Int) + 1 < 8
    · rw [if_pos hc]
      obtain ⟨h1, h2⟩ := run_literal lim q { u with word := u.word ++ [c] } o hs he (by simp; omega)
      simp only [List.length_append, List.length_cons, List.length_nil, List.append_assoc, List.singleton_append] at h1 h2
      refine ⟨fun h => ?_, fun h => ?_⟩
      · rw [h1 (by simp only [List.length_cons] at h; omega)]
      · rw [h2 (by simp only [List.length_cons] at h; omega)]
        obtain ⟨k, hk⟩ : ∃ k, 8 - u.word.length = k + 1 := ⟨8 - u.word.length - 1, by omega⟩
        have hk2 : 8 - (u.word.length + (0 + 1)) = k := by omega
        rw [hk, hk2, List.drop_succ_cons, List.take_succ_cons]
    · rw [if_neg hc]
      have hk : 8 - u.word.length = 1 := by omega
      refine ⟨fun h => ?_, fun h => ?_⟩
      · simp only [List.length_cons] at h; omega
      · rw [hk, List.drop_succ_cons, List.drop_zero, List.take_succ_cons, List.take_zero]
theorem expF_255' : ∀ b : List Int, 8 ≤ b.length → expF 8 255 b = b.take 8
  | a0 :: a1 :: a2 :: a3 :: a4 :: a5 :: a6 :: a7 :: r, _ => rfl
theorem expS_255' {b : List Int} (h : 8 ≤ b.length) : expS 255 b = val (b.take 8) := by rw [expS, expF_255' b h]
theorem res_literal {lim : Int} {ws : List Int} {cut : Bool} : ∀ (n : Nat) (q : List Int) (d : Int) (o : List Int) (m : Nat), (8 * (n + 1) ≤ q.length → ∀ d o m, Fit lim d m → Res (runU lim (q.drop (8 * (n + 1))) (U.mk0 d, o)) o m ws cut) → Fit lim d m →
    Res (runU lim q (⟨4, 0, [], (n : Int) + 1, d, 0⟩, o)) o m (if q.length < 8 * (n + 1) then wordsS q else wordsS (q.take (8 * (n + 1))) ++ ws) (if q.length < 8 * (n + 1) then true else cut)
  | n, q, d, o, m, hk, hm => by
    obtain ⟨h1, h2⟩ := run_literal lim q ⟨4, 0, [], (n : Int) + 1, d, 0⟩ o rfl rfl (by simp)
    by_cases h8 : q.length < 8
    · rw [h1 (by simpa using h8), if_pos (by omega), if_pos (by omega), wordsS_short h8]
      exact ⟨by simp [bytesS], by simp [closeU]⟩
    · rw [h2 (by simp only [List.length_nil]; omega)]
      simp only [List.length_nil, Nat.sub_zero, List.nil_append]
      have ex : expS 255 (q.take 8) = val (q.take 8) := by rw [expS_255' (by rw [List.length_take]; omega), List.take_take, Nat.min_self]
      unfold finishU
      simp only [ex]
      have goal : ∀ W C, (∀ m', Fit lim (d + 8) m' → Res (runU lim (q.drop 8) (⟨if 0 < (n : Int) + 1 - 1 then 4 else 0, 0, [], (n : Int) + 1 - 1, d + 8, 0⟩, o ++ bytesS [val (q.take 8)])) (o ++ bytesS [val (q.take 8)]) m' W C) → Res (runU lim (q.drop 8) (emitU lim (⟨if 0 < (n : Int) + 1 - 1 then 4 else 0, 0, [], (n : Int) + 1 - 1, d, 0⟩, o) (val (q.take 8)))) o m (val (q.take 8) :: W) C := fun W C hW => Res.emit (u := ⟨if 0 < (n : Int) + 1 - 1 then 4 else 0, 0, [], (n : Int) + 1 - 1, d, 0⟩) hm hW
      cases n with
      | zero =>
        rw [if_neg (show ¬ q.length < 8 * (0 + 1) by omega), if_neg (show ¬ q.length < 8 * (0 + 1) by omega)]
        rw [show 8 * (0 + 1) = 8 from rfl] at hk ⊢
        have e : wordsS (q.take 8) = [val (q.take 8)] := by
          rw [wordsS_long (by rw [List.length_take]; omega), List.take_take, Nat.min_self, wordsS_short (by rw [List.length_drop, List.length_take]; omega)]
        rw [e, List.singleton_append]
        refine goal _ _ (fun m' hm' => ?_)
        rw [show (⟨if 0 < ((0 : Nat) : Int) + 1 - 1 then 4 else 0, 0, [], ((0 : Nat) : Int) + 1 - 1, d + 8, 0⟩ : U) = U.mk0 (d + 8) by rw [if_neg (by omega)]; rfl]
        exact hk (by omega) (d + 8) _ m' hm'
      | succ n =>
        have hlen : (q.drop 8).length = q.length - 8 := List.length_drop
        have en : ((n + 1 : Nat) : Int) + 1 - 1 = (n : Int) + 1 := by omega
        have e1 : (if q.length < 8 * (n + 1 + 1) then wordsS q else wordsS (q.take (8 * (n + 1 + 1))) ++ ws) = val (q.take 8) :: (if (q.drop 8).length < 8 * (n + 1) then wordsS (q.drop 8) else wordsS ((q.drop 8).take (8 * (n + 1))) ++ ws) := by
          by_cases hc : q.length < 8 * (n + 1 + 1)
          · rw [if_pos hc, if_pos (by omega), wordsS_long (by omega)]
          · rw [if_neg hc, if_neg (by omega), wordsS_long (by rw [List.length_take]; omega), List.take_take, show min 8 (8 * (n + 1 + 1)) = 8 by omega, List.drop_take, show 8 * (n + 1 + 1) - 8 = 8 * (n + 1) by omega, List.cons_append]
        have e2 : (if q.length < 8 * (n + 1 + 1) then true else cut) = (if (q.drop 8).length < 8 * (n + 1) then true else cut) := by
          by_cases hc : q.length < 8 * (n + 1 + 1)
          · rw [if_pos hc, if_pos (by omega)]
          · rw [if_neg hc, if_neg (by omega)]
        rw [e1, e2]
        refine goal _ _ (fun m' hm' => ?_)
        rw [en, if_pos (by omega)]
        refine res_literal n (q.drop 8) (d + 8) _ m' (fun hq => ?_) hm'
        rw [List.drop_drop, show 8 + 8 * (n + 1) = 8 * (n + 1 + 1) by omega]
        exact hk (by omega)
theorem run_res {lim : Int} : ∀ (n : Nat) (p : List Int), p.length ≤ n → IsB p → ∀ (d : Int) (o : List Int) (m : Nat), Fit lim d m → Res (runU lim p (U.mk0 d, o)) o m (decS p).1 (decS p).2 := by
  intro n
  induction n with
  | zero =>
    intro p hn hB d o m hm
    obtain rfl : p = [] := List.length_eq_zero_iff.mp (by omega)
    exact ⟨by simp [runU, decS_nil, bytesS], by simp [runU, closeU, decS_nil, U.mk0]⟩
  | succ n ih =>
    intro p hn hB d o m hm
    cases p with
    | nil => exact ⟨by simp [runU, decS_nil, bytesS], by simp [runU, closeU, decS_nil, U.mk0]⟩
    | cons t q =>
      have hB' : IsB q := fun x hx => hB x (List.mem_cons_of_mem _ hx)
      have ht := hB t List.mem_cons_self
      simp only [List.length_cons] at hn
      rw [runU, if_pos (show (U.mk0 d, o).1.err = 0 from rfl)]
      have e0 : stepU lim (U.mk0 d, o) t = ((⟨if t = 0 then 2 else 1, t, [], 0, d, 0⟩ : U), o) := by unfold stepU; rw [if_pos (show (U.mk0 d, o).1.st = 0 from rfl)]; rfl
      rw [e0]
      by_cases h0 : t = 0
      · subst h0
        rw [if_pos rfl]
        cases q with
        | nil => exact ⟨by simp [runU, decS_zero_end, bytesS], by simp [runU, closeU, decS_zero_end]⟩
        | cons c q =>
          rw [runU, if_pos rfl, decS_zero]
          have e1 : stepU lim ((⟨2, 0, [], 0, d, 0⟩ : U), o) c = zerosU lim (c.toNat + 1) (U.mk0 d, o) := by unfold stepU; rw [if_neg (by simp), if_neg (by simp), if_pos rfl]; rfl
          rw [e1]
          simp only [List.length_cons] at hn
          exact res_zeros (ih q (by omega) (fun x hx => hB' x (List.mem_cons_of_mem _ hx))) (c.toNat + 1) d o m hm
      · rw [if_neg h0]
        have hp := ones_pos ht.1 ht.2 h0
        obtain ⟨h1, h2⟩ := run_bytes lim q ⟨1, t, [], 0, d, 0⟩ o rfl rfl (by simpa using hp)
        by_cases hs : q.length < onesS t
        · rw [h1 (by simpa using hs), decS_short h0 hs]
          exact ⟨by simp [bytesS], by simp [closeU]⟩
        · rw [h2 (by simp only [List.length_nil]; omega)]
          simp only [List.length_nil, Nat.sub_zero, List.nil_append]
          have ex : expS t (q.take (onesS t)) = expS t q := congrArg val (expF_take 8 t q _ (Nat.le_refl _))
          unfold finishU
          simp only [ex]
          have hl : (q.drop (onesS t)).length = q.length - onesS t := List.length_drop
          by_cases h255 : t = 255
          · subst h255
            rw [if_pos rfl, show onesS 255 = 8 from onesS_255]
            rw [show onesS 255 = 8 from onesS_255] at hl hs
            have goal : ∀ W C, (∀ m', Fit lim (d + 8) m' → Res (runU lim (q.drop 8) (⟨3, 0, [], 0, d + 8, 0⟩, o ++ bytesS [expS 255 q])) (o ++ bytesS [expS 255 q]) m' W C) → Res (runU lim (q.drop 8) (emitU lim (⟨3, 0, [], 0, d, 0⟩, o) (expS 255 q))) o m (expS 255 q :: W) C := fun W C hW => Res.emit (u := ⟨3, 0, [], 0, d, 0⟩) hm hW
            by_cases h9 : q.length = 8
            · rw [decS_full_end h9]
              refine goal _ _ (fun m' hm' => ?_)
              rw [List.drop_of_length_le (by omega)]
              exact ⟨by simp [runU, bytesS], by simp [runU, closeU]⟩
            · obtain ⟨c, r, hd⟩ : ∃ c r, q.drop 8 = c :: r := by
                cases hq : q.drop 8 with
                | nil => rw [hq] at hl; simp at hl; omega
                | cons c r => exact ⟨c, r, rfl⟩
              have hq : q = q.take 8 ++ c :: r := by rw [← hd, List.take_append_drop]
              have h8 : (q.take 8).length = 8 := by rw [List.length_take]; omega
              have hx : expS 255 (q.take 8) = expS 255 q := by rw [expS_255' (by omega), expS_255' (by omega), List.take_take, Nat.min_self]
              have hD := decS_full (c := c) (q := r) h8
              rw [← hq, hx] at hD
              have hr : r = q.drop 9 := by rw [show 9 = 8 + 1 from rfl, ← List.drop_drop, hd]; rfl
              have hBr : IsB r := by rw [hr]; exact hB'.drop 9
              have hrl : r.length + 9 = q.length := by rw [hd, List.length_cons] at hl; omega
              have hc : 0 ≤ c ∧ c < 256 := hB' c (by rw [hq]; simp)
              have step3 : ∀ (d' : Int) (o' : List Int), runU lim (c :: r) (⟨3, 0, [], 0, d', 0⟩, o') = runU lim r (⟨if 0 < c then 4 else 0, 0, [], c, d', 0⟩, o') := by
                intro d' o'
                rw [runU, if_pos rfl]
                have e1 : stepU lim ((⟨3, 0, [], 0, d', 0⟩ : U), o') c = ((⟨if 0 < c then 4 else 0, 0, [], c, d', 0⟩ : U), o') := by unfold stepU; rw [if_neg (by simp), if_neg (by simp), if_neg (by simp), if_pos rfl]
                rw [e1]
              by_cases hz : c = 0
              · subst hz
                rw [if_neg (by omega)] at hD
                simp only [Int.toNat_zero, Nat.mul_zero, List.take_zero, List.drop_zero, wordsS_short (show ([] : List Int).length < 8 by simp), List.nil_append] at hD
                rw [hD]
                refine goal _ _ (fun m' hm' => ?_)
                rw [hd, step3, if_neg (by omega)]
                exact ih r (by omega) hBr (d + 8) _ m' hm'
              · obtain ⟨k, hk⟩ : ∃ k : Nat, c = (k : Int) + 1 := ⟨c.toNat - 1, by omega⟩
                have hkn : c.toNat = k + 1 := by omega
                have hlit := res_literal (lim := lim) (ws := (decS (r.drop (8 * (k + 1)))).1) (cut := (decS (r.drop (8 * (k + 1)))).2) k r
                rw [hkn] at hD
                have eD : decS (255 :: q) = (expS 255 q :: (if r.length < 8 * (k + 1) then wordsS r else wordsS (r.take (8 * (k + 1))) ++ (decS (r.drop (8 * (k + 1)))).1), if r.length < 8 * (k + 1) then true else (decS (r.drop (8 * (k + 1)))).2) := by
                  rw [hD]
                  by_cases hcut : r.length < 8 * (k + 1)
                  · rw [if_pos hcut, if_pos hcut, if_pos hcut]
                  · rw [if_neg hcut, if_neg hcut, if_neg hcut]
                rw [eD]
                refine goal _ _ (fun m' hm' => ?_)
                rw [hd, step3, if_pos (by omega), hk]
                exact hlit (d + 8) _ m' (fun hq8 d2 o2 m2 hm2 => ih _ (by rw [List.length_drop]; omega) (hBr.drop _) d2 o2 m2 hm2) hm'
          · rw [if_neg h255, decS_tag h0 h255 (by omega)]
            refine Res.emit (u := ⟨0, 0, [], 0, d, 0⟩) hm (fun m' hm' => ?_)
            exact ih _ (by omega) (hB'.drop _) (d + 8) _ m' hm'
def limU (a : Int) : Int := min (max a 0) 1152921504606846976
theorem run_start {p : List Int} (hB : IsB p) (a : Int) (hlen : (decS p).1.length ≤ 1000000000) :
    (runU (limU a) p (U.mk0 0, [])).2 = bytesS ((decS p).1.take (max a 0 / 8).toNat) ∧ closeU (runU (limU a) p (U.mk0 0, [])).1 = (if (max a 0 / 8).toNat < (decS p).1.length then 11 else if (decS p).2 = true then 10 else 0) := by
  have hf : Fit (limU a) 0 (limU a / 8).toNat := by unfold Fit limU; omega
  obtain ⟨h1, h2⟩ := run_res p.length p (Nat.le_refl _) hB 0 [] _ hf
  rw [List.nil_append] at h1
  by_cases hc : (max a 0 / 8).toNat < (decS p).1.length
  · have e : (limU a / 8).toNat = (max a 0 / 8).toNat := by unfold limU; omega
    rw [e] at h1 h2
    exact ⟨h1, h2⟩
  · have e : ¬ (limU a / 8).toNat < (decS p).1.length := by unfold limU; omega
    rw [if_neg e] at h2
    rw [if_neg hc]
    rw [List.take_of_length_le (by omega)] at h1
    rw [List.take_of_length_le (by omega)]
    exact ⟨h1, h2⟩
def validB (u : U) : Bool := decide (0 ≤ u.done ∧ u.done ≤ 1152921504606846976 ∧ u.done % 8 = 0 ∧ 0 ≤ u.st ∧ u.st ≤ 4 ∧ (u.err = 0 ∨ u.err = 11) ∧ (u.tag = 0 ↔ u.st ≠ 1) ∧ 0 ≤ u.left ∧ u.left ≤ 255 ∧ (0 < u.left ↔ u.st = 4) ∧ u.word.length < roomU u ∧ (u.err = 0 ∨ u.st = 0))
theorem validB_V {u : U} (h : validB u = true) (t0 : 0 ≤ u.tag) (t1 : u.tag < 256) (hB : IsB u.word) : VU u := by
  obtain ⟨h1, h2, h3, h4, h5, h6, h7, h8, h9, h10, h11, h12⟩ := of_decide_eq_true h
  exact ⟨h1, h2, h3, h4, h5, h6, ⟨fun e => Classical.byContradiction fun e' => e (h7.mpr e'), fun e e' => h7.mp e' e⟩, h8, h9, h10, h11, fun e => h12.resolve_left e, t0, t1, hB⟩
theorem V_validB {u : U} (h : VU u) : validB u = true :=
  decide_eq_true ⟨h.d0, h.d1, h.d8, h.s0, h.s1, h.e, ⟨fun e e' => (h.t.mpr e') e, fun e => Classical.byContradiction fun e' => e (h.t.mp e')⟩, h.l0, h.l1, h.ls, h.w, Classical.or_iff_not_imp_left.mpr h.es⟩
end Go.Proofs.YtpffoecblcfndaaDoor.Us
