/- The decoder of package unpack, part 6: Prefix is the plain decoding up to the limit. -/
import Derived.Test.YtcdkgccmmfjnhaaDoorDec5
import Derived.Test.YtcdkgccmmfjnhaaDoorM6
namespace Go.Proofs.YtcdkgccmmfjnhaaDoor.Un
open Go Go.RowKit Go.Proofs.YtcdkgccmmfjnhaaDoor Go.Proofs.YtcdkgccmmfjnhaaDoor.M Go.Proofs.YtcdkgccmmfjnhaaDoorW.PrintWords Go.Proofs.YtcdkgccmmfjnhaaDoorW.PrintLast Go.Proofs.YtcdkgccmmfjnhaaDoorW.PrintMore
set_option linter.unusedVariables false
set_option linter.unusedSimpArgs false

theorem expF_255 : ∀ b : List Int, 8 ≤ b.length → expF 8 255 b = b.take 8
  | a0 :: a1 :: a2 :: a3 :: a4 :: a5 :: a6 :: a7 :: r, _ => rfl
theorem expS_255 {b : List Int} (h : 8 ≤ b.length) : expS 255 b = val (b.take 8) := by rw [expS, expF_255 b h]
theorem expS_0 (b : List Int) : expS 0 b = 0 := by rfl

/-- m more words fit. -/
def Room (lim : Int) (out : List Int) (m : Nat) : Prop := (out.length : Int) + 8 * m ≤ lim ∧ lim < (out.length : Int) + 8 * m + 8
theorem emit_0 {lim : Int} {out : List Int} (h : Room lim out 0) (x : Int) : emitS lim out x = (out, 1) := by
  unfold emitS; obtain ⟨h0, h1⟩ := h; rw [if_pos (by omega)]
theorem emit_s {lim : Int} {out : List Int} {m : Nat} (h : Room lim out (m + 1)) (x : Int) : emitS lim out x = (out ++ bytesS [x], 0) := by
  unfold emitS; obtain ⟨h0, h1⟩ := h; rw [if_neg (by omega)]
theorem Room.step {lim : Int} {out ws : List Int} {m : Nat} (h : Room lim out m) (hw : ws.length ≤ m) : Room lim (out ++ bytesS ws) (m - ws.length) := by
  obtain ⟨h0, h1⟩ := h
  unfold Room
  rw [List.length_append, bytesS_length]
  constructor <;> omega

/-- What a step comes to: the words ws, and what is left of the input (none: it ended too early). -/
def Ok (r : List Int × List Int × Nat) (m : Nat) (out ws : List Int) (rest : Option (List Int)) : Prop :=
  (m < ws.length → r.2 = (out ++ bytesS (ws.take m), 1)) ∧ (ws.length ≤ m → r.2.1 = out ++ bytesS ws ∧ match rest with | some q => r.1 = q ∧ r.2.2 = 0 | none => r.2.2 = 2)
theorem Ok.nil (m : Nat) (inn out : List Int) : Ok (inn, out, 0) m out [] (some inn) := ⟨fun h => by simp at h, fun _ => ⟨by simp [bytesS], rfl, rfl⟩⟩
theorem Ok.cut (m : Nat) (inn out : List Int) : Ok (inn, out, 2) m out [] none := ⟨fun h => by simp at h, fun _ => ⟨by simp [bytesS], rfl⟩⟩
theorem Ok.cons {lim x : Int} {m : Nat} {inn1 out ws : List Int} {rest : Option (List Int)} {F : List Int → List Int → List Int × List Int × Nat} {r : List Int × List Int × Nat} (hr : r = (inn1, emitS lim out x)) (h : Room lim out m)
    (hF : ∀ m' out', Room lim out' m' → Ok (F inn1 out') m' out' ws rest) : Ok (if r.2.2 = 0 then F r.1 r.2.1 else r) m out (x :: ws) rest := by
  subst hr
  cases m with
  | zero =>
    rw [emit_0 h, if_neg (by simp)]
    exact ⟨fun _ => by simp [bytesS], fun h => by simp at h⟩
  | succ m =>
    have h' : Room lim (out ++ bytesS [x]) m := by have := h.step (ws := [x]) (by simp); simpa using this
    rw [emit_s h, if_pos rfl]
    obtain ⟨o1, o2⟩ := hF m _ h'
    refine ⟨fun hm => ?_, fun hm => ?_⟩
    · have := o1 (by simpa using hm)
      rw [this, List.take_succ_cons, List.append_assoc, ← bytesS_append]; rfl
    · obtain ⟨p1, p2⟩ := o2 (by simpa using hm)
      refine ⟨?_, p2⟩
      rw [p1, List.append_assoc, ← bytesS_append]; rfl
theorem Ok.one {lim x : Int} {m : Nat} {inn1 out : List Int} {r : List Int × List Int × Nat} (hr : r = (inn1, emitS lim out x)) (h : Room lim out m) : Ok r m out [x] (some inn1) := by
  have := Ok.cons (F := fun a b => (a, b, 0)) hr h (fun m' out' _ => Ok.nil m' inn1 out')
  have e : (if r.2.2 = 0 then (r.1, r.2.1, 0) else r) = r := by
    split
    · next e => rw [← e]
    · rfl
  rwa [e] at this

theorem next_0 (lim : Int) (inn out : List Int) : nextS lim 0 inn out = (inn, emitS lim out 0) := by
  unfold nextS
  rw [onesS_0, if_pos (Nat.zero_le _), expS_0, List.drop_zero]
theorem loop_0 (lim : Int) : ∀ (n m : Nat) (inn out : List Int), Room lim out m → Ok (loopS lim 0 n inn out) m out (List.replicate n 0) (some inn)
  | 0, m, inn, out, h => Ok.nil m inn out
  | n + 1, m, inn, out, h => by
    rw [loopS, List.replicate_succ]
    exact Ok.cons (F := loopS lim 0 n) (next_0 lim inn out) h (fun m' out' h' => loop_0 lim n m' inn out' h')
theorem next_255 (lim : Int) {inn : List Int} (h : 8 ≤ inn.length) (out : List Int) : nextS lim 255 inn out = (inn.drop 8, emitS lim out (expS 255 inn)) := by
  unfold nextS
  rw [onesS_255, if_pos h]
theorem loop_255 (lim : Int) : ∀ (n m : Nat) (q out : List Int), Room lim out m → Ok (loopS lim 255 n q out) m out (if q.length < 8 * n then wordsS q else wordsS (q.take (8 * n))) (if q.length < 8 * n then none else some (q.drop (8 * n)))
  | 0, m, q, out, h => by
    rw [if_neg (by omega), if_neg (by omega), wordsS_short (by simp)]
    exact Ok.nil m q out
  | n + 1, m, q, out, h => by
    by_cases h8 : 8 ≤ q.length
    · have e1 : (if q.length < 8 * (n + 1) then wordsS q else wordsS (q.take (8 * (n + 1)))) = expS 255 q :: (if (q.drop 8).length < 8 * n then wordsS (q.drop 8) else wordsS ((q.drop 8).take (8 * n))) := by
        by_cases hc : q.length < 8 * (n + 1)
        · rw [if_pos hc, if_pos (by rw [List.length_drop]; omega), wordsS_long h8, expS_255 h8]
        · rw [if_neg hc, if_neg (by rw [List.length_drop]; omega), wordsS_long (by rw [List.length_take]; omega), expS_255 h8, List.take_take, show min 8 (8 * (n + 1)) = 8 by omega, List.drop_take, show 8 * (n + 1) - 8 = 8 * n by omega]
      have e2 : (if q.length < 8 * (n + 1) then none else some (q.drop (8 * (n + 1)))) = (if (q.drop 8).length < 8 * n then none else some ((q.drop 8).drop (8 * n))) := by
        by_cases hc : q.length < 8 * (n + 1)
        · rw [if_pos hc, if_pos (by rw [List.length_drop]; omega)]
        · rw [if_neg hc, if_neg (by rw [List.length_drop]; omega), List.drop_drop, show 8 + 8 * n = 8 * (n + 1) by omega]
      rw [loopS, e1, e2]
      exact Ok.cons (F := loopS lim 255 n) (next_255 lim h8 out) h (fun m' out' h' => loop_255 lim n m' (q.drop 8) out' h')
    · rw [if_pos (by omega), if_pos (by omega), wordsS_short (by omega), loopS]
      have e : nextS lim 255 q out = (q, out, 2) := by unfold nextS; rw [onesS_255, if_neg h8]
      rw [e, if_neg (by simp)]
      exact Ok.cut m q out

theorem step_ok (lim : Int) {t : Int} {p out : List Int} {m : Nat} (hB : IsB (t :: p)) (h : Room lim out m) : ∃ ws rest, Ok (stepS lim (t :: p) out) m out ws rest ∧ decS (t :: p) = (match rest with | some q => (ws ++ (decS q).1, (decS q).2) | none => (ws, true)) ∧ ∀ q, rest = some q → ∃ j, q = p.drop j := by
  have hr : rd (t :: p) 0 = t := rfl
  unfold stepS
  rw [hr, List.drop_succ_cons, List.drop_zero]
  have hB' : IsB p := fun x hx => hB x (List.mem_cons_of_mem _ hx)
  have ht := hB t List.mem_cons_self
  by_cases h0 : t = 0
  · subst h0
    rw [if_pos (.inl rfl), runS, if_pos rfl]
    cases p with
    | nil => exact ⟨[], none, Ok.cut m [] out, decS_zero_end, fun q e => by cases e⟩
    | cons c q =>
      have hc := hB' c List.mem_cons_self
      rw [if_neg (by simp), show rd (c :: q) 0 = c from rfl, List.drop_succ_cons, List.drop_zero]
      exact ⟨_, some q, loop_0 lim (c.toNat + 1) m q out h, decS_zero c q, fun q' e => ⟨1, by injection e with e; rw [← e]; rfl⟩⟩
  · by_cases h1 : t = 255
    · subst h1
      rw [if_pos (.inr rfl), runS, if_neg h0]
      by_cases h8 : 8 ≤ p.length
      · rcases Nat.lt_or_ge 8 p.length with h9 | h9
        · obtain ⟨c, q, e⟩ : ∃ c q, p = p.take 8 ++ c :: q := ⟨p[8], p.drop 9, by rw [← List.drop_eq_getElem_cons (by omega), List.take_append_drop]⟩
          have hl : (p.take 8).length = 8 := by rw [List.length_take]; omega
          have hd : p.drop 8 = c :: q := by rw [e, List.drop_append_of_le_length (by omega), List.drop_of_length_le (by omega), List.nil_append]
          have hx : expS 255 p = expS 255 (p.take 8) := by rw [expS_255 h8, expS_255 (by omega), List.take_take, show min 8 8 = 8 from rfl]
          have hq : q = p.drop 9 := by rw [show 9 = 8 + 1 from rfl, ← List.drop_drop, hd]; rfl
          refine ⟨expS 255 p :: (if q.length < 8 * c.toNat then wordsS q else wordsS (q.take (8 * c.toNat))), (if q.length < 8 * c.toNat then none else some (q.drop (8 * c.toNat))), ?_, ?_, ?_⟩
          · refine Ok.cons (F := fun a b => if a.length = 0 then (a, b, 2) else loopS lim 255 (rd a 0).toNat (a.drop 1) b) (next_255 lim h8 out) h (fun m' out' h' => ?_)
            rw [hd, if_neg (by simp), show rd (c :: q) 0 = c from rfl, List.drop_succ_cons, List.drop_zero]
            exact loop_255 lim c.toNat m' q out' h'
          · have := decS_full (c := c) (q := q) hl
            rw [← e, ← hx] at this
            rw [this]
            by_cases hc : q.length < 8 * c.toNat
            · rw [if_pos hc, if_pos hc, if_pos hc]
            · rw [if_neg hc, if_neg hc, if_neg hc]; rfl
          · intro q' e'
            by_cases hc : q.length < 8 * c.toNat
            · rw [if_pos hc] at e'; cases e'
            · rw [if_neg hc] at e'; injection e' with e'; exact ⟨9 + 8 * c.toNat, by rw [← e', hq, List.drop_drop]⟩
        · refine ⟨[expS 255 p], none, ?_, ?_, fun q e => by cases e⟩
          · refine Ok.cons (F := fun a b => if a.length = 0 then (a, b, 2) else loopS lim 255 (rd a 0).toNat (a.drop 1) b) (next_255 lim h8 out) h (fun m' out' h' => ?_)
            rw [if_pos (by rw [List.length_drop]; omega)]
            exact Ok.cut _ _ _
          · exact decS_full_end (by omega)
      · have e : nextS lim 255 p out = (p, out, 2) := by unfold nextS; rw [onesS_255, if_neg h8]
        rw [e, if_neg (by simp)]
        exact ⟨[], none, Ok.cut m p out, decS_short h0 (by rw [onesS_255]; omega), fun q e => by cases e⟩
    · rw [if_neg (not_or.mpr ⟨h0, h1⟩)]
      by_cases hs : onesS t ≤ p.length
      · have e : nextS lim t p out = (p.drop (onesS t), emitS lim out (expS t p)) := by unfold nextS; rw [if_pos hs]
        exact ⟨[expS t p], some (p.drop (onesS t)), Ok.one e h, decS_tag h0 h1 hs, fun q e => ⟨_, by injection e with e; exact e.symm⟩⟩
      · have e : nextS lim t p out = (p, out, 2) := by unfold nextS; rw [if_neg hs]
        rw [e]
        exact ⟨[], none, Ok.cut m p out, decS_short h0 (by omega), fun q e => by cases e⟩

theorem deco_ok (lim : Int) : ∀ (k m : Nat) (inn out : List Int), IsB inn → inn.length ≤ k → Room lim out m →
    (decoS lim k inn out).2 = (out ++ bytesS ((decS inn).1.take m), if m < (decS inn).1.length then 1 else if (decS inn).2 = true then 2 else 0) := by
  intro k
  induction k with
  | zero =>
    intro m inn out hB hl h
    have : inn = [] := by cases inn with | nil => rfl | cons a l => simp at hl
    subst this
    simp [decoS, decS_nil, bytesS]
  | succ k ih =>
    intro m inn out hB hl h
    cases inn with
    | nil => simp [decoS, decS_nil, bytesS]
    | cons t p =>
      obtain ⟨ws, rest, ho, hd, hq⟩ := step_ok lim hB h
      rw [decoS, if_neg (by simp)]
      rcases Nat.lt_or_ge m ws.length with hm | hm
      · have e := ho.1 hm
        rw [if_neg (by rw [e]; simp), e, hd]
        cases rest with
        | none => simp [hm]
        | some q =>
          simp only [List.length_append]
          rw [List.take_append_of_le_length (by omega), if_pos (by omega)]
      · obtain ⟨e1, e2⟩ := ho.2 hm
        cases rest with
        | none =>
          simp only at e2
          rw [if_neg (by rw [e2]; simp), hd]
          simp only [if_neg (Nat.not_lt.mpr hm), if_true]
          rw [List.take_of_length_le hm, ← e1, ← e2]
        | some q =>
          obtain ⟨e2, e3⟩ := e2
          obtain ⟨j, hj⟩ := hq q rfl
          have hB' : IsB p := fun x hx => hB x (List.mem_cons_of_mem _ hx)
          rw [if_pos e3, e1, e2, ih (m - ws.length) q _ (by rw [hj]; exact hB'.drop j) (by rw [hj, List.length_drop]; simp at hl; omega) (h.step hm), hd]
          simp only [List.length_append, List.take_append]
          rw [List.take_of_length_le hm, List.append_assoc, ← bytesS_append]
          by_cases hc : m - ws.length < (decS q).1.length
          · have hc' : m < ws.length + (decS q).1.length := by omega
            rw [if_pos hc, if_pos hc']
          · have hc' : ¬ m < ws.length + (decS q).1.length := by omega
            rw [if_neg hc, if_neg hc']

/-- Prefix: the words that fit, and how it ended. -/
theorem prefS_eq {inn : List Int} (hB : IsB inn) (lim : Int) (hl : lim ≤ 9223372036854775807) : prefS inn lim = (bytesS ((decS inn).1.take (max lim 0 / 8).toNat), if (max lim 0 / 8).toNat < (decS inn).1.length then 11 else if (decS inn).2 = true then 10 else 0) := by
  have e : mx lim 0 = max lim 0 := by unfold mx; omega
  have := deco_ok (max lim 0) inn.length (max lim 0 / 8).toNat inn [] hB (Nat.le_refl _) ⟨by simp; omega, by simp; omega⟩
  unfold prefS
  rw [e, this, List.nil_append]
  by_cases h1 : (max lim 0 / 8).toNat < (decS inn).1.length
  · rw [if_pos h1, if_pos h1]; rfl
  · rw [if_neg h1, if_neg h1]
    by_cases h2 : (decS inn).2 = true
    · rw [if_pos h2, if_pos h2]; rfl
    · rw [if_neg h2, if_neg h2]; rfl

/-! ### as a printed function -/
def byteB (l : List Int) : Bool := l.all fun x => decide (0 ≤ x) && decide (x < 256)
theorem byteB_B {l : List Int} (h : byteB l = true) : IsB l := fun x hx => by
  have := List.all_eq_true.mp h x hx
  simpa using this
theorem B_byteB {l : List Int} (h : IsB l) : byteB l = true := List.all_eq_true.mpr fun x hx => by simpa using h x hx
def prefF (l : List Int) (a : Int) : Option (List Int × Int) := if (decide (l.length ≤ 1000000000) && byteB l) = true then some (prefS l a) else none
theorem prefF_calls {w : World} {A : Option Addr} {c : Nat} {l r1 : List Int} {a r2 : Int} {aL aT : Addr} (hin : Kd.C (Kd.int .u8) w A l.length l) (hc : l.length ≤ c) (h : prefF l a = some (r1, r2)) (hL : LaidU w aL aT) :
    Calls Tryd.prog 11 #[.slice A l.length c, .int .i64 a] w fun e w' => ∃ v0_ : Value, e = .returned (.tuple #[v0_, .int .i64 r2]) ∧ Kd.R (Kd.int .u8) 5 w' w.heap.size (fun _ => True) v0_ r1 ∧ Below w.heap.size w w' := by
  unfold prefF at h
  by_cases hc' : (decide (l.length ≤ 1000000000) && byteB l) = true
  · rw [if_pos hc'] at h
    rw [Bool.and_eq_true, decide_eq_true_eq] at hc'
    have h := Option.some.inj h
    rw [show r1 = (prefS l a).1 by rw [h], show r2 = (prefS l a).2 by rw [h]]
    exact prefix_calls hin hc hL (byteB_B hc'.2) hc'.1
  · rw [if_neg hc'] at h; cases h
theorem prefF_eq {l : List Int} (hB : IsB l) (hl : l.length ≤ 1000000000) (a : Int) (ha : a ≤ 9223372036854775807) : prefF l a = some (bytesS ((decS l).1.take (max a 0 / 8).toNat), if (max a 0 / 8).toNat < (decS l).1.length then 11 else if (decS l).2 = true then 10 else 0) := by
  unfold prefF
  rw [if_pos (by rw [decide_eq_true hl, B_byteB hB]; rfl), prefS_eq hB a ha]
end Go.Proofs.YtcdkgccmmfjnhaaDoor.Un
