/- Package frame in plain mathematics: the framed encoding of segments, and what parsing it answers. -/
import Derived.Test.YtcdkgccmmfjnhaaFr5
namespace Go.Proofs.Ytcdkgccmmfjnhaa.Fm
open Go Go.RowKit Go.Proofs.Ytcdkgccmmfjnhaa Go.Proofs.Ytcdkgccmmfjnhaa.M Go.Proofs.YtcdkgccmmfjnhaaW.PrintWords Go.Proofs.YtcdkgccmmfjnhaaW.PrintLast Go.Proofs.YtcdkgccmmfjnhaaW.PrintMore
set_option linter.unusedVariables false
set_option linter.unusedSimpArgs false
def ent (b : List Int) (i : Nat) : List Int := (b.drop (4 * i)).take 4
theorem num4_val {b : List Int} {i : Nat} (h : 4 * (i + 1) ≤ b.length) : num4 b i = val (ent b i) := by
  unfold ent
  rw [drop_rd (show 4 * i < b.length by omega), drop_rd (show 4 * i + 1 < b.length by omega), drop_rd (show 4 * i + 1 + 1 < b.length by omega), drop_rd (show 4 * i + 1 + 1 + 1 < b.length by omega)]
  simp only [List.take_succ_cons, List.take_zero, val]
  unfold num4
  simp only [Nat.add_assoc, Nat.reduceAdd]
  omega
theorem ent_length {b : List Int} {i : Nat} (h : 4 * (i + 1) ≤ b.length) : (ent b i).length = 4 := by unfold ent; rw [List.length_take, List.length_drop]; omega
theorem ent_B {b : List Int} (h : IsB b) (i : Nat) : IsB (ent b i) := (h.drop _).take _
theorem bs_num4 {b : List Int} (hB : IsB b) {i : Nat} (h : 4 * (i + 1) ≤ b.length) : bs 4 (num4 b i) = ent b i := by
  rw [num4_val h]
  have := bs_val (ent b i) (ent_B hB i)
  rwa [ent_length h] at this
def cat4 (L : List Int) : List Int := L.flatMap (bs 4)
theorem cat4_length (L : List Int) : (cat4 L).length = 4 * L.length := by
  induction L with
  | nil => rfl
  | cons x l ih => show (bs 4 x ++ cat4 l).length = _; rw [List.length_append, bs_length, ih, List.length_cons]; omega
theorem cat4_B (L : List Int) : IsB (cat4 L) := fun x hx => by
  obtain ⟨y, _, hy⟩ := List.mem_flatMap.mp hx
  exact bs_B 4 y x hy
theorem ent_cat4 : ∀ (L : List Int) (i : Nat) (t : List Int) (h : i < L.length), ent (cat4 L ++ t) i = bs 4 L[i]
  | [], i, t, h => by simp at h
  | x :: l, 0, t, h => by
    unfold ent
    show ((bs 4 x ++ cat4 l ++ t).drop 0).take 4 = _
    rw [List.drop_zero, List.append_assoc, List.take_append_of_le_length (by rw [bs_length]; omega), List.take_of_length_le (by rw [bs_length]; omega)]
    rfl
  | x :: l, i + 1, t, h => by
    have ih := ent_cat4 l i t (by simpa using h)
    unfold ent at ih ⊢
    show ((bs 4 x ++ cat4 l ++ t).drop (4 * (i + 1))).take 4 = _
    rw [List.append_assoc, show 4 * (i + 1) = (bs 4 x).length + 4 * i by rw [bs_length]; omega, List.drop_append, List.drop_of_length_le (by omega), List.nil_append, show (bs 4 x).length + 4 * i - (bs 4 x).length = 4 * i by omega, ih]
    rfl
theorem num4_cat4 {L t : List Int} {i : Nat} (h : i < L.length) (h0 : 0 ≤ L[i]) (h1 : L[i] < 4294967296) : num4 (cat4 L ++ t) i = L[i] := by
  rw [num4_val (by rw [List.length_append, cat4_length]; omega), ent_cat4 L i t h, val_bs, show (256 : Int) ^ 4 = 4294967296 by decide]
  omega
theorem take_cat4 {b : List Int} (hB : IsB b) : ∀ m : Nat, 4 * m ≤ b.length → b.take (4 * m) = cat4 ((List.range m).map (num4 b))
  | 0, _ => by simp [cat4]
  | m + 1, h => by
    have e : b.take (4 * (m + 1)) = b.take (4 * m) ++ ent b m := by
      unfold ent
      rw [show 4 * (m + 1) = 4 * m + 4 by omega, List.take_add]
    rw [e, take_cat4 hB m (by omega), List.range_succ, List.map_append, ← bs_num4 hB (by omega)]
    unfold cat4
    rw [List.flatMap_append]
    simp

def lensS (S : List (List Int)) : List Int := ((S.length : Int) - 1) :: S.map fun s => (s.length : Int)
def bodyS (S : List (List Int)) : List Int := S.flatMap bytesS
def serF (S : List (List Int)) : List Int := cat4 (lensS S) ++ (List.replicate (tbS S.length - 4 * (S.length + 1)) 0 ++ bodyS S)
/-- Segments that can be framed. -/
def Okay (S : List (List Int)) : Prop := ∀ s ∈ S, IsW s ∧ s.length < 536870912
theorem lensS_length (S : List (List Int)) : (lensS S).length = S.length + 1 := by simp [lensS]
theorem bodyS_cons (s : List Int) (S : List (List Int)) : bodyS (s :: S) = bytesS s ++ bodyS S := rfl
theorem bodyS_B (S : List (List Int)) : IsB (bodyS S) := fun x hx => by
  obtain ⟨y, _, hy⟩ := List.mem_flatMap.mp hx
  exact bytesS_B y x hy
theorem tbS_le (n : Nat) : 4 * (n + 1) ≤ tbS n ∧ tbS n % 8 = 0 ∧ tbS n ≤ 4 * (n + 1) + 4 := by unfold tbS; omega
theorem serF_length (S : List (List Int)) : (serF S).length = tbS S.length + (bodyS S).length := by
  have := tbS_le S.length
  unfold serF
  rw [List.length_append, List.length_append, cat4_length, lensS_length, List.length_replicate]; omega
theorem serF_B (S : List (List Int)) : IsB (serF S) := (cat4_B _).append (IsB.append (fun x hx => by rw [(List.mem_replicate.mp hx).2]; decide) (bodyS_B S))
def sumL : List (List Int) → Nat
  | [] => 0
  | s :: S => s.length + sumL S
theorem bodyS_length : ∀ S : List (List Int), (bodyS S).length = 8 * sumL S
  | [] => rfl
  | s :: S => by rw [bodyS_cons, List.length_append, bytesS_length, bodyS_length S, sumL]; omega

theorem pl_ok (l more : List Int) : ∀ (T : List (List Int)) (i : Nat) (S : List (List Int)), (∀ (j : Nat) (h : j < T.length), num4 l (i + j + 1) = ((T[j]).length : Int)) → Okay T →
    parseL l T.length i (bodyS T ++ more) S = if more.length = 0 then some (S ++ T) else none
  | [], i, S, _, _ => by
    simp only [List.length_nil, parseL, bodyS, List.flatMap_nil, List.nil_append, List.append_nil]
  | s :: T, i, S, hn, hk => by
    have h0 := hn 0 (by simp)
    simp only [List.getElem_cons_zero, Nat.add_zero] at h0
    obtain ⟨hW, hl⟩ := hk s List.mem_cons_self
    have hb := bytesS_length s
    have e8 : (8 * num4 l (i + 1)).toNat = (bytesS s).length := by rw [h0]; omega
    rw [List.length_cons, parseL, if_pos ⟨by omega, by rw [h0, bodyS_cons, List.length_append, List.length_append]; omega⟩, e8, bodyS_cons, List.append_assoc,
      List.drop_append_of_le_length (Nat.le_refl _), List.drop_length, List.nil_append, List.take_append_of_le_length (Nat.le_refl _), List.take_length, wordsS_bytesS s hW]
    rw [pl_ok l more T (i + 1) (S ++ [s]) (fun j h => by
      have := hn (j + 1) (by simpa using h)
      rw [show i + 1 + j + 1 = i + (j + 1) + 1 by omega, this]; rfl) (fun t ht => hk t (List.mem_cons_of_mem _ ht)), List.append_assoc]
    rfl
theorem pl_inv {l : List Int} (hB : IsB l) : ∀ (d i : Nat) (rest : List Int) (S S' : List (List Int)), IsB rest → parseL l d i rest S = some S' →
    ∃ T : List (List Int), S' = S ++ T ∧ T.length = d ∧ rest = bodyS T ∧ Okay T ∧ ∀ (j : Nat) (h : j < T.length), num4 l (i + j + 1) = ((T[j]).length : Int)
  | 0, i, rest, S, S', hR, h => by
    simp only [parseL] at h
    by_cases h0 : rest.length = 0
    · rw [if_pos h0] at h
      exact ⟨[], by rw [← Option.some.inj h, List.append_nil], rfl, List.length_eq_zero_iff.mp h0, fun s hs => by simp at hs, fun j hj => by simp at hj⟩
    · rw [if_neg h0] at h; cases h
  | d + 1, i, rest, S, S', hR, h => by
    simp only [parseL] at h
    by_cases hc : num4 l (i + 1) < 536870912 ∧ 8 * num4 l (i + 1) ≤ (rest.length : Int)
    · rw [if_pos hc] at h
      have hr := num4_range hB (i + 1)
      obtain ⟨m, hm⟩ : ∃ m : Nat, num4 l (i + 1) = (m : Int) := ⟨(num4 l (i + 1)).toNat, by omega⟩
      rw [hm, show (8 * (m : Int)).toNat = 8 * m by omega] at h
      obtain ⟨T, e1, e2, e3, e4, e5⟩ := pl_inv hB d (i + 1) _ _ S' (hR.drop _) h
      have htl : (rest.take (8 * m)).length = 8 * m := by rw [List.length_take]; omega
      have hwl : (wordsS (rest.take (8 * m))).length = m := by rw [wordsS_length, htl]; omega
      refine ⟨wordsS (rest.take (8 * m)) :: T, by rw [e1, List.append_assoc]; rfl, by rw [List.length_cons, e2], ?_, ?_, ?_⟩
      · rw [bodyS_cons, ← e3, bytesS_wordsS m _ htl (hR.take _), List.take_append_drop]
      · intro s hs
        rcases List.mem_cons.mp hs with rfl | hs
        · exact ⟨wordsS_W (hR.take _), by omega⟩
        · exact e4 s hs
      · intro j hj
        cases j with
        | zero => simp only [Nat.add_zero, List.getElem_cons_zero]; rw [hm, hwl]
        | succ j =>
          have := e5 j (by simpa using hj)
          rw [show i + (j + 1) + 1 = i + 1 + j + 1 by omega, this]; rfl
    · rw [if_neg hc] at h; cases h
theorem num4_ser (S : List (List Int)) (more : List Int) (hk : Okay S) (h1 : 1 ≤ S.length) (h2 : S.length ≤ 512) : num4 (serF S ++ more) 0 + 1 = (S.length : Int) ∧ ∀ (j : Nat) (h : j < S.length), num4 (serF S ++ more) (0 + j + 1) = ((S[j]).length : Int) := by
  unfold serF
  rw [List.append_assoc]
  constructor
  · rw [num4_cat4 (i := 0) (by rw [lensS_length]; omega) (by simp only [lensS, List.getElem_cons_zero]; omega) (by simp only [lensS, List.getElem_cons_zero]; omega)]
    simp only [lensS, List.getElem_cons_zero]; omega
  · intro j h
    have hl := (hk S[j] (List.getElem_mem h)).2
    have e : (lensS S)[0 + j + 1]'(by rw [lensS_length]; omega) = ((S[j]).length : Int) := by simp [lensS]
    rw [num4_cat4 (i := 0 + j + 1) (by rw [lensS_length]; omega) (by rw [e]; omega) (by rw [e]; omega), e]
theorem parse_ser {S : List (List Int)} (more : List Int) (hk : Okay S) (h1 : 1 ≤ S.length) (h2 : S.length ≤ 512) : parseS (serF S ++ more) = if more.length = 0 then (S, 0) else ([], 1) := by
  obtain ⟨n0, nj⟩ := num4_ser S more hk h1 h2
  have hl : (serF S ++ more).length = tbS S.length + (bodyS S).length + more.length := by rw [List.length_append, serF_length]
  have ht := tbS_le S.length
  unfold parseS
  rw [n0, Int.toNat_natCast, if_neg (by omega), if_neg (by omega), if_neg (by omega)]
  have hpl : (cat4 (lensS S)).length = 4 * (S.length + 1) := by rw [cat4_length, lensS_length]
  have hd : (serF S ++ more).drop (tbS S.length) = bodyS S ++ more := by
    unfold serF
    rw [← List.append_assoc, List.append_assoc, List.drop_append, List.drop_of_length_le (by rw [List.length_append, List.length_replicate, hpl]; omega), List.nil_append, List.length_append, List.length_replicate, hpl, show tbS S.length - (4 * (S.length + 1) + (tbS S.length - 4 * (S.length + 1))) = 0 by omega, List.drop_zero]
  have hp : padS (serF S ++ more) S.length = true := by
    unfold padS
    have e : ((serF S ++ more).take (tbS S.length)).drop (4 * (S.length + 1)) = List.replicate (tbS S.length - 4 * (S.length + 1)) 0 := by
      unfold serF
      rw [← List.append_assoc, List.append_assoc, List.take_append_of_le_length (by rw [List.length_append, List.length_replicate, hpl]; omega), List.take_of_length_le (by rw [List.length_append, List.length_replicate, hpl]; omega), List.drop_append, List.drop_of_length_le (by omega), List.nil_append, hpl, Nat.sub_self, List.drop_zero]
    rw [e]
    exact List.all_eq_true.mpr fun x hx => by rw [(List.mem_replicate.mp hx).2]; rfl
  rw [if_pos hp, hd, pl_ok _ more S 0 [] nj hk]
  split
  · rename_i e; split at e
    · rename_i h0; rw [if_pos h0]; injection e with e; rw [← e]; rfl
    · cases e
  · rename_i e; split at e
    · cases e
    · rename_i h0; rw [if_neg h0]
theorem parse_inv {l : List Int} (hB : IsB l) {S : List (List Int)} (h : parseS l = (S, 0)) : Okay S ∧ 1 ≤ S.length ∧ S.length ≤ 512 ∧ l = serF S := by
  unfold parseS at h
  have hr := num4_range hB 0
  by_cases g1 : l.length < 4
  · rw [if_pos g1] at h; simp at h
  rw [if_neg g1] at h
  obtain ⟨N, hN⟩ : ∃ N : Nat, N = (num4 l 0 + 1).toNat := ⟨_, rfl⟩
  rw [← hN] at h
  by_cases g2 : 512 < N
  · rw [if_pos g2] at h; simp at h
  rw [if_neg g2] at h
  by_cases g3 : l.length < tbS N
  · rw [if_pos g3] at h; simp at h
  rw [if_neg g3] at h
  by_cases g4 : padS l N = true
  · rw [if_pos g4] at h
    cases hp : parseL l N 0 (l.drop (tbS N)) [] with
    | none => rw [hp] at h; simp at h
    | some S' =>
      rw [hp] at h
      have hS : S' = S := by simpa using h
      subst hS
      obtain ⟨T, e1, e2, e3, e4, e5⟩ := pl_inv hB N 0 _ _ S' (hB.drop _) hp
      rw [List.nil_append] at e1
      subst e1
      have ht := tbS_le N
      refine ⟨e4, by omega, by omega, ?_⟩
      have hlens : (List.range (N + 1)).map (num4 l) = lensS S' := by
        rw [List.range_succ_eq_map, List.map_cons, List.map_map]
        unfold lensS
        congr 1
        · omega
        · apply List.ext_getElem (by simp [e2])
          intro j h1 h2
          simp only [List.getElem_map, List.getElem_range, Function.comp]
          have := e5 j (by simpa using h2)
          rw [Nat.zero_add] at this
          exact this
      have hc := take_cat4 hB (N + 1) (by omega)
      rw [hlens] at hc
      have hpad : (l.take (tbS N)).drop (4 * (N + 1)) = List.replicate (tbS N - 4 * (N + 1)) 0 := by
        rw [List.eq_replicate_iff]
        refine ⟨by rw [List.length_drop, List.length_take]; omega, fun x hx => ?_⟩
        have := List.all_eq_true.mp g4 x hx
        simpa using this
      unfold serF
      rw [e2, ← hc, ← hpad, ← e3]
      have e6 : l.take (4 * (N + 1)) = (l.take (tbS N)).take (4 * (N + 1)) := by rw [List.take_take, Nat.min_eq_left (by omega)]
      rw [e6, ← List.append_assoc, List.take_append_drop, List.take_append_drop]
  · rw [if_neg g4] at h; simp at h
theorem parse_err {l : List Int} : (parseS l).2 = 0 ∨ parseS l = ([], 1) := by
  unfold parseS
  repeat' split
  all_goals first | exact Or.inl rfl | exact Or.inr rfl
/-- A proper prefix is rejected. -/
theorem parse_prefix {S : List (List Int)} (hk : Okay S) (h1 : 1 ≤ S.length) (h2 : S.length ≤ 512) {c : Nat} (hc : c < (serF S).length) : parseS ((serF S).take c) = ([], 1) := by
  rcases parse_err (l := (serF S).take c) with h | h
  · obtain ⟨T, hT⟩ : ∃ T, parseS ((serF S).take c) = (T, 0) := ⟨_, Prod.ext rfl h⟩
    obtain ⟨k1, k2, k3, k4⟩ := parse_inv ((serF_B S).take c) hT
    have e : serF S = serF T ++ (serF S).drop c := by rw [← k4, List.take_append_drop]
    have p1 := parse_ser [] hk h1 h2
    rw [List.append_nil, if_pos (show ([] : List Int).length = 0 from rfl)] at p1
    have p2 := parse_ser ((serF S).drop c) k1 k2 k3
    rw [← e, p1, if_neg (by rw [List.length_drop]; omega)] at p2
    simp at p2
  · exact h
end Go.Proofs.Ytcdkgccmmfjnhaa.Fm
