/- (Halved.) The printed functions of the law GrammarKeeps hold what their plain specifications say. -/
import Derived.Test.YtnchacmhjbkmhaaDoorPGrammarKeepsx0
import Derived.Test.YtnchacmhjbkmhaaDoorPGrammarKeepsx1
import Derived.Test.YtnchacmhjbkmhaaDoorPGrammarKeepsx2
import Derived.Test.YtnchacmhjbkmhaaDoorPGrammarKeepsx3
import Derived.Test.YtnchacmhjbkmhaaDoorPGrammarKeepsx4
import Derived.Test.YtnchacmhjbkmhaaDoorPGrammarKeepsx5
import Derived.Test.YtnchacmhjbkmhaaDoorPGrammarKeepsx6
import Derived.Test.YtnchacmhjbkmhaaDoorPGrammarKeepsx7
import Derived.Test.YtnchacmhjbkmhaaDoorPGrammarKeepsx8
import Derived.Test.YtnchacmhjbkmhaaDoorM6
import Derived.Test.YtnchacmhjbkmhaaDoorDec6
import Derived.Test.YtnchacmhjbkmhaaDoorGrp2
namespace Go.Proofs.YtnchacmhjbkmhaaDoor.QGrammarKeeps
open Go Go.RowKit Go.Proofs.YtnchacmhjbkmhaaDoor Go.Proofs.YtnchacmhjbkmhaaDoor.M Go.Proofs.YtnchacmhjbkmhaaDoor.PGrammarKeeps Go.Proofs.YtnchacmhjbkmhaaDoorW.PrintWords Go.Proofs.YtnchacmhjbkmhaaDoorW.PrintLast Go.Proofs.YtnchacmhjbkmhaaDoorW.PrintMore
set_option linter.unusedVariables false
set_option linter.unusedSimpArgs false
set_option maxRecDepth 10000
theorem bitsOnes_all : ∀ n : Fin 256, bits_OnesCount8.f ((n.val : Nat) : Int) = some ((onesS ((n.val : Nat) : Int) : Nat) : Int) := by decide +kernel
theorem bitsOnes {t : Int} (h0 : 0 ≤ t) (h1 : t < 256) : bits_OnesCount8.f t = some ((onesS t : Nat) : Int) := by
 obtain ⟨n, rfl⟩ := Int.eq_ofNat_of_zero_le h0
 exact bitsOnes_all ⟨n, by omega⟩
theorem tagOnes {t : Int} (h0 : 0 ≤ t) (h1 : t < 256) : tagbyte_Ones.f t = some ((onesS t : Nat) : Int) := by
 unfold tagbyte_Ones.f
 rw [bitsOnes h0 h1]; rfl
theorem grpOf {p : List Int} (hB : IsB p) (hp : p.length ≤ 1000000) (h0 : 0 < p.length) : grammar_group.f p = some (Un.grpS p) := by
 unfold grammar_group.f Un.grpF
 rw [if_pos ⟨h0, by omega, hB⟩]
/-- The groups of p, of which the first begins at byte a and at word n. -/
def Gs : List S33 → List Int → Nat → Nat → Prop
 | [], p, _, _ => p = []
 | g :: L, p, a, n => ∃ (tt nn : Nat) (W : List Int), 0 < p.length ∧ 1 ≤ tt ∧ tt ≤ p.length ∧ 1 ≤ nn ∧ nn ≤ 256 ∧ W.length = nn ∧ decS (p.take tt) = (W, false) ∧ decS p = (W ++ (decS (p.drop tt)).1, (decS (p.drop tt)).2) ∧
   (g = ⟨rd p 0, (a : Int), ((a + tt : Nat) : Int), (n : Int), (nn : Int)⟩ ∧ Un.grpS p = (rd p 0, 0, (tt : Int), 0, (nn : Int), true)) ∧ Gs L (p.drop tt) (a + tt) (n + nn)
theorem groups_l0 (p : List Int) (hB : IsB p) (hp : p.length ≤ 1000000) : ∀ m a : Nat, p.length - a ≤ m → a ≤ p.length → ∀ (n : Nat) (acc : List S33), n ≤ 256 * a → acc.length ≤ a →
  ((decS (p.drop a)).2 = true ∧ Ev (fun k => grammar_Groups.l0 k p acc (a : Int) (n : Int)) ([], 10)) ∨
  ((decS (p.drop a)).2 = false ∧ ∃ L, Gs L (p.drop a) a n ∧ Ev (fun k => grammar_Groups.l0 k p acc (a : Int) (n : Int)) (acc ++ L, 0)) := by
 intro m
 induction m with
 | zero =>
  intro a hm ha n acc hn hacc
  have e : p.drop a = [] := List.drop_of_length_le (by omega)
  refine .inr ⟨by rw [e]; rfl, [], by rw [e]; rfl, ?_⟩
  rw [List.append_nil]
  exact Ev.step (f := fun _ => some (acc, 0)) (fun k => by simp only [grammar_Groups.l0]; rw [if_neg (by omega)]) (Ev.now _)
 | succ m ih =>
  intro a hm ha n acc hn hacc
  by_cases hq : a < p.length
  ·have hd : 0 < (p.drop a).length := by rw [List.length_drop]; omega
   have hg := grpOf (hB.drop a) (by rw [List.length_drop]; omega) hd
   rcases Un.grp_case (hB.drop a) hd with ⟨tt, nn, W, e1, e2, e3, e4, e5, e6, e7, e8⟩ | ⟨e1, e2⟩
   ·rw [List.length_drop] at e3
    have st : ∀ k, grammar_Groups.l0 (k + 1) p acc (a : Int) (n : Int) = grammar_Groups.l0 k p (acc ++ [(⟨rd (p.drop a) 0, (a : Int), ((a + tt : Nat) : Int), (n : Int), (nn : Int)⟩ : S33)]) ((a + tt : Nat) : Int) ((n + nn : Nat) : Int) := by
     intro k
     simp only [grammar_Groups.l0]
     rw [if_pos (by omega), if_pos (by omega), if_pos (by omega), Int.toNat_natCast, hg, e1]
     simp only [Option.bind_some, if_true]
     rw [if_pos (by omega), w64 (x := (a : Int) + (tt : Int)) (by omega) (by omega), w64 (x := (n : Int) + (nn : Int)) (by omega) (by omega)]
     rfl
    have hdd : (p.drop a).drop tt = p.drop (a + tt) := by rw [List.drop_drop]
    rcases ih (a + tt) (by omega) (by omega) (n + nn) (acc ++ [⟨rd (p.drop a) 0, (a : Int), ((a + tt : Nat) : Int), (n : Int), (nn : Int)⟩]) (by omega) (by rw [List.length_append, List.length_singleton]; omega) with ⟨f1, f2⟩ | ⟨f1, L, f2, f3⟩
    ·refine .inl ⟨by rw [e8, hdd]; exact f1, Ev.step st f2⟩
    ·refine .inr ⟨by rw [e8, hdd]; exact f1, _ :: L, ⟨tt, nn, W, hd, e2, by rw [List.length_drop]; exact e3, e4, e5, e6, e7, e8, ⟨rfl, e1⟩, by rw [hdd]; exact f2⟩, ?_⟩
     rw [List.append_assoc] at f3
     exact Ev.step st f3
   ·refine .inl ⟨e2, Ev.step (f := fun _ => some ([], 10)) (fun k => ?_) (Ev.now _)⟩
    simp only [grammar_Groups.l0]
    rw [if_pos (by omega), if_pos (by omega), if_pos (by omega), Int.toNat_natCast, hg]
    simp only [Option.bind_some]
    rw [if_neg (by rw [e1]; simp)]
  ·have e : p.drop a = [] := List.drop_of_length_le (by omega)
   refine .inr ⟨by rw [e]; rfl, [], by rw [e]; rfl, ?_⟩
   rw [List.append_nil]
   exact Ev.step (f := fun _ => some (acc, 0)) (fun k => by simp only [grammar_Groups.l0]; rw [if_neg (by omega)]) (Ev.now _)
theorem gramGroups {p : List Int} (hB : IsB p) (hp : p.length ≤ 1000000) :
  ((decS p).2 = true ∧ Ev (fun k => grammar_Groups.f k p) ([], 10)) ∨ ((decS p).2 = false ∧ ∃ L, Gs L p 0 0 ∧ Ev (fun k => grammar_Groups.f k p) (L, 0)) :=
 groups_l0 p hB hp p.length 0 (by omega) (by omega) 0 [] (by omega) (by simp)
theorem Gs_words : ∀ (L : List S33) (p : List Int) (a n : Nat), Gs L p a n → (L.map (fun g => g.f4.toNat)).sum = (decS p).1.length
 | [], p, _, _, h => by obtain rfl : p = [] := h; rfl
 | g :: L, p, a, n, ⟨tt, nn, W, _, _, _, _, _, h1, _, h2, ⟨h3, _⟩, h4⟩ => by
  rw [List.map_cons, List.sum_cons, Gs_words L _ _ _ h4, h2, h3, List.length_append, h1]; rfl
theorem wordMask (n : Nat) (h0 : 1 ≤ n) (h1 : n ≤ 64) : word_mask.f (n : Int) = some ((2 ^ n - 1 : Nat) : Int) := by
 unfold word_mask.f
 rw [w64 (by omega) (by omega), wu (by omega) (by omega), if_pos (by omega)]
 rw [show (18446744073709551615 : Int) = ((18446744073709551615 : Nat) : Int) from rfl, shr_nat _ _ (by omega) (by omega), show (64 - (n : Int)).toNat = 64 - n by omega, mask_eq n h1]
theorem wordInsert (W at_ n V : Nat) (hW : W < 18446744073709551616) (hV : V < 18446744073709551616) (h0 : 1 ≤ n) (h1 : at_ + n ≤ 64) : ∃ R : Nat, word_Insert.f (W : Int) (at_ : Int) (n : Int) (V : Int) = some (R : Int) ∧ R < 18446744073709551616 ∧ ∀ i, R.testBit i = insB W at_ n V i := by
 unfold word_Insert.f
 have hp := two_pow_le64 (n := n) (by omega)
 rw [wordMask n h0 (by omega), Option.bind_some, wu (by omega) (by omega), if_pos (by omega), shl_nat _ _ (by omega) (by omega), shl_nat _ _ (by omega) (by omega), Int.toNat_natCast]
 have hmb : ∀ i, ((2 ^ n - 1) <<< at_ % 18446744073709551616).testBit i = (decide (at_ ≤ i ∧ i < at_ + n)) := by
  intro i
  rw [show (18446744073709551616 : Nat) = 2 ^ 64 from rfl, Nat.testBit_mod_two_pow, Nat.testBit_shiftLeft, Nat.testBit_two_pow_sub_one]
  by_cases h : at_ ≤ i ∧ i < at_ + n
  ·rw [decide_eq_true h, decide_eq_true (show i < 64 by omega), decide_eq_true (show i ≥ at_ by omega), decide_eq_true (show i - at_ < n by omega)]; rfl
  ·rw [decide_eq_false h]
   by_cases h2 : i ≥ at_
   ·rw [decide_eq_false (show ¬ (i - at_ < n) by omega)]; simp
   ·rw [decide_eq_false h2]; simp
 generalize hM : (2 ^ n - 1) <<< at_ % 18446744073709551616 = M at *
 have hM64 : M < 2 ^ 64 := by rw [← hM]; exact Nat.mod_lt _ (by decide)
 have hvb : ∀ i, (V <<< at_ % 18446744073709551616).testBit i = (decide (i < 64) && (decide (i ≥ at_) && V.testBit (i - at_))) := by
  intro i
  rw [show (18446744073709551616 : Nat) = 2 ^ 64 from rfl, Nat.testBit_mod_two_pow, Nat.testBit_shiftLeft]
 have hX64 : V <<< at_ % 18446744073709551616 < 2 ^ 64 := Nat.mod_lt _ (by decide)
 generalize hX : V <<< at_ % 18446744073709551616 = X at *
 obtain ⟨r, hr, hr64, hrb⟩ := bits_andNot W M hW hM64
 have hA : X &&& M < 2 ^ 64 := Nat.and_lt_two_pow _ hM64
 refine ⟨r ||| (X &&& M), ?_, Nat.or_lt_two_pow hr64 hA, fun i => ?_⟩
 ·rw [hr, bits_and _ _ hX64 hM64, bits_or _ _ hr64 hA]
 ·rw [Nat.testBit_or, hrb, Nat.testBit_and, hmb, hvb, insB]
  by_cases h : at_ ≤ i ∧ i < at_ + n
  ·rw [decide_eq_true h, if_pos h, decide_eq_true (show i < 64 by omega), decide_eq_true (show i ≥ at_ by omega)]; simp
  ·rw [decide_eq_false h, if_neg h]; simp
theorem and_tag : ∀ i : Fin 8, ∀ n : Fin 256, Go.bits .and .u8 (shr .u8 ((n.val : Nat) : Int) ((i.val : Nat) : Int)) 1 = ((n.val : Nat) : Int) / 2 ^ i.val % 2 := by decide +kernel
theorem insert_byte {W i : Nat} {x : Int} (hi : i < 8) (hW : W < 2 ^ (8 * i)) (h0 : 0 ≤ x) (h1 : x < 256) : word_Insert.f (W : Int) ((8 * i : Nat) : Int) 8 x = some ((W : Int) + 2 ^ (8 * i) * x) := by
 obtain ⟨X, rfl⟩ := Int.eq_ofNat_of_zero_le h0
 have hp : (2 : Nat) ^ (8 * i) ≤ 2 ^ 56 := Nat.pow_le_pow_right (by decide) (by omega)
 have hW64 : W < 18446744073709551616 := by omega
 obtain ⟨R, hR, hR1, hR2⟩ := wordInsert W (8 * i) 8 X hW64 (by omega) (by omega) (by omega)
 have e : R = 2 ^ (8 * i) * X + W := by
  apply Nat.eq_of_testBit_eq
  intro j
  rw [hR2, Nat.testBit_two_pow_mul_add _ hW, insB]
  by_cases hj : j < 8 * i
  ·rw [if_neg (by omega), if_pos hj]
  ·rw [if_neg hj]
   by_cases hj2 : j < 8 * i + 8
   ·rw [if_pos (by omega)]
   ·rw [if_neg (by omega)]
    have h8 : (2 : Nat) ^ (8 * i) ≤ 2 ^ j := Nat.pow_le_pow_right (by decide) (by omega)
    have h9 : (2 : Nat) ^ 8 ≤ 2 ^ (j - 8 * i) := Nat.pow_le_pow_right (by decide) (by omega)
    have h10 : X < 2 ^ (j - 8 * i) := Nat.lt_of_lt_of_le (show X < 2 ^ 8 by omega) h9
    rw [Nat.testBit_lt_two_pow (Nat.lt_of_lt_of_le hW h8), Nat.testBit_lt_two_pow h10]
 rw [show ((8 : Nat) : Int) = (8 : Int) from rfl] at hR
 rw [hR, e, Int.natCast_add, Int.natCast_mul, Int.natCast_pow, Int.add_comm]; rfl
theorem tagExpand_yes (t : Nat) (b : List Int) (ht : t < 256) (hB : IsB b) (hb : b.length ≤ 140737488355328) (x7 : Int) (hn : onesS (t : Int) ≤ b.length) : ∀ d i : Nat, i + d = 8 → ∀ w kk : Int, w = val (expF i (t : Int) b) → kk = ((onesF i (t : Int) : Nat) : Int) → Ev (fun k => tagbyte_Expand.l0 k (t : Int) b x7 w kk (i : Int)) (expS (t : Int) b, x7, true) := by
 intro d
 induction d with
 | zero =>
  intro i hi w kk hw hk
  obtain rfl : i = 8 := by omega
  refine Ev.step (f := fun _ => some (w, x7, true)) (fun k => ?_) ?_
  ·simp only [tagbyte_Expand.l0]; rw [if_neg (by omega)]
  ·rw [hw]; exact Ev.now _
 | succ d ih =>
  intro i hi w kk hw hk
  have hi8 : i < 8 := by omega
  have hs := expF_snoc i (t : Int) b
  have ho := onesF_snoc i (t : Int)
  have hl := expF_length i (t : Int) b
  have hE := expF_B i (t : Int) b hB
  have hbit : Go.bits .and .u8 (shr .u8 (t : Int) (i : Int)) 1 = (t : Int) / 2 ^ i % 2 := and_tag ⟨i, hi8⟩ ⟨t, ht⟩
  have hmono : onesF (i + 1) (t : Int) ≤ onesS (t : Int) := by
   clear ih hs ho hl hE hbit hw hk
   have m : ∀ j : Nat, onesF (i + 1) (t : Int) ≤ onesF (i + 1 + j) (t : Int) := by
    intro j
    induction j with
    | zero => exact Nat.le_refl _
    | succ j ihj => have := onesF_snoc (i + 1 + j) (t : Int); rw [← Nat.add_assoc]; omega
   have := m (7 - i)
   rwa [show i + 1 + (7 - i) = 8 by omega] at this
  have hs0 : ∀ k, tagbyte_Expand.l0 (k + 1) (t : Int) b x7 w kk (i : Int) = if (t : Int) / 2 ^ i % 2 = 1 then (if 0 ≤ kk then (if kk < (b.length : Int) then ((word_Insert.f w ((8 * i : Nat) : Int) 8 (IntKind.u64.wrap (rd b kk))).bind fun t105 => (tagbyte_Expand.l0 k (t : Int) b x7 t105 (wrap64 (kk + 1)) ((i + 1 : Nat) : Int))) else none) else none) else tagbyte_Expand.l0 k (t : Int) b x7 w kk ((i + 1 : Nat) : Int) := by
   clear ih hs ho hl hE hmono
   intro k
   simp only [tagbyte_Expand.l0]
   rw [if_pos (by omega), wu (x := (i : Int)) (by omega) (by omega), if_pos (by omega), hbit, wrap_succ i (by omega), show wrap64 (8 * (i : Int)) = ((8 * i : Nat) : Int) by rw [w64 (by omega) (by omega)]; omega]
  by_cases h1 : (t : Int) / 2 ^ i % 2 = 1
  ·rw [if_pos h1] at hs
   rw [h1] at ho
   have hkk : onesF i (t : Int) < b.length := by simp at ho; omega
   have hx := rd_B hB ((onesF i (t : Int) : Nat) : Int)
   have hw0 := val_nonneg _ hE
   have hw1 := val_lt _ hE
   rw [hl, show (256 : Int) ^ i = 2 ^ (8 * i) by rw [Int.pow_mul]; rfl, ← hw] at hw1
   rw [← hw] at hw0
   obtain ⟨W, rfl⟩ := Int.eq_ofNat_of_zero_le hw0
   have hW : W < 2 ^ (8 * i) := by exact_mod_cast hw1
   clear hw0 hw1
   refine Ev.step (f := fun k => tagbyte_Expand.l0 k (t : Int) b x7 ((W : Int) + 2 ^ (8 * i) * rd b kk) (wrap64 (kk + 1)) ((i + 1 : Nat) : Int)) (fun k => ?_) (ih (i + 1) (by omega) _ _ ?_ ?_)
   ·rw [hs0, if_pos h1, if_pos (by omega), if_pos (by omega), hk, wu (x := rd b _) hx.1 (by omega), insert_byte hi8 hW hx.1 hx.2, Option.bind_some]
   ·rw [hs, val_append, ← hw, hl, hk, show (256 : Int) ^ i = 2 ^ (8 * i) by rw [Int.pow_mul]; rfl]; simp [val]
   ·rw [hk, ho, w64 (by omega) (by omega)]; simp
  ·rw [if_neg h1] at hs
   rw [show (t : Int) / 2 ^ i % 2 = 0 by omega] at ho
   refine Ev.step (f := fun k => tagbyte_Expand.l0 k (t : Int) b x7 w kk ((i + 1 : Nat) : Int)) (fun k => ?_) (ih (i + 1) (by omega) _ _ ?_ ?_)
   ·rw [hs0, if_neg h1]
   ·rw [hs, val_append, ← hw]; simp [val]
   ·rw [hk, ho]; simp
theorem tagExpand (t : Int) (b : List Int) (h0 : 0 ≤ t) (h1 : t < 256) (hB : IsB b) (hb : b.length ≤ 140737488355328) : Ev (fun k => tagbyte_Expand.f k t b) (if onesS t ≤ b.length then (expS t b, ((onesS t : Nat) : Int), true) else (0, 0, false)) := by
 obtain ⟨n, rfl⟩ := Int.eq_ofNat_of_zero_le h0
 unfold tagbyte_Expand.f
 rw [tagOnes h0 h1]
 simp only [Option.bind_some]
 by_cases h : onesS (n : Int) ≤ b.length
 ·rw [if_pos h]
  exact Ev.congr (fun k => if_neg (by omega)) (tagExpand_yes n b (by omega) hB hb _ h 8 0 rfl 0 0 rfl rfl)
 ·rw [if_neg h]
  exact Ev.congr (fun k => if_pos (by omega)) (Ev.now _)
theorem wordBytes_l1 (x5 : Int) (x11 : List Int) (x12 x13 r) : ∀ d j : Nat, j + d = 8 → ∀ x3 : List Int, x3.length + d < 140737488355328 → Ev (fun k => word_Bytes.l0 k (x3 ++ bs d (x5 / 256 ^ j)) x11 x12 (wrap64 (x13 + 1))) r → Ev (fun k => word_Bytes.l1 k x3 x5 x11 x12 x13 (j : Int)) r := by
 intro d
 induction d with
 | zero =>
  intro j hj x3 hl h
  obtain rfl : j = 8 := by omega
  refine Ev.step (fun k => ?_) h
  simp only [word_Bytes.l1]
  rw [if_neg (by omega)]
  simp [bs]
 | succ d ih =>
  intro j hj x3 hl h
  refine Ev.step (f := fun k => word_Bytes.l1 k (x3 ++ [x5 / 256 ^ j % 256]) x5 x11 x12 x13 ((j + 1 : Nat) : Int)) (fun k => ?_) (ih (j + 1) (by omega) _ (by simp; omega) ?_)
  ·simp only [word_Bytes.l1]
   rw [if_pos (by omega), if_pos (by rw [w64 (by omega) (by omega), wu (by omega) (by omega)]; omega), if_pos (by omega), shr8 _ _ (by omega), w64 (by omega) (by omega), show (j : Int) + 1 = ((j + 1 : Nat) : Int) by omega]
  ·rw [List.append_assoc, List.singleton_append, Int.pow_succ, ← Int.ediv_ediv_of_nonneg (Int.pow_nonneg (by decide))]; exact h
theorem wordBytes_l0 (x0 : List Int) (hx : x0.length * 8 < 140737488355328) : ∀ d i : Nat, i + d = x0.length → ∀ x3 : List Int, x3 = bytesS (x0.take i) → Ev (fun k => word_Bytes.l0 k x3 x0 (x0.length : Int) (i : Int)) (bytesS x0) := by
 intro d
 induction d with
 | zero =>
  intro i hi x3 h
  refine Ev.step (f := fun _ => some x3) (fun k => ?_) ?_
  ·simp only [word_Bytes.l0]; rw [if_neg (by omega)]
  ·rw [h, List.take_of_length_le (by omega)]; exact Ev.now _
 | succ d ih =>
  intro i hi x3 h
  refine Ev.step (f := fun k => word_Bytes.l1 k x3 (rd x0 (i : Int)) x0 (x0.length : Int) (i : Int) ((0 : Nat) : Int)) (fun k => ?_) (wordBytes_l1 _ x0 _ _ _ 8 0 rfl _ ?_ ?_)
  ·simp only [word_Bytes.l0]; rw [if_pos (by omega), if_pos (by omega), if_pos (by omega)]; rfl
  ·rw [h, bytesS_length, List.length_take]; omega
  ·rw [w64 (by omega) (by omega), show (i : Int) + 1 = ((i + 1 : Nat) : Int) by omega]
   refine ih (i + 1) (by omega) _ ?_
   rw [take_rd (by omega), bytesS_append, h]; simp [bytesS]
theorem wordBytes (l : List Int) (hx : l.length * 8 < 140737488355328) : Ev (fun k => word_Bytes.f k l) (bytesS l) := by
 refine Ev.congr (fun k => ?_) (wordBytes_l0 l hx l.length 0 (by omega) [] rfl)
 unfold word_Bytes.f
 rw [if_pos (by rw [w64 (by omega) (by omega)]; omega), if_pos (by rw [w64 (by omega) (by omega)]; omega)]
 rfl
theorem unPrefix {l : List Int} (hB : IsB l) (hl : l.length ≤ 1000000000) (a : Int) (ha : a ≤ 9223372036854775807) : unpack_Prefix.f l a = some (bytesS ((decS l).1.take (max a 0 / 8).toNat), if (max a 0 / 8).toNat < (decS l).1.length then 11 else if (decS l).2 = true then 10 else 0) := Un.prefF_eq hB hl a ha
theorem unPrefixE {l : List Int} (hB : IsB l) (hl : l.length ≤ 1000000000) (a : Int) (ha : a ≤ 9223372036854775807) : Ev (fun _ => unpack_Prefix.f l a) (bytesS ((decS l).1.take (max a 0 / 8).toNat), if (max a 0 / 8).toNat < (decS l).1.length then 11 else if (decS l).2 = true then 10 else 0) := by
 rw [unPrefix hB hl a ha]; exact Ev.now _
theorem unBytes {l : List Int} (hB : IsB l) (hl : l.length ≤ 1000000000) (a : Int) (ha : a ≤ 9223372036854775807) : unpack_Bytes.f l a = some (if (max a 0 / 8).toNat < (decS l).1.length then ([], 11) else if (decS l).2 = true then ([], 10) else (bytesS (decS l).1, 0)) := by
 unfold unpack_Bytes.f
 rw [unPrefix hB hl a ha]
 simp only [Option.bind_some]
 by_cases h1 : (max a 0 / 8).toNat < (decS l).1.length
 ·rw [if_pos h1, if_pos h1]; rfl
 ·rw [if_neg h1, if_neg h1]
  by_cases h2 : (decS l).2 = true
  ·rw [if_pos h2, if_pos h2]; rfl
  ·rw [if_neg h2, if_neg h2, List.take_of_length_le (by omega)]; rfl
theorem unBytesE {l : List Int} (hB : IsB l) (hl : l.length ≤ 1000000000) (a : Int) (ha : a ≤ 9223372036854775807) : Ev (fun _ => unpack_Bytes.f l a) (if (max a 0 / 8).toNat < (decS l).1.length then ([], 11) else if (decS l).2 = true then ([], 10) else (bytesS (decS l).1, 0)) := by
 rw [unBytes hB hl a ha]; exact Ev.now _
theorem strOf_inj : ∀ {a b : List Int}, IsB a → IsB b → ((strOfNums a).toList == (strOfNums b).toList) = decide (a = b) := by
 intro a b ha hb
 have key : ∀ (a b : List Int), IsB a → IsB b → (a.map fun n => UInt8.ofNat n.toNat) = (b.map fun n => UInt8.ofNat n.toNat) → a = b := by
  intro a
  induction a with
  | nil => intro b _ _ h; cases b with
   | nil => rfl
   | cons y b => simp at h
  | cons x a ih => intro b ha hb h; cases b with
   | nil => simp at h
   | cons y b =>
    simp only [List.map_cons, List.cons.injEq] at h
    have hx := ha x List.mem_cons_self
    have hy := hb y List.mem_cons_self
    have e := congrArg UInt8.toNat h.1
    rw [UInt8.toNat_ofNat', UInt8.toNat_ofNat', Nat.mod_eq_of_lt (by omega), Nat.mod_eq_of_lt (by omega)] at e
    rw [ih b (fun z hz => ha z (List.mem_cons_of_mem _ hz)) (fun z hz => hb z (List.mem_cons_of_mem _ hz)) h.2, show x = y by omega]
 by_cases h : a = b
 ·subst h; simp
 ·rw [decide_eq_false h]
  refine beq_eq_false_iff_ne.mpr fun e => h (key a b ha hb ?_)
  have e1 : ∀ x : List Int, (strOfNums x).toList = x.map fun n => UInt8.ofNat n.toNat := fun x => by
   rw [show (strOfNums x).toList = (strOfNums x).data.toList by rw [ByteArray.toList_eq]]; rfl
  rw [← e1, ← e1]; exact e
theorem bytesS_B' {l : List Int} (h : IsW l) : IsB (bytesS l) := bytesS_B l
theorem gramAccepts {p ws : List Int} (hB : IsB p) (hp : p.length ≤ 1000000) (hW : IsW ws) (hw : ws.length ≤ 1000000) : Ev (fun k => grammar_Accepts.f k p ws) (decide ((decS p).2 = false ∧ (decS p).1 = ws)) := by
 have e8 : wrap64 (8 * (ws.length : Int)) = 8 * (ws.length : Int) := w64 (by omega) (by omega)
 have hU := unBytes hB (by omega : p.length ≤ 1000000000) (8 * (ws.length : Int)) (by omega)
 have em : (max (8 * (ws.length : Int)) 0 / 8).toNat = ws.length := by omega
 rw [em] at hU
 by_cases h1 : ws.length < (decS p).1.length
 ·rw [if_pos h1] at hU
  rw [decide_eq_false (fun h => by have := congrArg List.length h.2; omega)]
  refine Ev.congr (f := fun _ => some false) (fun k => ?_) (Ev.now _)
  unfold grammar_Accepts.f
  rw [e8, hU, Option.bind_some, if_neg (by decide)]
 ·rw [if_neg h1] at hU
  by_cases h2 : (decS p).2 = true
  ·rw [if_pos h2] at hU
   rw [decide_eq_false (fun h => by rw [h2] at h; exact absurd h.1 (by decide))]
   refine Ev.congr (f := fun _ => some false) (fun k => ?_) (Ev.now _)
   unfold grammar_Accepts.f
   rw [e8, hU, Option.bind_some, if_neg (by decide)]
  ·rw [if_neg h2] at hU
   have h3 : (decS p).2 = false := by simpa using h2
   refine Ev.congr (f := fun k => (word_Bytes.f k ws).bind fun t => some ((strOfNums (bytesS (decS p).1)).toList == (strOfNums t).toList)) (fun k => ?_) (Ev.bind (wordBytes ws (by omega)) ?_)
   ·unfold grammar_Accepts.f
    rw [e8, hU, Option.bind_some, if_pos rfl]
   ·rw [strOf_inj (bytesS_B _) (bytesS_B _)]
    have e : decide (bytesS (decS p).1 = bytesS ws) = decide ((decS p).2 = false ∧ (decS p).1 = ws) := by
     refine decide_eq_decide.mpr ⟨fun h => ⟨h3, ?_⟩, fun h => by rw [h.2]⟩
     have := congrArg wordsS h
     rwa [wordsS_bytesS _ (Un.decS_W' hB), wordsS_bytesS _ hW] at this
    rw [e]
    exact Ev.now _
theorem or_val {n i : Nat} {x : Int} (hn : n < 2 ^ i) (h0 : 0 ≤ x) (h1 : x < 256) (hi : i ≤ 56) : Go.bits .or .u64 (n : Int) (shl .u64 (IntKind.u64.wrap x) (i : Int)) = (n : Int) + x * 2 ^ i := by
 obtain ⟨m, rfl⟩ := Int.eq_ofNat_of_zero_le h0
 have hp : (2 : Nat) ^ i ≤ 2 ^ 56 := Nat.pow_le_pow_right (by decide) hi
 have hm : m * 2 ^ i < 2 ^ 64 := by
  have : m * 2 ^ i ≤ 255 * 2 ^ 56 := Nat.mul_le_mul (by omega) hp
  omega
 rw [wu (by omega) (by omega), shl_nat _ _ (by omega) (by omega), Nat.shiftLeft_eq, Int.toNat_natCast, Nat.mod_eq_of_lt (by omega), bits_or _ _ (by omega) (by omega), Nat.or_comm, Nat.mul_comm, ← Nat.two_pow_add_eq_or_of_lt hn, Nat.mul_comm]
 simp; omega
theorem wordGet_step (b : List Int) (i : Nat) (hb : b.length ≤ 140737488351232) (hi : i < b.length / 8) (j : Nat) (hj : j < 8) (acc : Int) (k : Nat) : word_Get.l0 (k + 1) b (i : Int) acc (j : Int) = word_Get.l0 k b (i : Int) (Go.bits .or .u64 acc (shl .u64 (IntKind.u64.wrap (rd b ((8 * i + j : Nat) : Int))) ((8 * j : Nat) : Int))) ((j + 1 : Nat) : Int) := by
 have e0 : wrap64 (8 * (i : Int)) = 8 * (i : Int) := w64 (by omega) (by omega)
 have e1 : wrap64 (wrap64 (8 * (i : Int)) + (j : Int)) = ((8 * i + j : Nat) : Int) := by rw [e0, w64 (by omega) (by omega)]; omega
 have e2 : IntKind.u64.wrap (wrap64 (8 * (j : Int))) = ((8 * j : Nat) : Int) := by rw [w64 (by omega) (by omega), wu (by omega) (by omega)]; omega
 simp only [word_Get.l0]
 rw [if_pos (by omega), e1, if_pos (by omega), if_pos (by omega), e2, if_pos (by omega), w64 (by omega) (by omega), show (j : Int) + 1 = ((j + 1 : Nat) : Int) by omega]
theorem chunk_rd {b : List Int} {i : Nat} (hi : i < b.length / 8) {j : Nat} (hj : j < 8) : rd (chunk b i) (j : Int) = rd b ((8 * i + j : Nat) : Int) := by
 have hl := chunk_length hi
 rw [rd_lt (by omega), rd_lt (by omega)]
 simp [chunk]
theorem wordGet_l0 (b : List Int) (hB : IsB b) (i : Nat) (hb : b.length ≤ 140737488351232) (hi : i < b.length / 8) : ∀ d j : Nat, j + d = 8 → ∀ acc : Int, acc = val ((chunk b i).take j) → Ev (fun k => word_Get.l0 k b (i : Int) acc (j : Int)) (getS b i, true) := by
 intro d
 induction d with
 | zero =>
  intro j hj acc h
  refine Ev.step (f := fun _ => some (acc, true)) (fun k => ?_) ?_
  ·simp only [word_Get.l0]; rw [if_neg (by omega)]
  ·rw [h, List.take_of_length_le (by rw [chunk_length hi]; omega)]; exact Ev.now _
 | succ d ih =>
  intro j hj acc h
  have hC := chunk_B hB i
  have hl := chunk_length hi
  have hj8 : j < 8 := by omega
  have hjl : j < (chunk b i).length := by omega
  have ht : ((chunk b i).take j).length = j := by rw [List.length_take]; omega
  refine Ev.step (wordGet_step b i hb hi j hj8 acc) (ih (j + 1) (by omega) _ ?_)
  have h56 : 8 * j ≤ 56 := by omega
  rw [take_rd hjl, val_append, ← h, ht, ← chunk_rd hi hj8]
  have hacc0 := val_nonneg _ (hC.take j)
  have hacc1 := val_lt _ (hC.take j)
  have e256 : (256 : Int) ^ j = 2 ^ (8 * j) := by rw [Int.pow_mul]; rfl
  rw [ht, e256, ← h] at hacc1
  rw [← h] at hacc0
  obtain ⟨n, rfl⟩ := Int.eq_ofNat_of_zero_le hacc0
  have hn : n < 2 ^ (8 * j) := by exact_mod_cast hacc1
  have hx := rd_B hC (j : Int)
  rw [or_val hn hx.1 hx.2 h56, e256, Int.mul_comm]
  simp [val]
theorem wordGet_yes (b : List Int) (hB : IsB b) (i : Nat) (hb : b.length ≤ 140737488351232) (hi : i < b.length / 8) : Ev (fun k => word_Get.f k b (i : Int)) (getS b i, true) := by
 refine Ev.congr (f := fun k => word_Get.j0 k b (i : Int) false) (fun k => ?_) (Ev.step (f := fun k => word_Get.l0 k b (i : Int) 0 ((0 : Nat) : Int)) (fun k => ?_) (wordGet_l0 b hB i hb hi 8 0 rfl 0 rfl))
 ·unfold word_Get.f
  rw [if_neg (by omega), w64 (by omega) (by omega), decide_eq_false (by omega)]
 ·simp only [word_Get.j0]; rfl
theorem wordGet_no (b : List Int) (i : Int) (hb : b.length ≤ 140737488351232) (hi : i < 0 ∨ (b.length : Int) / 8 ≤ i) : Ev (fun k => word_Get.f k b i) (0, false) := by
 refine Ev.congr (f := fun k => word_Get.j0 k b i true) (fun k => ?_) (Ev.step (f := fun _ => some (0, false)) (fun k => ?_) (Ev.now _))
 ·unfold word_Get.f
  by_cases h : i < 0
  ·rw [if_pos h]
  ·rw [if_neg h, w64 (by omega) (by omega), decide_eq_true (by omega)]
 ·simp only [word_Get.j0]; rfl
theorem wordWords_l0 (b : List Int) (hB : IsB b) (hb : b.length ≤ 140737488351232) : ∀ d i : Nat, i + d = b.length / 8 → ∀ acc : List Int, acc = (List.range i).map (getS b) → Ev (fun k => word_Words.l0 k b acc ((b.length / 8 : Nat) : Int) (i : Int)) (wordsS b, true) := by
 intro d
 induction d with
 | zero =>
  intro i hi acc h
  refine Ev.step (f := fun _ => some (acc, true)) (fun k => ?_) ?_
  ·simp only [word_Words.l0]; rw [if_neg (by omega)]
  ·rw [h, show i = b.length / 8 by omega]; exact Ev.now _
 | succ d ih =>
  intro i hi acc h
  have hl : acc.length = i := by rw [h]; simp
  refine Ev.step (f := fun k => (word_Get.f k b (i : Int)).bind fun t => word_Words.l0 k b (acc ++ [t.1]) ((b.length / 8 : Nat) : Int) ((i + 1 : Nat) : Int)) (fun k => ?_) (Ev.bind (wordGet_yes b hB i hb (by omega)) (ih (i + 1) (by omega) _ ?_))
  ·simp only [word_Words.l0]
   rw [if_pos (by omega), w64 (by omega) (by omega), show (i : Int) + 1 = ((i + 1 : Nat) : Int) by omega]
   simp only [if_pos (show acc.length < 17592186044416 by omega)]
  ·rw [h, List.range_succ, List.map_append]; rfl
theorem wordWords_yes (b : List Int) (hB : IsB b) (hb : b.length ≤ 140737488351232) (h8 : b.length % 8 = 0) : Ev (fun k => word_Words.f k b) (wordsS b, true) := by
 refine Ev.congr (fun k => ?_) (wordWords_l0 b hB hb (b.length / 8) 0 (by omega) [] rfl)
 unfold word_Words.f
 rw [if_pos (by omega), w64 (by omega) (by omega), if_pos (by omega), if_pos (by omega)]; rfl
theorem wordWords_no (b : List Int) (h8 : b.length % 8 ≠ 0) : Ev (fun k => word_Words.f k b) ([], false) := by
 refine Ev.congr (fun k => ?_) (Ev.now _)
 unfold word_Words.f
 rw [if_neg (by omega)]
theorem tagOf_step (x3 : Int) (l : List Int) (hl : l.length = 8) (i : Nat) (hi : i < 8) (k : Nat) : tagbyte_Of.l0 (k + 1) x3 l 8 (i : Int) = if rd l (i : Int) = 0 then tagbyte_Of.l0 k x3 l 8 ((i + 1 : Nat) : Int) else tagbyte_Of.l0 k (Go.bits .or .u8 x3 (shl .u8 1 (i : Int))) l 8 ((i + 1 : Nat) : Int) := by
 simp only [tagbyte_Of.l0]
 rw [if_pos (show (i : Int) < 8 by omega), if_pos (show 0 ≤ (i : Int) by omega), if_pos (show (i : Int) < (l.length : Int) by omega), wrap_succ i (by omega), wu (by omega) (by omega)]
 simp only [if_pos (show 0 ≤ (i : Int) by omega)]
theorem or_tag : ∀ i : Fin 8, ∀ n : Fin 256, n.val < 2 ^ i.val → Go.bits .or .u8 ((n.val : Nat) : Int) (shl .u8 1 ((i.val : Nat) : Int)) = ((n.val : Nat) : Int) + 2 ^ i.val := by decide +kernel
theorem tagOf_l0 (l : List Int) (hl : l.length = 8) : ∀ d i : Nat, i + d = 8 → ∀ x3 : Int, x3 = tagL (l.take i) → Ev (fun k => tagbyte_Of.l0 k x3 l 8 (i : Int)) (tagL l) := by
 intro d
 induction d with
 | zero =>
  intro i hi x3 h
  refine Ev.step (f := fun _ => some x3) (fun k => ?_) ?_
  ·simp only [tagbyte_Of.l0]; rw [if_neg (by omega)]
  ·rw [h, List.take_of_length_le (by omega)]; exact Ev.now _
 | succ d ih =>
  intro i hi x3 h
  have ht : l.take (i + 1) = l.take i ++ [rd l (i : Int)] := take_rd (by omega)
  have hlen : (l.take i).length = i := by rw [List.length_take]; omega
  refine Ev.step (tagOf_step x3 l hl i (by omega)) ?_
  by_cases h0 : rd l (i : Int) = 0
  ·refine Ev.congr (fun k => if_pos h0) (ih (i + 1) (by omega) _ ?_)
   rw [ht, tagL_append, h0, h]; simp [tagL]
  ·refine Ev.congr (fun k => if_neg h0) (ih (i + 1) (by omega) _ ?_)
   have h1 := tagL_nonneg (l.take i)
   have h2 := tagL_lt (l.take i)
   rw [hlen] at h2
   rw [ht, tagL_append, hlen, ← h]
   rw [← h] at h1 h2
   obtain ⟨n, rfl⟩ := Int.eq_ofNat_of_zero_le h1
   have h3 : n < 2 ^ i := by exact_mod_cast h2
   have h4 : (2 : Nat) ^ i ≤ 2 ^ 8 := Nat.pow_le_pow_right (by decide) (by omega)
   have := or_tag ⟨i, by omega⟩ ⟨n, Nat.lt_of_lt_of_le h3 h4⟩ h3
   rw [this]; simp [tagL, h0]
theorem tagOf (w : Int) : Ev (fun k => tagbyte_Of.f k w) (ofS w) := by
 unfold tagbyte_Of.f
 refine Ev.bind (wordBytes [w] (by simp)) ?_
 have e : bytesS [w] = bs 8 w := by simp [bytesS]
 rw [e, bs_length]
 exact tagOf_l0 _ (bs_length 8 w) 8 0 rfl 0 rfl
theorem tagBytes_l0 (l : List Int) (hl : l.length = 8) : ∀ d i : Nat, i + d = 8 → ∀ x3 : List Int, x3 = nz (l.take i) → Ev (fun k => tagbyte_Bytes.l0 k x3 l 8 (i : Int)) (nz l) := by
 intro d
 induction d with
 | zero =>
  intro i hi x3 h
  refine Ev.step (f := fun _ => some x3) (fun k => ?_) ?_
  ·simp only [tagbyte_Bytes.l0]; rw [if_neg (by omega)]
  ·rw [h, List.take_of_length_le (by omega)]; exact Ev.now _
 | succ d ih =>
  intro i hi x3 h
  have hx : x3.length ≤ 8 := by rw [h]; have := nz_length_le (l.take i); rw [List.length_take] at this; omega
  have ht : l.take (i + 1) = l.take i ++ [rd l (i : Int)] := take_rd (by omega)
  refine Ev.step (f := fun k => if rd l (i : Int) = 0 then tagbyte_Bytes.l0 k x3 l 8 ((i + 1 : Nat) : Int) else tagbyte_Bytes.l0 k (x3 ++ [rd l (i : Int)]) l 8 ((i + 1 : Nat) : Int)) (fun k => ?_) ?_
  ·simp only [tagbyte_Bytes.l0]
   rw [if_pos (show (i : Int) < 8 by omega), if_pos (show 0 ≤ (i : Int) by omega), if_pos (show (i : Int) < (l.length : Int) by omega), wrap_succ i (by omega)]
   simp only [if_pos (show x3.length < 140737488355328 by omega)]
  ·by_cases h0 : rd l (i : Int) = 0
   ·refine Ev.congr (fun k => if_pos h0) (ih (i + 1) (by omega) _ ?_)
    rw [ht, nz_append, nz_cons, if_pos h0, nz_nil, List.append_nil, h]
   ·refine Ev.congr (fun k => if_neg h0) (ih (i + 1) (by omega) _ ?_)
    rw [ht, nz_append, nz_cons, if_neg h0, nz_nil, h]
theorem tagBytes (w : Int) : Ev (fun k => tagbyte_Bytes.f k w) (nzS w) := by
 unfold tagbyte_Bytes.f
 refine Ev.bind (wordBytes [w] (by simp)) ?_
 have e : bytesS [w] = bs 8 w := by simp [bytesS]
 rw [e, bs_length]
 exact tagBytes_l0 _ (bs_length 8 w) 8 0 rfl [] rfl
theorem tagDense (w : Int) : Ev (fun k => tagbyte_Dense.f k w) (decide (7 ≤ (nzS w).length)) := by
 unfold tagbyte_Dense.f
 refine Ev.bind (tagOf w) ?_
 have h := ofS_range w
 rw [tagOnes h.1 h.2, ones_ofS, Option.bind_some]
 have e : decide (((nzS w).length : Int) ≥ 7) = decide (7 ≤ (nzS w).length) := by simp only [decide_eq_decide]; omega
 rw [e]; exact Ev.now _
theorem packZ (w : Int) : pack_Words_1.f w = some (isZ w) := rfl
theorem packRunZ_l0 (l : List Int) (hl : l.length ≤ 140737488351232) : ∀ d i : Nat, i + d = 255 → i ≤ l.length → Ev (fun k => pack_run_with_pack_Words_1.l0 k l (i : Int)) (((i + runP isZ d (l.drop i) : Nat)) : Int) := by
 intro d
 induction d with
 | zero =>
  intro i hi hil
  refine Ev.step (f := fun _ => some (i : Int)) (fun k => ?_) ?_
  ·simp only [pack_run_with_pack_Words_1.l0]
   by_cases h : (i : Int) < (l.length : Int)
   ·rw [if_pos h, if_neg (by omega)]
   ·rw [if_neg h]
  ·simpa [runP] using Ev.now (i : Int)
 | succ d ih =>
  intro i hi hil
  by_cases h : i < l.length
  ·rw [drop_rd h]
   have hcall : Ev (fun _ => pack_Words_1.f (rd l (i : Int))) (isZ (rd l (i : Int))) := Ev.now _
   refine Ev.step (f := fun k => (pack_Words_1.f (rd l (i : Int))).bind fun t => if t = true then pack_run_with_pack_Words_1.l0 k l ((i + 1 : Nat) : Int) else some (i : Int)) (fun k => ?_) (Ev.bind hcall ?_)
   ·simp only [pack_run_with_pack_Words_1.l0]
    rw [if_pos (show (i : Int) < (l.length : Int) by omega), if_pos (show (i : Int) < 255 by omega), if_pos (show 0 ≤ (i : Int) by omega), wrap_succ i (by omega)]
   ·simp only [runP]
    by_cases hz : isZ (rd l (i : Int)) = true
    ·rw [if_pos hz]
     have := ih (i + 1) (by omega) (by omega)
     rw [show i + 1 + runP isZ d (l.drop (i + 1)) = i + (runP isZ d (l.drop (i + 1)) + 1) by omega] at this
     exact Ev.congr (fun k => if_pos hz) this
    ·rw [if_neg hz]
     exact Ev.congr (fun k => if_neg hz) (Ev.now _)
  ·have e : l.drop i = [] := List.drop_of_length_le (by omega)
   refine Ev.step (f := fun _ => some (i : Int)) (fun k => ?_) ?_
   ·simp only [pack_run_with_pack_Words_1.l0]; rw [if_neg (by omega)]
   ·rw [e]; simpa [runP] using Ev.now (i : Int)
theorem packRunZ (l : List Int) (hl : l.length ≤ 140737488351232) : Ev (fun k => pack_run_with_pack_Words_1.f k l) ((runP isZ 255 l : Nat) : Int) := by
 have := packRunZ_l0 l hl 255 0 (by omega) (by omega)
 rw [List.drop_zero, Nat.zero_add] at this
 exact this
theorem packRunD_l0 (l : List Int) (hl : l.length ≤ 140737488351232) : ∀ d i : Nat, i + d = 255 → i ≤ l.length → Ev (fun k => pack_run_with_tagbyte_Dense.l0 k l (i : Int)) (((i + runP denseS d (l.drop i) : Nat)) : Int) := by
 intro d
 induction d with
 | zero =>
  intro i hi hil
  refine Ev.step (f := fun _ => some (i : Int)) (fun k => ?_) ?_
  ·simp only [pack_run_with_tagbyte_Dense.l0]
   by_cases h : (i : Int) < (l.length : Int)
   ·rw [if_pos h, if_neg (by omega)]
   ·rw [if_neg h]
  ·simpa [runP] using Ev.now (i : Int)
 | succ d ih =>
  intro i hi hil
  by_cases h : i < l.length
  ·rw [drop_rd h]
   have hcall : Ev (fun k => tagbyte_Dense.f k (rd l (i : Int))) (denseS (rd l (i : Int))) := tagDense _
   refine Ev.step (f := fun k => (tagbyte_Dense.f k (rd l (i : Int))).bind fun t => if t = true then pack_run_with_tagbyte_Dense.l0 k l ((i + 1 : Nat) : Int) else some (i : Int)) (fun k => ?_) (Ev.bind hcall ?_)
   ·simp only [pack_run_with_tagbyte_Dense.l0]
    rw [if_pos (show (i : Int) < (l.length : Int) by omega), if_pos (show (i : Int) < 255 by omega), if_pos (show 0 ≤ (i : Int) by omega), wrap_succ i (by omega)]
   ·simp only [runP]
    by_cases hz : denseS (rd l (i : Int)) = true
    ·rw [if_pos hz]
     have := ih (i + 1) (by omega) (by omega)
     rw [show i + 1 + runP denseS d (l.drop (i + 1)) = i + (runP denseS d (l.drop (i + 1)) + 1) by omega] at this
     exact Ev.congr (fun k => if_pos hz) this
    ·rw [if_neg hz]
     exact Ev.congr (fun k => if_neg hz) (Ev.now _)
  ·have e : l.drop i = [] := List.drop_of_length_le (by omega)
   refine Ev.step (f := fun _ => some (i : Int)) (fun k => ?_) ?_
   ·simp only [pack_run_with_tagbyte_Dense.l0]; rw [if_neg (by omega)]
   ·rw [e]; simpa [runP] using Ev.now (i : Int)
theorem packRunD (l : List Int) (hl : l.length ≤ 140737488351232) : Ev (fun k => pack_run_with_tagbyte_Dense.f k l) ((runP denseS 255 l : Nat) : Int) := by
 have := packRunD_l0 l hl 255 0 (by omega) (by omega)
 rw [List.drop_zero, Nat.zero_add] at this
 exact this
theorem packWords_l0 : ∀ (n : Nat) (l out : List Int), l.length ≤ n → IsW l → l.length ≤ 1000000000000 → out.length + 10 * l.length ≤ 100000000000000 → Ev (fun k => pack_Words.l0 k l out) (out ++ packS l) := by
 intro n
 induction n with
 | zero =>
  intro l out h _ _ _
  have : l = [] := List.length_eq_zero_iff.mp (by omega)
  subst this
  refine Ev.step (f := fun _ => some out) (fun k => ?_) ?_
  ·simp only [pack_Words.l0]; rw [if_neg (by simp)]
  ·rw [packS_nil, List.append_nil]; exact Ev.now _
 | succ n ih =>
  intro l out h hW hl ho
  cases l with
  | nil =>
   refine Ev.step (f := fun _ => some out) (fun k => ?_) ?_
   ·simp only [pack_Words.l0]; rw [if_neg (by simp)]
   ·rw [packS_nil, List.append_nil]; exact Ev.now _
  | cons w l =>
   simp only [List.length_cons] at h hl ho
   have hw := hW w List.mem_cons_self
   have hL : IsW l := fun x hx => hW x (List.mem_cons_of_mem _ hx)
   have hz := nzS_length_le w
   have hrd : rd (w :: l) 0 = w := by simp [rd]
   refine Ev.step (fun k => by simp only [pack_Words.l0, hrd, List.drop_succ_cons, List.drop_zero]; rfl) ?_
   refine Ev.congr (fun k => if_pos (by first | (simp; done) | (simp; omega))) (Ev.congr (fun k => if_pos (by first | (simp; done) | (simp; omega))) (Ev.bind (tagOf w) ?_))
   refine Ev.congr (fun k => if_pos (by omega)) ?_
   simp only [Option.bind_some]
   refine Ev.bind (tagBytes w) (Ev.congr (fun k => if_pos (by first | (simp; done) | (simp; omega))) ?_)
   refine Ev.congr (fun k => if_pos (by first | (simp; done) | (simp; omega))) ?_
   rw [packS_cons]
   by_cases h0 : ofS w = 0
   ·rw [if_pos h0]
    have hr := runP_length isZ 255 l
    have hr2 := runP_le isZ 255 l
    refine Ev.congr (fun k => if_pos h0) (Ev.bind (packRunZ l (by omega)) ?_)
    refine Ev.congr (fun k => if_pos (by first | (simp; done) | (simp; omega))) (Ev.congr (fun k => if_pos (by omega)) (Ev.congr (fun k => if_pos (by omega)) ?_))
    rw [Int.toNat_natCast, show ((runP isZ 255 l : Nat) : Int) % 256 = ((runP isZ 255 l : Nat) : Int) by omega]
    have := ih (l.drop (runP isZ 255 l)) (out ++ [ofS w] ++ nzS w ++ [((runP isZ 255 l : Nat) : Int)]) (by rw [List.length_drop]; omega) (hL.drop _) (by rw [List.length_drop]; omega) (by simp only [List.length_append, List.length_cons, List.length_nil, List.length_drop]; omega)
    simpa [List.append_assoc] using this
   ·rw [if_neg h0]
    refine Ev.congr (fun k => if_neg h0) ?_
    by_cases h1 : ofS w = 255
    ·rw [if_pos h1]
     have hr := runP_length denseS 255 l
     have hr2 := runP_le denseS 255 l
     refine Ev.congr (fun k => if_pos h1) (Ev.bind (packRunD l (by omega)) ?_)
     refine Ev.congr (fun k => if_pos (by first | (simp; done) | (simp; omega))) (Ev.congr (fun k => if_pos (by omega)) (Ev.congr (fun k => if_pos (by omega)) ?_))
     rw [Int.toNat_natCast, show ((runP denseS 255 l : Nat) : Int) % 256 = ((runP denseS 255 l : Nat) : Int) by omega]
     have hb := bytesS_length (l.take (runP denseS 255 l))
     rw [List.length_take, Nat.min_eq_left hr] at hb
     refine Ev.bind (wordBytes _ (by rw [List.length_take]; omega)) (Ev.congr (fun k => if_pos (by first | (simp; done) | (simp; omega))) ?_)
     have := ih (l.drop (runP denseS 255 l)) (out ++ [ofS w] ++ nzS w ++ [((runP denseS 255 l : Nat) : Int)] ++ bytesS (l.take (runP denseS 255 l))) (by rw [List.length_drop]; omega) (hL.drop _) (by rw [List.length_drop]; omega) (by simp only [List.length_append, List.length_cons, List.length_nil, List.length_drop, hb]; omega)
     simpa [List.append_assoc] using this
    ·rw [if_neg h1]
     have h7 := ofS_lt8 h1
     refine Ev.congr (fun k => if_neg h1) ?_
     have := ih l (out ++ [ofS w] ++ nzS w) (by omega) hL (by omega) (by simp only [List.length_append, List.length_cons, List.length_nil]; omega)
     simpa [List.append_assoc] using this
theorem packWords (l : List Int) (hW : IsW l) (hl : l.length ≤ 1000000000) : Ev (fun k => pack_Words.f k l) (packS l) := by
 have := packWords_l0 l.length l [] (Nat.le_refl _) hW (by omega) (by first | (simp; done) | (simp; omega))
 rwa [List.nil_append] at this
theorem packBytes_yes (b : List Int) (hB : IsB b) (hb : b.length ≤ 1000000000) (h8 : b.length % 8 = 0) : Ev (fun k => pack_Bytes.f k b) (packS (wordsS b), 0) := by
 unfold pack_Bytes.f
 refine Ev.bind (wordWords_yes b hB (by omega) h8) (Ev.congr (fun k => if_pos (by simp)) (Ev.bind (packWords _ (wordsS_W hB) (by rw [wordsS_length]; omega)) (Ev.now _)))
theorem packBytes_no (b : List Int) (h8 : b.length % 8 ≠ 0) : Ev (fun k => pack_Bytes.f k b) ([], 9) := by
 unfold pack_Bytes.f
 exact Ev.bind (wordWords_no b h8) (Ev.congr (fun k => if_neg (by simp)) (Ev.now _))
theorem canon_l0 (p : List Int) (hB : IsB p) (hp : p.length ≤ 400000) (L : List S33) (hL : ∀ g ∈ L, 0 ≤ g.f4) (hn : L.length ≤ 1000000) (hs : (L.map (fun g => g.f4.toNat)).sum = (decS p).1.length) (h2 : (decS p).2 = false) (r : Bool) (hr : r = decide (p = packS (decS p).1)) :
  ∀ d i : Nat, i + d = L.length → ∀ s : Nat, s + ((L.drop i).map (fun g => g.f4.toNat)).sum = (decS p).1.length → Ev (fun k => grammar_Canonical.l0 k p (s : Int) L (L.length : Int) (i : Int)) r := by
 have hlen := Un.decS_len' hB
 intro d
 induction d with
 | zero =>
  intro i hi s hsum
  rw [List.drop_of_length_le (by omega)] at hsum
  simp only [List.map_nil, List.sum_nil, Nat.add_zero] at hsum
  have hU := unBytes hB (by omega : p.length ≤ 1000000000) (8 * (s : Int)) (by omega)
  rw [show (max (8 * (s : Int)) 0 / 8).toNat = s by omega, if_neg (by omega), if_neg (by rw [h2]; decide)] at hU
  have hP := packBytes_yes (bytesS (decS p).1) (bytesS_B _) (by rw [bytesS_length]; omega) (by rw [bytesS_length]; omega)
  rw [wordsS_bytesS _ (Un.decS_W' hB)] at hP
  refine Ev.step (f := fun k => (pack_Bytes.f k (bytesS (decS p).1)).bind fun b => some ((strOfNums p).toList == (strOfNums b.1).toList)) (fun k => ?_) (Ev.bind hP ?_)
  ·simp only [grammar_Canonical.l0]
   rw [if_neg (by omega), w64 (x := 8 * (s : Int)) (by omega) (by omega), hU]; rfl
  ·dsimp only
   rw [strOf_inj hB (packS_isB _), hr]
   exact Ev.now _
 | succ d ih =>
  intro i hi s hsum
  have hlt : i < L.length := by omega
  have hdr : L.drop i = L[i] :: L.drop (i + 1) := List.drop_eq_getElem_cons hlt
  rw [hdr, List.map_cons, List.sum_cons] at hsum
  have hg := hL L[i] (List.getElem_mem hlt)
  have hrd : rd_T33 L (i : Int) = L[i] := by simp [rd_T33, List.getD_eq_getElem?_getD, List.getElem?_eq_getElem hlt]
  refine Ev.step (fun k => ?_) (ih (i + 1) (by omega) (s + L[i].f4.toNat) (by omega))
  simp only [grammar_Canonical.l0]
  rw [if_pos (by omega), if_pos (by omega), if_pos (by omega), hrd, w64 (x := (s : Int) + L[i].f4) (by omega) (by omega), wrap_succ i (by omega), show ((s : Int) + L[i].f4) = ((s + L[i].f4.toNat : Nat) : Int) by omega]
theorem Gs_pos : ∀ (L : List S33) (p : List Int) (a n : Nat), Gs L p a n → (∀ g ∈ L, 0 ≤ g.f4) ∧ L.length ≤ p.length
 | [], p, _, _, h => ⟨fun g hg => by simp at hg, by simp⟩
 | g :: L, p, a, n, ⟨tt, nn, W, h0, h5, h6, _, _, _, _, _, ⟨h3, _⟩, h4⟩ => by
  have ih := Gs_pos L _ _ _ h4
  refine ⟨fun x hx => ?_, ?_⟩
  ·rcases List.mem_cons.mp hx with rfl | hx
   ·rw [h3]; simp only []; omega
   ·exact ih.1 x hx
  ·have := ih.2; rw [List.length_drop] at this; rw [List.length_cons]; omega
theorem gramCanonical {p : List Int} (hB : IsB p) (hp : p.length ≤ 400000) : Ev (fun k => grammar_Canonical.f k p) (decide ((decS p).2 = false ∧ p = packS (decS p).1)) := by
 unfold grammar_Canonical.f
 rcases gramGroups hB (by omega) with ⟨h1, h2⟩ | ⟨h1, L, h2, h3⟩
 ·rw [decide_eq_false (fun h => by rw [h1] at h; exact absurd h.1 (by decide))]
  exact Ev.bind h2 (Ev.congr (fun k => if_neg (by decide)) (Ev.now _))
 ·have hpos := Gs_pos L p 0 0 h2
  have hw := Gs_words L p 0 0 h2
  refine Ev.bind h3 (Ev.congr (fun k => if_pos rfl) (canon_l0 p hB hp L hpos.1 (by omega) hw h1 _ ?_ L.length 0 (by omega) 0 (by rw [List.drop_zero]; omega)))
  simp [h1]
def waysV (ws : List Int) : Int := rd (UnWays.sufF ws ws.length (UnWays.startS ws.length)) 0
theorem gramWays {ws : List Int} (hW : IsW ws) (hw : ws.length ≤ 1000000) : Ev (fun _ => grammar_Ways.f ws) (waysV ws) := by
 refine Ev.congr (fun k => ?_) (Ev.now _)
 unfold grammar_Ways.f UnWays.waysF
 rw [if_pos ⟨by omega, fun x hx => by have := hW x hx; omega⟩]; rfl
def shortV (ws : List Int) : Int := rd (UnShortest.sufF ws ws.length (UnShortest.startS ws.length)) 0
theorem gramShortest {ws : List Int} (hW : IsW ws) (hw : ws.length ≤ 1000000) : Ev (fun _ => grammar_Shortest.f ws) (shortV ws) := by
 refine Ev.congr (fun k => ?_) (Ev.now _)
 unfold grammar_Shortest.f UnShortest.shortestF
 rw [if_pos ⟨by omega, fun x hx => by have := hW x hx; omega⟩]; rfl
theorem awake23 : Ev (fun k => capnplaw23_awake.f k) true := Ev.of (fun k => capnplaw23_awake.mono k) (k := 60) (by kernel_rfl)
theorem onesF_zero (n : Nat) : onesF n 0 = 0 := by
 induction n with
 | zero => rfl
 | succ n ih => simp [onesF, ih]
theorem refOnes_l0 : ∀ d : Nat, ∀ (n t : Int), 0 ≤ t → t < 2 ^ d → 0 ≤ n → n ≤ 1000 - d → t < 256 → Ev (fun k => capnpref20_Ones.l0 k n t) (n + ((onesF d t : Nat) : Int)) := by
 intro d
 induction d with
 | zero =>
  intro n t h0 h1 hn hn1 hd
  have ht : t = 0 := by have : t < 1 := h1; omega
  subst ht
  refine Ev.step (f := fun _ => some n) (fun k => ?_) ?_
  ·simp only [capnpref20_Ones.l0]; rw [if_neg (by omega)]
  ·simpa [onesF] using Ev.now n
 | succ d ih =>
  intro n t h0 h1 hn hn1 hd
  by_cases ht : t = 0
  ·subst ht
   refine Ev.step (f := fun _ => some n) (fun k => ?_) ?_
   ·simp only [capnpref20_Ones.l0]; rw [if_neg (by omega)]
   ·rw [onesF_zero]; simpa using Ev.now n
  ·rw [Int.pow_succ] at h1
   have h2 : t / 2 < 2 ^ d := by omega
   clear h1
   refine Ev.step (f := fun k => capnpref20_Ones.l0 k (n + t % 2) (t / 2)) (fun k => ?_) ?_
   ·clear h2
    simp only [capnpref20_Ones.l0]
    rw [if_pos (by omega), Int.tmod_eq_emod_of_nonneg h0, Int.tdiv_eq_ediv_of_nonneg h0, w64 (by omega) (by omega), w64 (by omega) (by omega)]
   ·have := ih (n + t % 2) (t / 2) (by omega) h2 (by omega) (by omega) (by omega)
    have e : n + t % 2 + ((onesF d (t / 2) : Nat) : Int) = n + ((onesF (d + 1) t : Nat) : Int) := by simp only [onesF]; omega
    rwa [e] at this
theorem refOnes {t : Int} (h0 : 0 ≤ t) (h1 : t < 256) : Ev (fun k => capnpref20_Ones.f k t) ((onesS t : Nat) : Int) := by
 unfold capnpref20_Ones.f
 rw [w64 (by omega) (by omega)]
 have := refOnes_l0 8 0 t h0 h1 (by omega) (by omega) (by omega)
 rwa [Int.zero_add] at this
theorem rd_dropN (p : List Int) (a j : Nat) : rd (p.drop a) (j : Int) = rd p ((a + j : Nat) : Int) := rd_drop p a j
theorem refG_step (p : List Int) (hB : IsB p) (hp : p.length ≤ 1000000) (a n : Nat) (ha : a < p.length) (hn : n ≤ 256 * a) (acc : List S34) (hacc : acc.length ≤ a) (r : List S34 × Bool)
  (h : if (Un.grpS (p.drop a)).2.2.2.2.2 = true then Ev (fun k => capnpref23_Groups.l0 k p (acc ++ [(⟨rd (p.drop a) 0, (a : Int), (a : Int) + (Un.grpS (p.drop a)).2.2.1, (n : Int), (Un.grpS (p.drop a)).2.2.2.2.1⟩ : S34)]) ((a : Int) + (Un.grpS (p.drop a)).2.2.1) ((n : Int) + (Un.grpS (p.drop a)).2.2.2.2.1)) r else r = ([], false)) :
  Ev (fun k => capnpref23_Groups.l0 k p acc (a : Int) (n : Int)) r := by
 have hl : (p.drop a).length = p.length - a := List.length_drop
 have R0 := Aside0.mk (show rd (p.drop a) 0 = rd p (a : Int) from rd_dropN p a 0)
 have R1 := Aside0.mk (show rd (p.drop a) 1 = rd p ((a + 1 : Nat) : Int) from rd_dropN p a 1)
 have R9 := Aside0.mk (show rd (p.drop a) 9 = rd p ((a + 9 : Nat) : Int) from rd_dropN p a 9)
 have HTB := Aside0.mk (hB _ (Un.rd_mem_at ha))
 have c0 : (a : Int) < (p.length : Int) := by omega
 have c1 : 0 ≤ (a : Int) := by omega
 have wa : wrap64 ((a : Int) + 1) = ((a + 1 : Nat) : Int) := wrap_succ a (by omega)
 have hO := refOnes HTB.out.1 HTB.out.2
 have cacc : acc.length < 3518437208883 := by omega
 refine Ev.step (f := fun k => (capnpref20_Ones.f k (rd p (a : Int))).bind fun t => (if (rd p (a : Int)) = 0 then (capnpref23_Groups.j1 k p acc (wrap64 (((a + 1 : Nat) : Int) + t)) (n : Int) true (rd p (a : Int)) (a : Int) 0 (n : Int) 1) else (capnpref23_Groups.j1 k p acc (wrap64 (((a + 1 : Nat) : Int) + t)) (n : Int) ((rd p (a : Int)) == 255) (rd p (a : Int)) (a : Int) 0 (n : Int) 1))) (fun k => by simp only [capnpref23_Groups.l0]; rw [if_pos c0, if_pos c1, wa]) (Ev.bind hO ?_)
 have z0 : wrap64 (((a + 1 : Nat) : Int) + ((0 : Nat) : Int)) = ((a + 1 : Nat) : Int) := by rw [w64 (by omega) (by omega)]; omega
 have z8 : wrap64 (((a + 1 : Nat) : Int) + ((8 : Nat) : Int)) = ((a + 9 : Nat) : Int) := by rw [w64 (by omega) (by omega)]; omega
 have Z0 := Aside0.mk z0
 have Z8 := Aside0.mk z8
 have WA := Aside0.mk wa
 have zo : ∀ on : Nat, on ≤ 8 → wrap64 (((a + 1 : Nat) : Int) + (on : Int)) = (a : Int) + (1 + (on : Int)) := fun on ho => by rw [w64 (by omega) (by omega)]; omega
 clear z0 z8 wa
 unfold Un.grpS at h
 rw [R0.out, hl] at h
 clear hl
 by_cases t0 : rd p (a : Int) = 0
 ·refine Ev.congr (fun k => if_pos t0) ?_
  rw [if_pos t0] at h
  have o0 : onesS (rd p (a : Int)) = 0 := by rw [t0]; decide
  have T0 := Aside0.mk t0
  clear t0
  rw [o0, Z0.out]
  clear o0
  by_cases hs : p.length - a < 2
  ·rw [if_pos hs, if_neg (by decide)] at h
   subst h
   refine Ev.step (f := fun _ => some ([], false)) (fun k => ?_) (Ev.now _)
   simp only [capnpref23_Groups.j1]
   rw [if_pos trivial, if_pos (by omega)]
  ·rw [if_neg hs, if_pos (by rfl)] at h
   have cm := hB _ (Un.rd_mem_at (l := p) (i := a + 1) (by omega))
   have d1 : ¬ ((a + 1 : Nat) : Int) ≥ (p.length : Int) := by omega
   have d2 : 0 ≤ ((a + 1 : Nat) : Int) := by omega
   have d3 : ((a + 1 : Nat) : Int) < (p.length : Int) := by omega
   have d4 : ¬ ((a + 2 : Nat) : Int) > (p.length : Int) := by omega
   have e0 : ¬ (rd p (a : Int)) = 255 := by rw [T0.out]; decide
   have E0 := Aside0.mk e0
   clear e0
   obtain ⟨c, hc⟩ : ∃ c, c = rd p ((a + 1 : Nat) : Int) := ⟨_, rfl⟩
   have hcn : n ≤ 256 * 1000000 := by omega
   simp only [R1.out] at h
   rw [← hc] at cm h
   have HC := Aside0.mk hc
   clear hc
   have w1 : wrap64 c = c := w64 (by omega) (by omega)
   have w2 : wrap64 (1 + c) = 1 + c := w64 (by omega) (by omega)
   have w3 : wrap64 ((n : Int) + (1 + c)) = (n : Int) + (1 + c) := w64 (by omega) (by omega)
   have w4 : wrap64 (((a + 1 : Nat) : Int) + 1) = ((a + 2 : Nat) : Int) := wrap_succ (a + 1) (by omega)
   refine Ev.step (fun k => ?_) h
   simp only [capnpref23_Groups.j1]
   rw [if_pos trivial, if_neg d1, if_pos d2, if_pos d3, if_neg E0.out, ← HC.out, w1, w2, w3, w4, if_neg d4, if_pos cacc]
   rfl
 ·refine Ev.congr (fun k => if_neg t0) ?_
  rw [if_neg t0] at h
  by_cases t1 : rd p (a : Int) = 255
  ·rw [if_pos t1] at h
   have o8 : onesS (rd p (a : Int)) = 8 := by rw [t1]; decide
   have T1 := Aside0.mk t1
   rw [o8, Z8.out, show (rd p (a : Int) == 255) = true from beq_iff_eq.mpr t1]
   clear o8 t1 t0
   by_cases hs : p.length - a < 10
   ·rw [if_pos hs, if_neg (by decide)] at h
    subst h
    refine Ev.step (f := fun _ => some ([], false)) (fun k => ?_) (Ev.now _)
    simp only [capnpref23_Groups.j1]
    rw [if_pos trivial, if_pos (by omega)]
   ·rw [if_neg hs] at h
    have cm := hB _ (Un.rd_mem_at (l := p) (i := a + 9) (by omega))
    have d1 : ¬ ((a + 9 : Nat) : Int) ≥ (p.length : Int) := by omega
    have d2 : 0 ≤ ((a + 9 : Nat) : Int) := by omega
    have d3 : ((a + 9 : Nat) : Int) < (p.length : Int) := by omega
    obtain ⟨c, hc⟩ : ∃ c, c = rd p ((a + 9 : Nat) : Int) := ⟨_, rfl⟩
    have hcn : n ≤ 256 * 1000000 := by omega
    simp only [R9.out] at h
    rw [← hc] at cm h
    have HC := Aside0.mk hc
    clear hc
    have w1 : wrap64 c = c := w64 (by omega) (by omega)
    have w2 : wrap64 (1 + c) = 1 + c := w64 (by omega) (by omega)
    have w3 : wrap64 ((n : Int) + (1 + c)) = (n : Int) + (1 + c) := w64 (by omega) (by omega)
    have w4 : wrap64 (((a + 9 : Nat) : Int) + 1) = ((a + 10 : Nat) : Int) := wrap_succ (a + 9) (by omega)
    have w5 : wrap64 (1 + c - 1) = 1 + c - 1 := w64 (by omega) (by omega)
    have w6 : wrap64 (8 * (1 + c - 1)) = 8 * (1 + c - 1) := w64 (by omega) (by omega)
    have w7 : wrap64 (((a + 10 : Nat) : Int) + 8 * (1 + c - 1)) = (a : Int) + (10 + 8 * (1 + c - 1)) := by rw [w64 (by omega) (by omega)]; omega
    by_cases hq : 10 + 8 * (1 + c - 1) ≤ ((p.length - a : Nat) : Int)
    ·have d4 : ¬ (a : Int) + (10 + 8 * (1 + c - 1)) > (p.length : Int) := by omega
     rw [decide_eq_true hq, if_pos (by rfl)] at h
     refine Ev.step (fun k => ?_) h
     simp only [capnpref23_Groups.j1]
     rw [if_pos trivial, if_neg d1, if_pos d2, if_pos d3, if_pos T1.out, ← HC.out, w1, w2, w3, w4, w5, w6, w7, if_neg d4, if_pos cacc]
    ·have d4 : (a : Int) + (10 + 8 * (1 + c - 1)) > (p.length : Int) := by omega
     rw [decide_eq_false hq, if_neg (by simp)] at h
     subst h
     refine Ev.step (f := fun _ => some ([], false)) (fun k => ?_) (Ev.now _)
     simp only [capnpref23_Groups.j1]
     rw [if_pos trivial, if_neg d1, if_pos d2, if_pos d3, if_pos T1.out, ← HC.out, w1, w2, w4, w5, w6, w7, if_pos d4]
  ·rw [if_neg t1] at h
   have o8 := onesS_le (rd p (a : Int))
   obtain ⟨on, hon⟩ : ∃ on, on = onesS (rd p (a : Int)) := ⟨_, rfl⟩
   rw [← hon] at h o8
   rw [← hon, zo on o8, show (rd p (a : Int) == 255) = false from beq_eq_false_iff_ne.mpr t1]
   clear hon t0 t1
   by_cases hs : 1 + on ≤ p.length - a
   ·rw [if_pos hs, if_pos (by rfl)] at h
    have d4 : ¬ (a : Int) + (1 + (on : Int)) > (p.length : Int) := by omega
    have w3 : wrap64 ((n : Int) + 1) = (n : Int) + 1 := w64 (by omega) (by omega)
    refine Ev.step (fun k => ?_) h
    simp only [capnpref23_Groups.j1]
    rw [if_neg (by decide), if_neg d4, if_pos cacc, w3]
   ·rw [if_neg hs, if_neg (by decide)] at h
    have d4 : (a : Int) + (1 + (on : Int)) > (p.length : Int) := by omega
    subst h
    refine Ev.step (f := fun _ => some ([], false)) (fun k => ?_) (Ev.now _)
    simp only [capnpref23_Groups.j1]
    rw [if_neg (by decide), if_pos d4]
def cv34 (g : S33) : S34 := ⟨g.f0, g.f1, g.f2, g.f3, g.f4⟩
theorem refG_l0 (p : List Int) (hB : IsB p) (hp : p.length ≤ 1000000) : ∀ (L : List S33) (a n : Nat), a ≤ p.length → Gs L (p.drop a) a n → n ≤ 256 * a → ∀ acc : List S34, acc.length ≤ a → Ev (fun k => capnpref23_Groups.l0 k p acc (a : Int) (n : Int)) (acc ++ L.map cv34, true)
 | [], a, n, ha, hG, hn, acc, hacc => by
  have e : p.drop a = [] := hG
  have e1 := congrArg List.length e
  rw [List.length_drop, List.length_nil] at e1
  rw [List.map_nil, List.append_nil]
  exact Ev.step (f := fun _ => some (acc, true)) (fun k => by simp only [capnpref23_Groups.l0]; rw [if_neg (by omega)]) (Ev.now _)
 | g :: L, a, n, ha, ⟨tt, nn, W, h0, h1, h2, h3, h4, h5, h6, h7, h8, h9⟩, hn, acc, hacc => by
  have hd := h0
  rw [List.length_drop] at h0 h2
  refine refG_step p hB hp a n (by omega) hn acc hacc _ ?_
  obtain ⟨h8, e1⟩ := h8
  rw [e1, if_pos rfl]
  simp only []
  have w1 : (a : Int) + (tt : Int) = ((a + tt : Nat) : Int) := by omega
  have w2 : (n : Int) + (nn : Int) = ((n + nn : Nat) : Int) := by omega
  have ih := refG_l0 p hB hp L (a + tt) (n + nn) (by omega) (by rw [← List.drop_drop]; exact h9) (by omega) (acc ++ [cv34 g]) (by rw [List.length_append, List.length_singleton]; omega)
  rw [List.append_assoc, h8] at ih
  rw [w1, w2, h8]
  exact ih
theorem refG_cut (p : List Int) (hB : IsB p) (hp : p.length ≤ 1000000) : ∀ m a : Nat, p.length - a ≤ m → a ≤ p.length → (decS (p.drop a)).2 = true → ∀ (n : Nat) (acc : List S34), n ≤ 256 * a → acc.length ≤ a → Ev (fun k => capnpref23_Groups.l0 k p acc (a : Int) (n : Int)) ([], false) := by
 intro m
 induction m with
 | zero =>
  intro a hm ha hd
  rw [List.drop_of_length_le (by omega), decS_nil] at hd
  exact absurd hd (by decide)
 | succ m ih =>
  intro a hm ha hd n acc hn hacc
  by_cases hq : a < p.length
  ·have hd0 : 0 < (p.drop a).length := by rw [List.length_drop]; omega
   refine refG_step p hB hp a n hq hn acc hacc _ ?_
   rcases Un.grp_case (hB.drop a) hd0 with ⟨tt, nn, W, e1, e2, e3, e4, e5, e6, e7, e8⟩ | ⟨e1, e2⟩
   ·rw [List.length_drop] at e3
    rw [e1, if_pos rfl]
    simp only []
    have w1 : (a : Int) + (tt : Int) = ((a + tt : Nat) : Int) := by omega
    have w2 : (n : Int) + (nn : Int) = ((n + nn : Nat) : Int) := by omega
    rw [e8, List.drop_drop] at hd
    rw [w1, w2]
    exact ih (a + tt) (by omega) (by omega) hd (n + nn) _ (by omega) (by rw [List.length_append, List.length_singleton]; omega)
   ·rw [e1, if_neg (by decide)]
  ·rw [List.drop_of_length_le (by omega), decS_nil] at hd
   exact absurd hd (by decide)
/-- both: the groups of the code, and of the reference -/
theorem bothGroups {p : List Int} (hB : IsB p) (hp : p.length ≤ 1000000) :
  ((decS p).2 = true ∧ Ev (fun k => grammar_Groups.f k p) ([], 10) ∧ Ev (fun k => capnpref23_Groups.f k p) ([], false)) ∨
  ((decS p).2 = false ∧ ∃ L, Gs L p 0 0 ∧ Ev (fun k => grammar_Groups.f k p) (L, 0) ∧ Ev (fun k => capnpref23_Groups.f k p) (L.map cv34, true)) := by
 rcases gramGroups hB hp with ⟨h1, h2⟩ | ⟨h1, L, h2, h3⟩
 ·exact .inl ⟨h1, h2, refG_cut p hB hp p.length 0 (by omega) (by omega) h1 0 [] (by omega) (by simp)⟩
 ·exact .inr ⟨h1, L, h2, h3, refG_l0 p hB hp L 0 0 (by omega) h2 (by omega) [] (by simp)⟩
theorem refEqual_l0 (a b : List Int) (hl : a.length = b.length) (ha : a.length ≤ 140737488355328) : ∀ d i : Nat, i + d = a.length → Ev (fun k => capnpref23_Equal.l0 k a b (i : Int)) (decide (a.drop i = b.drop i)) := by
 intro d
 induction d with
 | zero =>
  intro i hi
  rw [List.drop_of_length_le (by omega), List.drop_of_length_le (by omega), decide_eq_true rfl]
  exact Ev.step (f := fun _ => some true) (fun k => by simp only [capnpref23_Equal.l0]; rw [if_neg (by omega)]) (Ev.now _)
 | succ d ih =>
  intro i hi
  have h1 : i < a.length := by omega
  have h2 : i < b.length := by omega
  have ra : rd a (i : Int) = a[i] := by simp [rd, List.getD_eq_getElem?_getD, List.getElem?_eq_getElem h1]
  have rb : rd b (i : Int) = b[i] := by simp [rd, List.getD_eq_getElem?_getD, List.getElem?_eq_getElem h2]
  by_cases h : a[i] = b[i]
  ·have e : decide (a.drop i = b.drop i) = decide (a.drop (i + 1) = b.drop (i + 1)) := by
    rw [List.drop_eq_getElem_cons h1, List.drop_eq_getElem_cons h2, h]; exact decide_eq_decide.mpr ⟨fun q => (List.cons.inj q).2, fun q => by rw [q]⟩
   rw [e]
   refine Ev.step (fun k => ?_) (ih (i + 1) (by omega))
   simp only [capnpref23_Equal.l0]
   rw [if_pos (by omega), if_pos (by omega), if_pos (by omega), ra, rb, if_pos h, wrap_succ i (by omega)]
  ·have e : decide (a.drop i = b.drop i) = false := by
    rw [List.drop_eq_getElem_cons h1, List.drop_eq_getElem_cons h2]
    exact decide_eq_false (fun q => h (List.cons.inj q).1)
   rw [e]
   refine Ev.step (f := fun _ => some false) (fun k => ?_) (Ev.now _)
   simp only [capnpref23_Equal.l0]
   rw [if_pos (by omega), if_pos (by omega), if_pos (by omega), ra, rb, if_neg h]
theorem refEqual (a b : List Int) (ha : a.length ≤ 140737488355328) : Ev (fun k => capnpref23_Equal.f k a b) (decide (a = b)) := by
 unfold capnpref23_Equal.f
 by_cases hl : a.length = b.length
 ·exact Ev.congr (fun k => if_pos (by omega)) (refEqual_l0 a b hl ha a.length 0 (by omega))
 ·rw [decide_eq_false (fun h => hl (by rw [h]))]
  exact Ev.congr (fun k => if_neg (by omega)) (Ev.now _)
theorem refSame_l0 (a b : List Int) (hl : a.length = b.length) (ha : a.length ≤ 140737488355328) : ∀ d i : Nat, i + d = a.length → Ev (fun k => capnpref01_Same.l0 k a b (i : Int)) (decide (a.drop i = b.drop i)) := by
 intro d
 induction d with
 | zero =>
  intro i hi
  refine Ev.step (f := fun _ => some true) (fun k => ?_) ?_
  ·simp only [capnpref01_Same.l0]; rw [if_neg (by omega)]
  ·rw [List.drop_of_length_le (by omega), List.drop_of_length_le (by omega), decide_eq_true rfl]; exact Ev.now _
 | succ d ih =>
  intro i hi
  rw [drop_rd (show i < a.length by omega), drop_rd (show i < b.length by omega)]
  by_cases e : rd a (i : Int) = rd b (i : Int)
  ·refine Ev.step (f := fun k => capnpref01_Same.l0 k a b ((i + 1 : Nat) : Int)) (fun k => ?_) ?_
   ·simp only [capnpref01_Same.l0]
    rw [if_pos (by omega), if_pos (by omega), if_pos (by omega), if_pos e, w64 (by omega) (by omega), show (i : Int) + 1 = ((i + 1 : Nat) : Int) by omega]
   ·have := ih (i + 1) (by omega)
    simpa [e] using this
  ·refine Ev.step (f := fun _ => some false) (fun k => ?_) ?_
   ·simp only [capnpref01_Same.l0]
    rw [if_pos (by omega), if_pos (by omega), if_pos (by omega), if_neg e]
   ·have : decide (rd a (i : Int) :: a.drop (i + 1) = rd b (i : Int) :: b.drop (i + 1)) = false := by simp [e]
    rw [this]; exact Ev.now _
theorem refSame (a b : List Int) (ha : a.length ≤ 140737488355328) : Ev (fun k => capnpref01_Same.f k a b) (decide (a = b)) := by
 by_cases hl : a.length = b.length
 ·refine Ev.congr (fun k => ?_) (refSame_l0 a b hl ha a.length 0 (by omega))
  unfold capnpref01_Same.f
  rw [if_pos (by omega)]; rfl
 ·refine Ev.congr (f := fun _ => some (decide (a = b))) (fun k => ?_) (Ev.now _)
  unfold capnpref01_Same.f
  rw [if_neg (by omega), decide_eq_false (fun h => hl (by rw [h]))]
end Go.Proofs.YtnchacmhjbkmhaaDoor.QGrammarKeeps
