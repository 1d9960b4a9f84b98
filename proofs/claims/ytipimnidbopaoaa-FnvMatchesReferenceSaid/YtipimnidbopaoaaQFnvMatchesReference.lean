/- The printed functions of the law FnvMatchesReference hold what their plain specifications say. -/
import Derived.Test.YtipimnidbopaoaaPFnvMatchesReferencex0
import Derived.Test.YtipimnidbopaoaaPFnvMatchesReferencex1
import Derived.Test.YtipimnidbopaoaaPFnvMatchesReferencex2
import Derived.Test.YtipimnidbopaoaaM5
namespace Go.Proofs.Ytipimnidbopaoaa.QFnvMatchesReference
open Go Go.RowKit Go.Proofs.Ytipimnidbopaoaa.M Go.Proofs.Ytipimnidbopaoaa.PFnvMatchesReference Go.Proofs.YtipimnidbopaoaaW.PrintWords Go.Proofs.YtipimnidbopaoaaW.PrintLast Go.Proofs.YtipimnidbopaoaaW.PrintMore
set_option linter.unusedVariables false
set_option linter.unusedSimpArgs false
set_option maxRecDepth 10000

/-! ### fnv_step -/
theorem fnvStep_one (s c : Int) (hs : 0 ≤ s ∧ s < 18446744073709551616) (hc : 0 ≤ c ∧ c < 256) : IntKind.u64.wrap ((Go.bits .xor .u64 s (IntKind.u64.wrap c)) * 1099511628211) = stepS s c := by
  obtain ⟨S, rfl⟩ := Int.eq_ofNat_of_zero_le hs.1
  obtain ⟨C, rfl⟩ := Int.eq_ofNat_of_zero_le hc.1
  rw [wu (x := (C : Int)) (by omega) (by omega), bits_xor _ _ (by omega) (by omega), wu_mod]
  unfold stepS
  rw [Int.toNat_natCast, Int.toNat_natCast]
  rfl
theorem fnvStep_l0 (b : List Int) (hB : IsB b) (hb : b.length ≤ 140737488351232) : ∀ d i : Nat, i + d = b.length → ∀ s : Int, (0 ≤ s ∧ s < 18446744073709551616) → Ev (fun k => fnv_step.l0 k s b (b.length : Int) (i : Int)) (fnvS s (b.drop i)) := by
  intro d
  induction d with
  | zero =>
    intro i hi s hs
    refine Ev.step (f := fun _ => some s) (fun k => ?_) ?_
    · simp only [fnv_step.l0]; rw [if_neg (by omega)]
    · rw [List.drop_of_length_le (by omega)]; exact Ev.now _
  | succ d ih =>
    intro i hi s hs
    rw [drop_rd (show i < b.length by omega), fnvS_cons]
    refine Ev.step (fun k => ?_) (ih (i + 1) (by omega) _ (stepS_W s (rd b (i : Int))))
    simp only [fnv_step.l0]
    rw [if_pos (by omega), if_pos (by omega), if_pos (by omega), fnvStep_one s _ hs (rd_B hB _), wrap_succ i (by omega)]
theorem fnvStep (b : List Int) (hB : IsB b) (hb : b.length ≤ 140737488351232) (s : Int) (hs : 0 ≤ s ∧ s < 18446744073709551616) : Ev (fun k => fnv_step.f k s b) (fnvS s b) :=
  fnvStep_l0 b hB hb b.length 0 (by omega) s hs

/-! ### fnv_Add -/
theorem fnvAdd (b : List Int) (hB : IsB b) (hb : b.length ≤ 140737488351232) (s : Int) (hs : 0 ≤ s ∧ s < 18446744073709551616) : Ev (fun k => fnv_Add.f k s b) (fnvS s b) := by
  unfold fnv_Add.f
  exact Ev.bind (fnvStep b hB hb s hs) (Ev.now _)

/-! ### fnv_Start -/
theorem fnvStart : fnv_Start.f = some 14695981039346656037 := rfl

/-! ### fnv_Sum -/
theorem fnvSum (b : List Int) (hB : IsB b) (hb : b.length ≤ 140737488351232) : Ev (fun k => fnv_Sum.f k b) (fnvS 14695981039346656037 b) := by
  unfold fnv_Sum.f
  rw [fnvStart]
  simp only [Option.bind_some]
  exact Ev.bind (fnvAdd b hB hb _ (by decide)) (Ev.now _)

/-! ### word_Bytes -/
theorem wordBytes_l1 (x5 : Int) (x11 : List Int) (x12 x13 r) : ∀ d j : Nat, j + d = 8 → ∀ x3 : List Int, x3.length + d < 140737488355328 → Ev (fun k => word_Bytes.l0 k (x3 ++ bs d (x5 / 256 ^ j)) x11 x12 (wrap64 (x13 + 1))) r → Ev (fun k => word_Bytes.l1 k x3 x5 x11 x12 x13 (j : Int)) r := by
  intro d
  induction d with
  | zero =>
    intro j hj x3 hl h
    obtain rfl : j = 8 := by omega
    refine Ev.step (fun k => ?_) h
    simp only [word_Bytes.l1]
    rw [if_neg (by omega)]
    simp [bs]
  | succ d ih =>
    intro j hj x3 hl h
    refine Ev.step (f := fun k => word_Bytes.l1 k (x3 ++ [x5 / 256 ^ j % 256]) x5 x11 x12 x13 ((j + 1 : Nat) : Int)) (fun k => ?_) (ih (j + 1) (by omega) _ (by simp; omega) ?_)
    · simp only [word_Bytes.l1]
      rw [if_pos (by omega), if_pos (by rw [w64 (by omega) (by omega), wu (by omega) (by omega)]; omega), if_pos (by omega), shr8 _ _ (by omega), w64 (by omega) (by omega), show (j : Int) + 1 = ((j + 1 : Nat) : Int) by omega]
    · rw [List.append_assoc, List.singleton_append, Int.pow_succ, ← Int.ediv_ediv_of_nonneg (Int.pow_nonneg (by decide))]; exact h
theorem wordBytes_l0 (x0 : List Int) (hx : x0.length * 8 < 140737488355328) : ∀ d i : Nat, i + d = x0.length → ∀ x3 : List Int, x3 = bytesS (x0.take i) → Ev (fun k => word_Bytes.l0 k x3 x0 (x0.length : Int) (i : Int)) (bytesS x0) := by
  intro d
  induction d with
  | zero =>
    intro i hi x3 h
    refine Ev.step (f := fun _ => some x3) (fun k => ?_) ?_
    · simp only [word_Bytes.l0]; rw [if_neg (by omega)]
    · rw [h, List.take_of_length_le (by omega)]; exact Ev.now _
  | succ d ih =>
    intro i hi x3 h
    refine Ev.step (f := fun k => word_Bytes.l1 k x3 (rd x0 (i : Int)) x0 (x0.length : Int) (i : Int) ((0 : Nat) : Int)) (fun k => ?_) (wordBytes_l1 _ x0 _ _ _ 8 0 rfl _ ?_ ?_)
    · simp only [word_Bytes.l0]; rw [if_pos (by omega), if_pos (by omega), if_pos (by omega)]; rfl
    · rw [h, bytesS_length, List.length_take]; omega
    · rw [w64 (by omega) (by omega), show (i : Int) + 1 = ((i + 1 : Nat) : Int) by omega]
      refine ih (i + 1) (by omega) _ ?_
      rw [take_rd (by omega), bytesS_append, h]; simp [bytesS]
theorem wordBytes (l : List Int) (hx : l.length * 8 < 140737488355328) : Ev (fun k => word_Bytes.f k l) (bytesS l) := by
  refine Ev.congr (fun k => ?_) (wordBytes_l0 l hx l.length 0 (by omega) [] rfl)
  unfold word_Bytes.f
  rw [if_pos (by rw [w64 (by omega) (by omega)]; omega), if_pos (by rw [w64 (by omega) (by omega)]; omega)]
  rfl

/-! ### fnv_Words -/
theorem fnvWords_l0 (l : List Int) (hl : l.length ≤ 140737488351232) : ∀ d i : Nat, i + d = l.length → ∀ s : Int, (0 ≤ s ∧ s < 18446744073709551616) → Ev (fun k => fnv_Words.l0 k s l (l.length : Int) (i : Int)) (fnvS s (bytesS (l.drop i))) := by
  intro d
  induction d with
  | zero =>
    intro i hi s hs
    refine Ev.step (f := fun _ => some s) (fun k => ?_) ?_
    · simp only [fnv_Words.l0]; rw [if_neg (by omega)]
    · rw [List.drop_of_length_le (by omega)]; exact Ev.now _
  | succ d ih =>
    intro i hi s hs
    rw [drop_rd (show i < l.length by omega), bytesS_cons, fnvS_append]
    refine Ev.step (f := fun k => (word_Bytes.f k [rd l (i : Int)]).bind fun t => (fnv_step.f k s t).bind fun q => fnv_Words.l0 k q l (l.length : Int) ((i + 1 : Nat) : Int)) (fun k => ?_) ?_
    · simp only [fnv_Words.l0]
      rw [if_pos (by omega), if_pos (by omega), if_pos (by omega), wrap_succ i (by omega)]
    · refine Ev.bind (wordBytes [rd l (i : Int)] (by simp)) ?_
      rw [show bytesS [rd l (i : Int)] = bs 8 (rd l (i : Int)) by simp [bytesS]]
      refine Ev.bind (fnvStep _ (bs_B 8 _) (by rw [bs_length]; omega) s hs) (ih (i + 1) (by omega) _ (fnvS_W _ _ hs))
theorem fnvWords (l : List Int) (hl : l.length ≤ 140737488351232) : Ev (fun k => fnv_Words.f k l) (fnvS 14695981039346656037 (bytesS l)) := by
  unfold fnv_Words.f
  rw [fnvStart]
  simp only [Option.bind_some]
  exact fnvWords_l0 l hl l.length 0 (by omega) _ (by decide)

/-! ### capnplaw18_awake -/
theorem awake18 : Ev (fun k => capnplaw18_awake.f k) true := Ev.of (fun k => capnplaw18_awake.mono k) (k := 60) (by kernel_rfl)

/-! ### capnpref01_Pow -/
theorem refPow_l0 (n : Nat) (hn : n < 64) : ∀ d i : Nat, i + d = n → ∀ p : Int, p = ((2 ^ i : Nat) : Int) → Ev (fun k => capnpref01_Pow.l0 k (n : Int) p (i : Int)) ((2 ^ n : Nat) : Int) := by
  intro d
  induction d with
  | zero =>
    intro i hi p h
    refine Ev.step (f := fun _ => some p) (fun k => ?_) ?_
    · simp only [capnpref01_Pow.l0]; rw [if_neg (by omega)]
    · rw [h, show i = n by omega]; exact Ev.now _
  | succ d ih =>
    intro i hi p h
    have hp := two_pow_lt64 (n := i + 1) (by omega)
    refine Ev.step (f := fun k => capnpref01_Pow.l0 k (n : Int) ((2 ^ (i + 1) : Nat) : Int) ((i + 1 : Nat) : Int)) (fun k => ?_) (ih (i + 1) (by omega) _ rfl)
    simp only [capnpref01_Pow.l0]
    rw [if_pos (by omega), w64 (by omega) (by omega), h, show (((2 ^ i : Nat) : Int) * 2) = ((2 ^ (i + 1) : Nat) : Int) by rw [Nat.pow_succ]; omega, wu (Int.natCast_nonneg _) (by omega), show (i : Int) + 1 = ((i + 1 : Nat) : Int) by omega]
theorem refPow (n : Nat) (hn : n < 64) : Ev (fun k => capnpref01_Pow.f k (n : Int)) ((2 ^ n : Nat) : Int) :=
  refPow_l0 n hn n 0 (by omega) 1 rfl

/-! ### capnpref18_Add -/
theorem ref18_last (s : Nat) (c : Nat) (hs : s < 18446744073709551616) (hc : c < 256) : IntKind.u64.wrap ((IntKind.u64.wrap ((IntKind.u64.wrap ((IntKind.u64.wrap ((IntKind.u64.wrap ((s : Int) - ((s % 256 : Nat) : Int))) + ((s % 256 ^^^ c : Nat) : Int))) * 1099511627776)) + (IntKind.u64.wrap ((IntKind.u64.wrap ((IntKind.u64.wrap ((s : Int) - ((s % 256 : Nat) : Int))) + ((s % 256 ^^^ c : Nat) : Int))) * 256)))) + (IntKind.u64.wrap ((IntKind.u64.wrap ((IntKind.u64.wrap ((s : Int) - ((s % 256 : Nat) : Int))) + ((s % 256 ^^^ c : Nat) : Int))) * 179))) = stepS (s : Int) (c : Int) := by
  have e := xor_low s c hc
  have hx := xor_lt64 hs hc
  unfold stepS
  rw [Int.toNat_natCast, Int.toNat_natCast, e]
  rw [e] at hx
  generalize s % 256 ^^^ c = x at *
  have hm : s % 256 ≤ s := Nat.mod_le _ _
  have e1 : IntKind.u64.wrap ((s : Int) - ((s % 256 : Nat) : Int)) = ((s - s % 256 : Nat) : Int) := by rw [wu (by omega) (by omega)]; omega
  have e2 : IntKind.u64.wrap (((s - s % 256 : Nat) : Int) + (x : Int)) = ((s - s % 256 + x : Nat) : Int) := by rw [wu (by omega) (by omega)]; omega
  rw [e1, e2]
  generalize s - s % 256 + x = y at *
  simp only [wu_mod]
  omega
theorem ref18_l1 (s c : Nat) (b : List Int) (x5 : Int) (hs : s < 18446744073709551616) (hc : c < 256) (r : Int) (hr : Ev (fun k => capnpref18_Add.l0 k (stepS (s : Int) (c : Int)) b (wrap64 (x5 + 1))) r) : ∀ d i : Nat, i + d = 8 → ∀ x : Nat, x < 2 ^ i → (∀ j, j < i → x.testBit j = (s % 256 ^^^ c).testBit j) → Ev (fun k => capnpref18_Add.l1 k (s : Int) b x5 ((s % 256 : Nat) : Int) (x : Int) (c : Int) (i : Int)) r := by
  intro d
  induction d with
  | zero =>
    intro i hi x hx hb
    obtain rfl : i = 8 := by omega
    have e : x = s % 256 ^^^ c := by
      have hl : (s % 256 ^^^ c) < 2 ^ 8 := Nat.xor_lt_two_pow (Nat.mod_lt _ (by decide)) (by omega)
      apply Nat.eq_of_testBit_eq
      intro j
      by_cases hj : j < 8
      · exact hb j hj
      · have hp : (2 : Nat) ^ 8 ≤ 2 ^ j := Nat.pow_le_pow_right (by decide) (by omega)
        rw [Nat.testBit_lt_two_pow (Nat.lt_of_lt_of_le hx hp), Nat.testBit_lt_two_pow (Nat.lt_of_lt_of_le hl hp)]
    subst e
    refine Ev.step (fun k => ?_) hr
    simp only [capnpref18_Add.l1]
    rw [if_neg (by omega), ref18_last s c hs hc]
  | succ d ih =>
    intro i hi x hx hb
    have hi8 : i < 8 := by omega
    obtain ⟨h1, h2⟩ := bit_step (f := fun j => (s % 256 ^^^ c).testBit j) hx hb
    have hp : (2 : Nat) ^ (i + 1) ≤ 2 ^ 8 := Nat.pow_le_pow_right (by decide) (by omega)
    have hpow : (2 : Nat) ^ i ≤ 2 ^ 8 := Nat.pow_le_pow_right (by decide) (by omega)
    have hbit : ((s % 256 / 2 ^ i % 2 : Nat) : Int) = ((c / 2 ^ i % 2 : Nat) : Int) ↔ (s % 256 ^^^ c).testBit i = false := by
      rw [← Nat.toNat_testBit, ← Nat.toNat_testBit, Nat.testBit_xor]
      cases (s % 256).testBit i <;> cases c.testBit i <;> simp
    refine Ev.step (f := fun k => (capnpref01_Pow.f k (i : Int)).bind fun t => if t = 0 then none else if (Int.tmod (IntKind.u64.wrap (Int.tdiv ((s % 256 : Nat) : Int) t)) 2) = (Int.tmod (IntKind.u64.wrap (Int.tdiv (c : Int) t)) 2) then capnpref18_Add.l1 k (s : Int) b x5 ((s % 256 : Nat) : Int) (x : Int) (c : Int) ((i + 1 : Nat) : Int) else capnpref18_Add.l1 k (s : Int) b x5 ((s % 256 : Nat) : Int) (IntKind.u64.wrap ((x : Int) + t)) (c : Int) ((i + 1 : Nat) : Int)) (fun k => ?_) (Ev.bind (refPow i (by omega)) (Ev.congr (fun k => if_neg (two_pow_ne i)) ?_))
    · simp only [capnpref18_Add.l1]
      rw [if_pos (by omega), wrap_succ i (by omega)]
    · rw [bitdiv _ _ (by omega), bitdiv _ _ (by omega)]
      by_cases h : (s % 256 ^^^ c).testBit i = false
      · simp only [h, Bool.toNat_false, Nat.zero_mul, Nat.add_zero] at h1 h2
        refine Ev.congr (fun k => if_pos (hbit.mpr h)) (ih (i + 1) (by omega) x (by omega) h2)
      · have ht : (s % 256 ^^^ c).testBit i = true := by simpa using h
        simp only [ht, Bool.toNat_true, Nat.one_mul] at h1 h2
        refine Ev.congr (fun k => if_neg (fun h3 => h (hbit.mp h3))) ?_
        rw [wu (by omega) (by omega), show (x : Int) + ((2 ^ i : Nat) : Int) = ((x + 2 ^ i : Nat) : Int) by omega]
        exact ih (i + 1) (by omega) _ h1 h2
theorem ref18_l0 (b : List Int) (hB : IsB b) (hb : b.length ≤ 140737488351232) : ∀ d i : Nat, i + d = b.length → ∀ s : Int, (0 ≤ s ∧ s < 18446744073709551616) → Ev (fun k => capnpref18_Add.l0 k s b (i : Int)) (fnvS s (b.drop i)) := by
  intro d
  induction d with
  | zero =>
    intro i hi s hs
    refine Ev.step (f := fun _ => some s) (fun k => ?_) ?_
    · simp only [capnpref18_Add.l0]; rw [if_neg (by omega)]
    · rw [List.drop_of_length_le (by omega)]; exact Ev.now _
  | succ d ih =>
    intro i hi s hs
    rw [drop_rd (show i < b.length by omega), fnvS_cons]
    have hx := rd_B hB (i : Int)
    obtain ⟨S, rfl⟩ := Int.eq_ofNat_of_zero_le hs.1
    obtain ⟨C, hC⟩ := Int.eq_ofNat_of_zero_le hx.1
    rw [hC] at hx ⊢
    have hrest := ih (i + 1) (by omega) _ (stepS_W (S : Int) (C : Int))
    refine Ev.step (fun k => ?_) (ref18_l1 S C b (i : Int) (by omega) (by omega) _ (by rw [wrap_succ i (by omega)]; exact hrest) 8 0 rfl 0 (by decide) (fun j hj => absurd hj (by omega)))
    simp only [capnpref18_Add.l0]
    rw [if_pos (by omega), if_pos (by omega), hC, wu (x := (C : Int)) (by omega) (by omega), Int.tmod_eq_emod_of_nonneg (by omega)]
    rfl
theorem ref18Add (b : List Int) (hB : IsB b) (hb : b.length ≤ 140737488351232) (s : Int) (hs : 0 ≤ s ∧ s < 18446744073709551616) : Ev (fun k => capnpref18_Add.f k s b) (fnvS s b) :=
  ref18_l0 b hB hb b.length 0 (by omega) s hs

/-! ### capnpref18_Sum -/
theorem ref18Sum (b : List Int) (hB : IsB b) (hb : b.length ≤ 140737488351232) : Ev (fun k => capnpref18_Sum.f k b) (fnvS 14695981039346656037 b) := by
  unfold capnpref18_Sum.f
  exact Ev.bind (ref18Add b hB hb _ (by decide)) (Ev.now _)

/-! ### capnpref01_Bytes -/
theorem refBytes_l1 (x0 : List Int) (x4 r) : ∀ d j : Nat, j + d = 8 → ∀ (x3 : List Int) (w : Int), 0 ≤ w → w < 18446744073709551616 → x3.length + d < 140737488355328 → Ev (fun k => capnpref01_Bytes.l0 k x0 (x3 ++ bs d w) (wrap64 (x4 + 1))) r → Ev (fun k => capnpref01_Bytes.l1 k x0 x3 x4 w (j : Int)) r := by
  intro d
  induction d with
  | zero =>
    intro j hj x3 w h0 h1 hl h
    obtain rfl : j = 8 := by omega
    refine Ev.step (fun k => ?_) h
    simp only [capnpref01_Bytes.l1]
    rw [if_neg (by omega)]
    simp [bs]
  | succ d ih =>
    intro j hj x3 w h0 h1 hl h
    refine Ev.step (f := fun k => capnpref01_Bytes.l1 k x0 (x3 ++ [w % 256]) x4 (w / 256) ((j + 1 : Nat) : Int)) (fun k => ?_) (ih (j + 1) (by omega) _ _ (by omega) (by omega) (by simp; omega) ?_)
    · simp only [capnpref01_Bytes.l1]
      rw [if_pos (by omega), if_pos (by omega), w64 (by omega) (by omega), Int.tmod_eq_emod_of_nonneg h0, Int.tdiv_eq_ediv_of_nonneg h0, wu (by omega) (by omega), show w % 256 % 256 = w % 256 by omega, show (j : Int) + 1 = ((j + 1 : Nat) : Int) by omega]
    · simpa [bs] using h
theorem refBytes_l0 (x0 : List Int) (hW : IsW x0) (hx : x0.length * 8 < 140737488355328) : ∀ d i : Nat, i + d = x0.length → ∀ x3 : List Int, x3 = bytesS (x0.take i) → Ev (fun k => capnpref01_Bytes.l0 k x0 x3 (i : Int)) (bytesS x0) := by
  intro d
  induction d with
  | zero =>
    intro i hi x3 h
    refine Ev.step (f := fun _ => some x3) (fun k => ?_) ?_
    · simp only [capnpref01_Bytes.l0]; rw [if_neg (by omega)]
    · rw [h, List.take_of_length_le (by omega)]; exact Ev.now _
  | succ d ih =>
    intro i hi x3 h
    have hr := rd_W hW (i : Int)
    refine Ev.step (f := fun k => capnpref01_Bytes.l1 k x0 x3 (i : Int) (rd x0 (i : Int)) ((0 : Nat) : Int)) (fun k => ?_) (refBytes_l1 x0 _ _ 8 0 rfl _ _ hr.1 hr.2 ?_ ?_)
    · simp only [capnpref01_Bytes.l0]; rw [if_pos (by omega), if_pos (by omega)]; rfl
    · rw [h, bytesS_length, List.length_take]; omega
    · rw [w64 (by omega) (by omega), show (i : Int) + 1 = ((i + 1 : Nat) : Int) by omega]
      refine ih (i + 1) (by omega) _ ?_
      rw [take_rd (by omega), bytesS_append, h]; simp [bytesS]
theorem refBytes (l : List Int) (hW : IsW l) (hx : l.length * 8 < 140737488355328) : Ev (fun k => capnpref01_Bytes.f k l) (bytesS l) :=
  refBytes_l0 l hW hx l.length 0 (by omega) [] rfl
end Go.Proofs.Ytipimnidbopaoaa.QFnvMatchesReference
