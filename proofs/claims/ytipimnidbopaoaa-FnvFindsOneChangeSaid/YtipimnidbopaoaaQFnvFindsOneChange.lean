/- The printed functions of the law FnvFindsOneChange hold what their plain specifications say. -/
import Derived.Test.YtipimnidbopaoaaPFnvFindsOneChangex0
import Derived.Test.YtipimnidbopaoaaPFnvFindsOneChangex1
import Derived.Test.YtipimnidbopaoaaM5
namespace Go.Proofs.Ytipimnidbopaoaa.QFnvFindsOneChange
open Go Go.RowKit Go.Proofs.Ytipimnidbopaoaa.M Go.Proofs.Ytipimnidbopaoaa.PFnvFindsOneChange Go.Proofs.YtipimnidbopaoaaW.PrintWords Go.Proofs.YtipimnidbopaoaaW.PrintLast Go.Proofs.YtipimnidbopaoaaW.PrintMore
set_option linter.unusedVariables false
set_option linter.unusedSimpArgs false
set_option maxRecDepth 10000

/-! ### fnv_step -/
theorem fnvStep_one (s c : Int) (hs : 0 ≤ s ∧ s < 18446744073709551616) (hc : 0 ≤ c ∧ c < 256) : IntKind.u64.wrap ((Go.bits .xor .u64 s (IntKind.u64.wrap c)) * 1099511628211) = stepS s c := by
  obtain ⟨S, rfl⟩ := Int.eq_ofNat_of_zero_le hs.1
  obtain ⟨C, rfl⟩ := Int.eq_ofNat_of_zero_le hc.1
  rw [wu (x := (C : Int)) (by omega) (by omega), bits_xor _ _ (by omega) (by omega), wu_mod]
  unfold stepS
  rw [Int.toNat_natCast, Int.toNat_natCast]
  rfl
theorem fnvStep_l0 (b : List Int) (hB : IsB b) (hb : b.length ≤ 140737488351232) : ∀ d i : Nat, i + d = b.length → ∀ s : Int, (0 ≤ s ∧ s < 18446744073709551616) → Ev (fun k => fnv_step.l0 k s b (b.length : Int) (i : Int)) (fnvS s (b.drop i)) := by
  intro d
  induction d with
  | zero =>
    intro i hi s hs
    refine Ev.step (f := fun _ => some s) (fun k => ?_) ?_
    · simp only [fnv_step.l0]; rw [if_neg (by omega)]
    · rw [List.drop_of_length_le (by omega)]; exact Ev.now _
  | succ d ih =>
    intro i hi s hs
    rw [drop_rd (show i < b.length by omega), fnvS_cons]
    refine Ev.step (fun k => ?_) (ih (i + 1) (by omega) _ (stepS_W s (rd b (i : Int))))
    simp only [fnv_step.l0]
    rw [if_pos (by omega), if_pos (by omega), if_pos (by omega), fnvStep_one s _ hs (rd_B hB _), wrap_succ i (by omega)]
theorem fnvStep (b : List Int) (hB : IsB b) (hb : b.length ≤ 140737488351232) (s : Int) (hs : 0 ≤ s ∧ s < 18446744073709551616) : Ev (fun k => fnv_step.f k s b) (fnvS s b) :=
  fnvStep_l0 b hB hb b.length 0 (by omega) s hs

/-! ### fnv_Add -/
theorem fnvAdd (b : List Int) (hB : IsB b) (hb : b.length ≤ 140737488351232) (s : Int) (hs : 0 ≤ s ∧ s < 18446744073709551616) : Ev (fun k => fnv_Add.f k s b) (fnvS s b) := by
  unfold fnv_Add.f
  exact Ev.bind (fnvStep b hB hb s hs) (Ev.now _)

/-! ### fnv_Start -/
theorem fnvStart : fnv_Start.f = some 14695981039346656037 := rfl

/-! ### fnv_Sum -/
theorem fnvSum (b : List Int) (hB : IsB b) (hb : b.length ≤ 140737488351232) : Ev (fun k => fnv_Sum.f k b) (fnvS 14695981039346656037 b) := by
  unfold fnv_Sum.f
  rw [fnvStart]
  simp only [Option.bind_some]
  exact Ev.bind (fnvAdd b hB hb _ (by decide)) (Ev.now _)

/-! ### word_Bytes -/
theorem wordBytes_l1 (x5 : Int) (x11 : List Int) (x12 x13 r) : ∀ d j : Nat, j + d = 8 → ∀ x3 : List Int, x3.length + d < 140737488355328 → Ev (fun k => word_Bytes.l0 k (x3 ++ bs d (x5 / 256 ^ j)) x11 x12 (wrap64 (x13 + 1))) r → Ev (fun k => word_Bytes.l1 k x3 x5 x11 x12 x13 (j : Int)) r := by
  intro d
  induction d with
  | zero =>
    intro j hj x3 hl h
    obtain rfl : j = 8 := by omega
    refine Ev.step (fun k => ?_) h
    simp only [word_Bytes.l1]
    rw [if_neg (by omega)]
    simp [bs]
  | succ d ih =>
    intro j hj x3 hl h
    refine Ev.step (f := fun k => word_Bytes.l1 k (x3 ++ [x5 / 256 ^ j % 256]) x5 x11 x12 x13 ((j + 1 : Nat) : Int)) (fun k => ?_) (ih (j + 1) (by omega) _ (by simp; omega) ?_)
    · simp only [word_Bytes.l1]
      rw [if_pos (by omega), if_pos (by rw [w64 (by omega) (by omega), wu (by omega) (by omega)]; omega), if_pos (by omega), shr8 _ _ (by omega), w64 (by omega) (by omega), show (j : Int) + 1 = ((j + 1 : Nat) : Int) by omega]
    · rw [List.append_assoc, List.singleton_append, Int.pow_succ, ← Int.ediv_ediv_of_nonneg (Int.pow_nonneg (by decide))]; exact h
theorem wordBytes_l0 (x0 : List Int) (hx : x0.length * 8 < 140737488355328) : ∀ d i : Nat, i + d = x0.length → ∀ x3 : List Int, x3 = bytesS (x0.take i) → Ev (fun k => word_Bytes.l0 k x3 x0 (x0.length : Int) (i : Int)) (bytesS x0) := by
  intro d
  induction d with
  | zero =>
    intro i hi x3 h
    refine Ev.step (f := fun _ => some x3) (fun k => ?_) ?_
    · simp only [word_Bytes.l0]; rw [if_neg (by omega)]
    · rw [h, List.take_of_length_le (by omega)]; exact Ev.now _
  | succ d ih =>
    intro i hi x3 h
    refine Ev.step (f := fun k => word_Bytes.l1 k x3 (rd x0 (i : Int)) x0 (x0.length : Int) (i : Int) ((0 : Nat) : Int)) (fun k => ?_) (wordBytes_l1 _ x0 _ _ _ 8 0 rfl _ ?_ ?_)
    · simp only [word_Bytes.l0]; rw [if_pos (by omega), if_pos (by omega), if_pos (by omega)]; rfl
    · rw [h, bytesS_length, List.length_take]; omega
    · rw [w64 (by omega) (by omega), show (i : Int) + 1 = ((i + 1 : Nat) : Int) by omega]
      refine ih (i + 1) (by omega) _ ?_
      rw [take_rd (by omega), bytesS_append, h]; simp [bytesS]
theorem wordBytes (l : List Int) (hx : l.length * 8 < 140737488355328) : Ev (fun k => word_Bytes.f k l) (bytesS l) := by
  refine Ev.congr (fun k => ?_) (wordBytes_l0 l hx l.length 0 (by omega) [] rfl)
  unfold word_Bytes.f
  rw [if_pos (by rw [w64 (by omega) (by omega)]; omega), if_pos (by rw [w64 (by omega) (by omega)]; omega)]
  rfl

/-! ### fnv_Words -/
theorem fnvWords_l0 (l : List Int) (hl : l.length ≤ 140737488351232) : ∀ d i : Nat, i + d = l.length → ∀ s : Int, (0 ≤ s ∧ s < 18446744073709551616) → Ev (fun k => fnv_Words.l0 k s l (l.length : Int) (i : Int)) (fnvS s (bytesS (l.drop i))) := by
  intro d
  induction d with
  | zero =>
    intro i hi s hs
    refine Ev.step (f := fun _ => some s) (fun k => ?_) ?_
    · simp only [fnv_Words.l0]; rw [if_neg (by omega)]
    · rw [List.drop_of_length_le (by omega)]; exact Ev.now _
  | succ d ih =>
    intro i hi s hs
    rw [drop_rd (show i < l.length by omega), bytesS_cons, fnvS_append]
    refine Ev.step (f := fun k => (word_Bytes.f k [rd l (i : Int)]).bind fun t => (fnv_step.f k s t).bind fun q => fnv_Words.l0 k q l (l.length : Int) ((i + 1 : Nat) : Int)) (fun k => ?_) ?_
    · simp only [fnv_Words.l0]
      rw [if_pos (by omega), if_pos (by omega), if_pos (by omega), wrap_succ i (by omega)]
    · refine Ev.bind (wordBytes [rd l (i : Int)] (by simp)) ?_
      rw [show bytesS [rd l (i : Int)] = bs 8 (rd l (i : Int)) by simp [bytesS]]
      refine Ev.bind (fnvStep _ (bs_B 8 _) (by rw [bs_length]; omega) s hs) (ih (i + 1) (by omega) _ (fnvS_W _ _ hs))
theorem fnvWords (l : List Int) (hl : l.length ≤ 140737488351232) : Ev (fun k => fnv_Words.f k l) (fnvS 14695981039346656037 (bytesS l)) := by
  unfold fnv_Words.f
  rw [fnvStart]
  simp only [Option.bind_some]
  exact fnvWords_l0 l hl l.length 0 (by omega) _ (by decide)

/-! ### capnplaw18_awake -/
theorem awake18 : Ev (fun k => capnplaw18_awake.f k) true := Ev.of (fun k => capnplaw18_awake.mono k) (k := 60) (by kernel_rfl)
end Go.Proofs.Ytipimnidbopaoaa.QFnvFindsOneChange
