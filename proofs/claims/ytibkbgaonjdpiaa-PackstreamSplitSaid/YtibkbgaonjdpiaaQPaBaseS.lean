/- The printed functions of the law PaBase hold what their plain specifications say. -/
import Derived.Test.YtibkbgaonjdpiaaPPaBasex0S
import Derived.Test.YtibkbgaonjdpiaaPPaBasex1S
import Derived.Test.YtibkbgaonjdpiaaPPaBasex2S
import Derived.Test.YtibkbgaonjdpiaaM6S
namespace Go.Proofs.Ytibkbgaonjdpiaa.QPaBase
open Go Go.RowKit Go.Proofs.Ytibkbgaonjdpiaa Go.Proofs.Ytibkbgaonjdpiaa.M Go.Proofs.Ytibkbgaonjdpiaa.PPaBase Go.Proofs.YtibkbgaonjdpiaaW.PrintWords Go.Proofs.YtibkbgaonjdpiaaW.PrintLast Go.Proofs.YtibkbgaonjdpiaaW.PrintMore
set_option linter.unusedVariables false
set_option linter.unusedSimpArgs false
set_option maxRecDepth 10000
set_option maxHeartbeats 1000000
theorem or_val {n i : Nat} {x : Int} (hn : n < 2 ^ i) (h0 : 0 ≤ x) (h1 : x < 256) (hi : i ≤ 56) : Go.bits .or .u64 (n : Int) (shl .u64 (IntKind.u64.wrap x) (i : Int)) = (n : Int) + x * 2 ^ i := by
  obtain ⟨m, rfl⟩ := Int.eq_ofNat_of_zero_le h0
  have hp : (2 : Nat) ^ i ≤ 2 ^ 56 := Nat.pow_le_pow_right (by decide) hi
  have hm : m * 2 ^ i < 2 ^ 64 := by
    have : m * 2 ^ i ≤ 255 * 2 ^ 56 := Nat.mul_le_mul (by omega) hp
    omega
  rw [wu (by omega) (by omega), shl_nat _ _ (by omega) (by omega), Nat.shiftLeft_eq, Int.toNat_natCast, Nat.mod_eq_of_lt (by omega), bits_or _ _ (by omega) (by omega), Nat.or_comm, Nat.mul_comm, ← Nat.two_pow_add_eq_or_of_lt hn, Nat.mul_comm]
  simp; omega
theorem wordGet_step (b : List Int) (i : Nat) (hb : b.length ≤ 140737488351232) (hi : i < b.length / 8) (j : Nat) (hj : j < 8) (acc : Int) (k : Nat) : word_Get.l0 (k + 1) b (i : Int) acc (j : Int) = word_Get.l0 k b (i : Int) (Go.bits .or .u64 acc (shl .u64 (IntKind.u64.wrap (rd b ((8 * i + j : Nat) : Int))) ((8 * j : Nat) : Int))) ((j + 1 : Nat) : Int) := by
  have e0 : wrap64 (8 * (i : Int)) = 8 * (i : Int) := w64 (by omega) (by omega)
  have e1 : wrap64 (wrap64 (8 * (i : Int)) + (j : Int)) = ((8 * i + j : Nat) : Int) := by rw [e0, w64 (by omega) (by omega)]; omega
  have e2 : IntKind.u64.wrap (wrap64 (8 * (j : Int))) = ((8 * j : Nat) : Int) := by rw [w64 (by omega) (by omega), wu (by omega) (by omega)]; omega
  simp only [word_Get.l0]
  rw [if_pos (by omega), e1, if_pos (by omega), if_pos (by omega), e2, if_pos (by omega), w64 (by omega) (by omega), show (j : Int) + 1 = ((j + 1 : Nat) : Int) by omega]
theorem chunk_rd {b : List Int} {i : Nat} (hi : i < b.length / 8) {j : Nat} (hj : j < 8) : rd (chunk b i) (j : Int) = rd b ((8 * i + j : Nat) : Int) := by
  have hl := chunk_length hi
  rw [rd_lt (by omega), rd_lt (by omega)]
  simp [chunk]
theorem wordGet_l0 (b : List Int) (hB : IsB b) (i : Nat) (hb : b.length ≤ 140737488351232) (hi : i < b.length / 8) : ∀ d j : Nat, j + d = 8 → ∀ acc : Int, acc = val ((chunk b i).take j) → Ev (fun k => word_Get.l0 k b (i : Int) acc (j : Int)) (getS b i, true) := by
  intro d
  induction d with
  | zero =>
    intro j hj acc h
    refine Ev.step (f := fun _ => some (acc, true)) (fun k => ?_) ?_
    · simp only [word_Get.l0]; rw [if_neg (by omega)]
    · rw [h, List.take_of_length_le (by rw [chunk_length hi]; omega)]; exact Ev.now _
  | succ d ih =>
    intro j hj acc h
    have hC := chunk_B hB i
    have hl := chunk_length hi
    have hj8 : j < 8 := by omega
    have hjl : j < (chunk b i).length := by omega
    have ht : ((chunk b i).take j).length = j := by rw [List.length_take]; omega
    refine Ev.step (wordGet_step b i hb hi j hj8 acc) (ih (j + 1) (by omega) _ ?_)
    have h56 : 8 * j ≤ 56 := by omega
    rw [take_rd hjl, val_append, ← h, ht, ← chunk_rd hi hj8]
    have hacc0 := val_nonneg _ (hC.take j)
    have hacc1 := val_lt _ (hC.take j)
    have e256 : (256 : Int) ^ j = 2 ^ (8 * j) := by rw [Int.pow_mul]; rfl
    rw [ht, e256, ← h] at hacc1
    rw [← h] at hacc0
    obtain ⟨n, rfl⟩ := Int.eq_ofNat_of_zero_le hacc0
    have hn : n < 2 ^ (8 * j) := by exact_mod_cast hacc1
    have hx := rd_B hC (j : Int)
    rw [or_val hn hx.1 hx.2 h56, e256, Int.mul_comm]
    simp [val]
theorem wordGet_yes (b : List Int) (hB : IsB b) (i : Nat) (hb : b.length ≤ 140737488351232) (hi : i < b.length / 8) : Ev (fun k => word_Get.f k b (i : Int)) (getS b i, true) := by
  refine Ev.congr (f := fun k => word_Get.j0 k b (i : Int) false) (fun k => ?_) (Ev.step (f := fun k => word_Get.l0 k b (i : Int) 0 ((0 : Nat) : Int)) (fun k => ?_) (wordGet_l0 b hB i hb hi 8 0 rfl 0 rfl))
  · unfold word_Get.f
    rw [if_neg (by omega), w64 (by omega) (by omega), decide_eq_false (by omega)]
  · simp only [word_Get.j0]; rfl
theorem wordGet_no (b : List Int) (i : Int) (hb : b.length ≤ 140737488351232) (hi : i < 0 ∨ (b.length : Int) / 8 ≤ i) : Ev (fun k => word_Get.f k b i) (0, false) := by
  refine Ev.congr (f := fun k => word_Get.j0 k b i true) (fun k => ?_) (Ev.step (f := fun _ => some (0, false)) (fun k => ?_) (Ev.now _))
  · unfold word_Get.f
    by_cases h : i < 0
    · rw [if_pos h]
    · rw [if_neg h, w64 (by omega) (by omega), decide_eq_true (by omega)]
  · simp only [word_Get.j0]; rfl
theorem wordWords_l0 (b : List Int) (hB : IsB b) (hb : b.length ≤ 140737488351232) : ∀ d i : Nat, i + d = b.length / 8 → ∀ acc : List Int, acc = (List.range i).map (getS b) → Ev (fun k => word_Words.l0 k b acc ((b.length / 8 : Nat) : Int) (i : Int)) (wordsS b, true) := by
  intro d
  induction d with
  | zero =>
    intro i hi acc h
    refine Ev.step (f := fun _ => some (acc, true)) (fun k => ?_) ?_
    · simp only [word_Words.l0]; rw [if_neg (by omega)]
    · rw [h, show i = b.length / 8 by omega]; exact Ev.now _
  | succ d ih =>
    intro i hi acc h
    have hl : acc.length = i := by rw [h]; simp
    refine Ev.step (f := fun k => (word_Get.f k b (i : Int)).bind fun t => word_Words.l0 k b (acc ++ [t.1]) ((b.length / 8 : Nat) : Int) ((i + 1 : Nat) : Int)) (fun k => ?_) (Ev.bind (wordGet_yes b hB i hb (by omega)) (ih (i + 1) (by omega) _ ?_))
    · simp only [word_Words.l0]
      rw [if_pos (by omega), w64 (by omega) (by omega), show (i : Int) + 1 = ((i + 1 : Nat) : Int) by omega]
      simp only [if_pos (show acc.length < 17592186044416 by omega)]
    · rw [h, List.range_succ, List.map_append]; rfl
theorem wordWords_yes (b : List Int) (hB : IsB b) (hb : b.length ≤ 140737488351232) (h8 : b.length % 8 = 0) : Ev (fun k => word_Words.f k b) (wordsS b, true) := by
  refine Ev.congr (fun k => ?_) (wordWords_l0 b hB hb (b.length / 8) 0 (by omega) [] rfl)
  unfold word_Words.f
  rw [if_pos (by omega), w64 (by omega) (by omega), if_pos (by omega), if_pos (by omega)]; rfl
theorem wordWords_no (b : List Int) (h8 : b.length % 8 ≠ 0) : Ev (fun k => word_Words.f k b) ([], false) := by
  refine Ev.congr (fun k => ?_) (Ev.now _)
  unfold word_Words.f
  rw [if_neg (by omega)]
theorem wordBytes_l1 (x5 : Int) (x11 : List Int) (x12 x13 r) : ∀ d j : Nat, j + d = 8 → ∀ x3 : List Int, x3.length + d < 140737488355328 → Ev (fun k => word_Bytes.l0 k (x3 ++ bs d (x5 / 256 ^ j)) x11 x12 (wrap64 (x13 + 1))) r → Ev (fun k => word_Bytes.l1 k x3 x5 x11 x12 x13 (j : Int)) r := by
  intro d
  induction d with
  | zero =>
    intro j hj x3 hl h
    obtain rfl : j = 8 := by omega
    refine Ev.step (fun k => ?_) h
    simp only [word_Bytes.l1]
    rw [if_neg (by omega)]
    simp [bs]
  | succ d ih =>
    intro j hj x3 hl h
    refine Ev.step (f := fun k => word_Bytes.l1 k (x3 ++ [x5 / 256 ^ j % 256]) x5 x11 x12 x13 ((j + 1 : Nat) : Int)) (fun k => ?_) (ih (j + 1) (by omega) _ (by simp; omega) ?_)
    · simp only [word_Bytes.l1]
      rw [if_pos (by omega), if_pos (by rw [w64 (by omega) (by omega), wu (by omega) (by omega)]; omega), if_pos (by omega), shr8 _ _ (by omega), w64 (by omega) (by omega), show (j : Int) + 1 = ((j + 1 : Nat) : Int) by omega]
    · rw [List.append_assoc, List.singleton_append, Int.pow_succ, ← Int.ediv_ediv_of_nonneg (Int.pow_nonneg (by decide))]; exact h
theorem wordBytes_l0 (x0 : List Int) (hx : x0.length * 8 < 140737488355328) : ∀ d i : Nat, i + d = x0.length → ∀ x3 : List Int, x3 = bytesS (x0.take i) → Ev (fun k => word_Bytes.l0 k x3 x0 (x0.length : Int) (i : Int)) (bytesS x0) := by
  intro d
  induction d with
  | zero =>
    intro i hi x3 h
    refine Ev.step (f := fun _ => some x3) (fun k => ?_) ?_
    · simp only [word_Bytes.l0]; rw [if_neg (by omega)]
    · rw [h, List.take_of_length_le (by omega)]; exact Ev.now _
  | succ d ih =>
    intro i hi x3 h
    refine Ev.step (f := fun k => word_Bytes.l1 k x3 (rd x0 (i : Int)) x0 (x0.length : Int) (i : Int) ((0 : Nat) : Int)) (fun k => ?_) (wordBytes_l1 _ x0 _ _ _ 8 0 rfl _ ?_ ?_)
    · simp only [word_Bytes.l0]; rw [if_pos (by omega), if_pos (by omega), if_pos (by omega)]; rfl
    · rw [h, bytesS_length, List.length_take]; omega
    · rw [w64 (by omega) (by omega), show (i : Int) + 1 = ((i + 1 : Nat) : Int) by omega]
      refine ih (i + 1) (by omega) _ ?_
      rw [take_rd (by omega), bytesS_append, h]; simp [bytesS]
theorem wordBytes (l : List Int) (hx : l.length * 8 < 140737488355328) : Ev (fun k => word_Bytes.f k l) (bytesS l) := by
  refine Ev.congr (fun k => ?_) (wordBytes_l0 l hx l.length 0 (by omega) [] rfl)
  unfold word_Bytes.f
  rw [if_pos (by rw [w64 (by omega) (by omega)]; omega), if_pos (by rw [w64 (by omega) (by omega)]; omega)]
  rfl
theorem tagOf_step (x3 : Int) (l : List Int) (hl : l.length = 8) (i : Nat) (hi : i < 8) (k : Nat) : tagbyte_Of.l0 (k + 1) x3 l 8 (i : Int) = if rd l (i : Int) = 0 then tagbyte_Of.l0 k x3 l 8 ((i + 1 : Nat) : Int) else tagbyte_Of.l0 k (Go.bits .or .u8 x3 (shl .u8 1 (i : Int))) l 8 ((i + 1 : Nat) : Int) := by
  simp only [tagbyte_Of.l0]
  rw [if_pos (show (i : Int) < 8 by omega), if_pos (show 0 ≤ (i : Int) by omega), if_pos (show (i : Int) < (l.length : Int) by omega), wrap_succ i (by omega), wu (by omega) (by omega)]
  simp only [if_pos (show 0 ≤ (i : Int) by omega)]
theorem or_tag : ∀ i : Fin 8, ∀ n : Fin 256, n.val < 2 ^ i.val → Go.bits .or .u8 ((n.val : Nat) : Int) (shl .u8 1 ((i.val : Nat) : Int)) = ((n.val : Nat) : Int) + 2 ^ i.val := by decide +kernel
theorem tagOf_l0 (l : List Int) (hl : l.length = 8) : ∀ d i : Nat, i + d = 8 → ∀ x3 : Int, x3 = tagL (l.take i) → Ev (fun k => tagbyte_Of.l0 k x3 l 8 (i : Int)) (tagL l) := by
  intro d
  induction d with
  | zero =>
    intro i hi x3 h
    refine Ev.step (f := fun _ => some x3) (fun k => ?_) ?_
    · simp only [tagbyte_Of.l0]; rw [if_neg (by omega)]
    · rw [h, List.take_of_length_le (by omega)]; exact Ev.now _
  | succ d ih =>
    intro i hi x3 h
    have ht : l.take (i + 1) = l.take i ++ [rd l (i : Int)] := take_rd (by omega)
    have hlen : (l.take i).length = i := by rw [List.length_take]; omega
    refine Ev.step (tagOf_step x3 l hl i (by omega)) ?_
    by_cases h0 : rd l (i : Int) = 0
    · refine Ev.congr (fun k => if_pos h0) (ih (i + 1) (by omega) _ ?_)
      rw [ht, tagL_append, h0, h]; simp [tagL]
    · refine Ev.congr (fun k => if_neg h0) (ih (i + 1) (by omega) _ ?_)
      have h1 := tagL_nonneg (l.take i)
      have h2 := tagL_lt (l.take i)
      rw [hlen] at h2
      rw [ht, tagL_append, hlen, ← h]
      rw [← h] at h1 h2
      obtain ⟨n, rfl⟩ := Int.eq_ofNat_of_zero_le h1
      have h3 : n < 2 ^ i := by exact_mod_cast h2
      have h4 : (2 : Nat) ^ i ≤ 2 ^ 8 := Nat.pow_le_pow_right (by decide) (by omega)
      have := or_tag ⟨i, by omega⟩ ⟨n, Nat.lt_of_lt_of_le h3 h4⟩ h3
      rw [this]; simp [tagL, h0]
theorem tagOf (w : Int) : Ev (fun k => tagbyte_Of.f k w) (ofS w) := by
  unfold tagbyte_Of.f
  refine Ev.bind (wordBytes [w] (by simp)) ?_
  have e : bytesS [w] = bs 8 w := by simp [bytesS]
  rw [e, bs_length]
  exact tagOf_l0 _ (bs_length 8 w) 8 0 rfl 0 rfl
theorem bitsOnes_all : ∀ n : Fin 256, bits_OnesCount8.f ((n.val : Nat) : Int) = some ((onesS ((n.val : Nat) : Int) : Nat) : Int) := by decide +kernel
theorem bitsOnes {t : Int} (h0 : 0 ≤ t) (h1 : t < 256) : bits_OnesCount8.f t = some ((onesS t : Nat) : Int) := by
  obtain ⟨n, rfl⟩ := Int.eq_ofNat_of_zero_le h0
  exact bitsOnes_all ⟨n, by omega⟩
theorem tagOnes {t : Int} (h0 : 0 ≤ t) (h1 : t < 256) : tagbyte_Ones.f t = some ((onesS t : Nat) : Int) := by
  unfold tagbyte_Ones.f
  rw [bitsOnes h0 h1]; rfl
theorem tagDense (w : Int) : Ev (fun k => tagbyte_Dense.f k w) (decide (7 ≤ (nzS w).length)) := by
  unfold tagbyte_Dense.f
  refine Ev.bind (tagOf w) ?_
  have h := ofS_range w
  rw [tagOnes h.1 h.2, ones_ofS, Option.bind_some]
  have e : decide (((nzS w).length : Int) ≥ 7) = decide (7 ≤ (nzS w).length) := by simp only [decide_eq_decide]; omega
  rw [e]; exact Ev.now _
theorem tagBytes_l0 (l : List Int) (hl : l.length = 8) : ∀ d i : Nat, i + d = 8 → ∀ x3 : List Int, x3 = nz (l.take i) → Ev (fun k => tagbyte_Bytes.l0 k x3 l 8 (i : Int)) (nz l) := by
  intro d
  induction d with
  | zero =>
    intro i hi x3 h
    refine Ev.step (f := fun _ => some x3) (fun k => ?_) ?_
    · simp only [tagbyte_Bytes.l0]; rw [if_neg (by omega)]
    · rw [h, List.take_of_length_le (by omega)]; exact Ev.now _
  | succ d ih =>
    intro i hi x3 h
    have hx : x3.length ≤ 8 := by rw [h]; have := nz_length_le (l.take i); rw [List.length_take] at this; omega
    have ht : l.take (i + 1) = l.take i ++ [rd l (i : Int)] := take_rd (by omega)
    refine Ev.step (f := fun k => if rd l (i : Int) = 0 then tagbyte_Bytes.l0 k x3 l 8 ((i + 1 : Nat) : Int) else tagbyte_Bytes.l0 k (x3 ++ [rd l (i : Int)]) l 8 ((i + 1 : Nat) : Int)) (fun k => ?_) ?_
    · simp only [tagbyte_Bytes.l0]
      rw [if_pos (show (i : Int) < 8 by omega), if_pos (show 0 ≤ (i : Int) by omega), if_pos (show (i : Int) < (l.length : Int) by omega), wrap_succ i (by omega)]
      simp only [if_pos (show x3.length < 140737488355328 by omega)]
    · by_cases h0 : rd l (i : Int) = 0
      · refine Ev.congr (fun k => if_pos h0) (ih (i + 1) (by omega) _ ?_)
        rw [ht, nz_append, nz_cons, if_pos h0, nz_nil, List.append_nil, h]
      · refine Ev.congr (fun k => if_neg h0) (ih (i + 1) (by omega) _ ?_)
        rw [ht, nz_append, nz_cons, if_neg h0, nz_nil, h]
theorem tagBytes (w : Int) : Ev (fun k => tagbyte_Bytes.f k w) (nzS w) := by
  unfold tagbyte_Bytes.f
  refine Ev.bind (wordBytes [w] (by simp)) ?_
  have e : bytesS [w] = bs 8 w := by simp [bytesS]
  rw [e, bs_length]
  exact tagBytes_l0 _ (bs_length 8 w) 8 0 rfl [] rfl
end Go.Proofs.Ytibkbgaonjdpiaa.QPaBase
