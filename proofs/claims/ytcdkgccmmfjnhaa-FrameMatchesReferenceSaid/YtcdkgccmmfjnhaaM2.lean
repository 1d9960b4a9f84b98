/- Plain facts on words and their bytes: the little-endian value of bytes, the bytes of a word, both ways; no program in sight. -/
import Derived.Test.YtcdkgccmmfjnhaaM
namespace Go.Proofs.Ytcdkgccmmfjnhaa.M
open Go Go.RowKit Go.Proofs.YtcdkgccmmfjnhaaW.PrintWords Go.Proofs.YtcdkgccmmfjnhaaW.PrintLast Go.Proofs.YtcdkgccmmfjnhaaW.PrintMore
set_option linter.unusedVariables false
set_option linter.unusedSimpArgs false

/-- every entry is a byte -/
def IsB (l : List Int) : Prop := ∀ x ∈ l, 0 ≤ x ∧ x < 256
/-- every entry is a word -/
def IsW (l : List Int) : Prop := ∀ x ∈ l, 0 ≤ x ∧ x < 18446744073709551616
theorem isB_of {l : List Int} (h : ∀ x ∈ l, (Lit.int .u8 x).wf = true) : IsB l := fun x hx => wf_u8 (h x hx)
theorem isW_of {l : List Int} (h : ∀ x ∈ l, (Lit.int .u64 x).wf = true) : IsW l := fun x hx => wf_u64 (h x hx)
theorem IsB.take {l : List Int} (h : IsB l) (n : Nat) : IsB (l.take n) := fun x hx => h x (List.mem_of_mem_take hx)
theorem IsB.drop {l : List Int} (h : IsB l) (n : Nat) : IsB (l.drop n) := fun x hx => h x (List.mem_of_mem_drop hx)
theorem IsW.take {l : List Int} (h : IsW l) (n : Nat) : IsW (l.take n) := fun x hx => h x (List.mem_of_mem_take hx)
theorem IsW.drop {l : List Int} (h : IsW l) (n : Nat) : IsW (l.drop n) := fun x hx => h x (List.mem_of_mem_drop hx)
theorem IsB.append {l m : List Int} (h : IsB l) (h' : IsB m) : IsB (l ++ m) := fun x hx => by
  rcases List.mem_append.mp hx with hx | hx
  · exact h x hx
  · exact h' x hx
theorem IsW.append {l m : List Int} (h : IsW l) (h' : IsW m) : IsW (l ++ m) := fun x hx => by
  rcases List.mem_append.mp hx with hx | hx
  · exact h x hx
  · exact h' x hx
theorem IsB.cons {x : Int} {l : List Int} (h0 : 0 ≤ x) (h1 : x < 256) (h : IsB l) : IsB (x :: l) := fun y hy => by
  rcases List.mem_cons.mp hy with rfl | hy
  · exact ⟨h0, h1⟩
  · exact h y hy
theorem IsW.cons {x : Int} {l : List Int} (h0 : 0 ≤ x) (h1 : x < 18446744073709551616) (h : IsW l) : IsW (x :: l) := fun y hy => by
  rcases List.mem_cons.mp hy with rfl | hy
  · exact ⟨h0, h1⟩
  · exact h y hy
theorem IsB.nil : IsB [] := fun x hx => by simp at hx
theorem IsW.nil : IsW [] := fun x hx => by simp at hx

theorem rd_nat (l : List Int) (i : Nat) : rd l (i : Int) = l.getD i 0 := by simp [rd]
theorem rd_lt {l : List Int} {i : Nat} (h : i < l.length) : rd l (i : Int) = l[i] := by simp [rd, h]
theorem rd_B {l : List Int} (h : IsB l) (i : Int) : 0 ≤ rd l i ∧ rd l i < 256 := by
  unfold rd
  by_cases hi : i.toNat < l.length
  · rw [List.getD_eq_getElem?_getD, List.getElem?_eq_getElem hi]; exact h _ (List.getElem_mem hi)
  · rw [List.getD_eq_getElem?_getD, List.getElem?_eq_none (by omega)]; decide
theorem rd_W {l : List Int} (h : IsW l) (i : Int) : 0 ≤ rd l i ∧ rd l i < 18446744073709551616 := by
  unfold rd
  by_cases hi : i.toNat < l.length
  · rw [List.getD_eq_getElem?_getD, List.getElem?_eq_getElem hi]; exact h _ (List.getElem_mem hi)
  · rw [List.getD_eq_getElem?_getD, List.getElem?_eq_none (by omega)]; decide
theorem take_rd {l : List Int} {i : Nat} (h : i < l.length) : l.take (i + 1) = l.take i ++ [rd l (i : Int)] := by
  rw [rd_lt h, List.take_succ_eq_append_getElem h]
theorem drop_rd {l : List Int} {i : Nat} (h : i < l.length) : l.drop i = rd l (i : Int) :: l.drop (i + 1) := by
  rw [rd_lt h, List.drop_eq_getElem_cons h]

/-- the little-endian value of bytes -/
def val : List Int → Int
  | [] => 0
  | x :: l => x + 256 * val l
/-- the n lowest bytes of a number -/
def bs : Nat → Int → List Int
  | 0, _ => []
  | n + 1, w => w % 256 :: bs n (w / 256)
theorem bs_length (n : Nat) : ∀ w, (bs n w).length = n := by
  induction n with
  | zero => intro w; rfl
  | succ n ih => intro w; simp [bs, ih]
theorem bs_B (n : Nat) : ∀ w, IsB (bs n w) := by
  induction n with
  | zero => intro w; exact IsB.nil
  | succ n ih => intro w; exact IsB.cons (by omega) (by omega) (ih _)
theorem val_nonneg : ∀ l, IsB l → 0 ≤ val l
  | [], _ => by simp [val]
  | x :: l, h => by
    have h1 := h x List.mem_cons_self
    have h2 := val_nonneg l (fun y hy => h y (List.mem_cons_of_mem _ hy))
    simp only [val]; omega
theorem val_lt : ∀ l, IsB l → val l < 256 ^ l.length
  | [], _ => by simp [val]
  | x :: l, h => by
    have h1 := h x List.mem_cons_self
    have h2 := val_lt l (fun y hy => h y (List.mem_cons_of_mem _ hy))
    simp only [val, List.length_cons, Int.pow_succ]; omega
theorem val_append (l m : List Int) : val (l ++ m) = val l + 256 ^ l.length * val m := by
  induction l with
  | nil => simp [val]
  | cons x l ih =>
    simp only [List.cons_append, val, ih, List.length_cons, Int.pow_succ]
    rw [Int.mul_add, Int.add_assoc, Int.mul_comm (256 ^ l.length) 256, Int.mul_assoc]
theorem val_bs (n : Nat) : ∀ w, val (bs n w) = w % 256 ^ n := by
  induction n with
  | zero => intro w; simp [bs, val]
  | succ n ih =>
    intro w
    simp only [bs, val, ih, Int.pow_succ]
    rw [Int.emod_def w (256 ^ n * 256), Int.mul_comm (256 ^ n) 256, ← Int.ediv_ediv_of_nonneg (by decide), Int.emod_def (w / 256), Int.emod_def w 256, Int.mul_sub, ← Int.mul_assoc]
    omega
theorem bs_val : ∀ l, IsB l → bs l.length (val l) = l
  | [], _ => by simp [bs]
  | x :: l, h => by
    have h1 := h x List.mem_cons_self
    have h2 := bs_val l (fun y hy => h y (List.mem_cons_of_mem _ hy))
    simp only [val, List.length_cons, bs]
    rw [show (x + 256 * val l) % 256 = x by omega, show (x + 256 * val l) / 256 = val l by omega, h2]
theorem pow256_8 : (256 : Int) ^ 8 = 18446744073709551616 := by decide
theorem val_bs8 {w : Int} (h0 : 0 ≤ w) (h1 : w < 18446744073709551616) : val (bs 8 w) = w := by
  rw [val_bs, pow256_8]; omega
theorem val_lt8 {l : List Int} (h : IsB l) (hl : l.length = 8) : 0 ≤ val l ∧ val l < 18446744073709551616 := by
  have := val_lt l h
  rw [hl, pow256_8] at this
  exact ⟨val_nonneg l h, this⟩
theorem bs_val8 {l : List Int} (h : IsB l) (hl : l.length = 8) : bs 8 (val l) = l := by
  have := bs_val l h
  rwa [hl] at this
/-- a cut of the bytes of a number -/
theorem bs_shift (n : Nat) : ∀ (j : Nat) (w : Int), bs (j + n) w = bs j w ++ bs n (w / 256 ^ j) := by
  intro j
  induction j with
  | zero => intro w; simp [bs]
  | succ j ih =>
    intro w
    rw [show j + 1 + n = (j + n) + 1 by omega]
    simp only [bs, ih, List.cons_append]
    rw [Int.ediv_ediv_of_nonneg (by decide), Int.pow_succ, Int.mul_comm 256]
theorem shr8 (w : Int) (j : Nat) (hj : j < 8) : shr .u64 w (IntKind.u64.wrap (wrap64 (8 * (j : Int)))) = w / 256 ^ j := by
  rw [w64 (by omega) (by omega), wu (by omega) (by omega)]
  unfold shr
  rw [show (IntKind.u64.bits : Nat) = 64 from rfl, Nat.min_eq_left (by omega), show (8 * (j : Int)).toNat = 8 * j by omega, Int.pow_mul]
  rfl

/-- the i-th eight bytes -/
def chunk (b : List Int) (i : Nat) : List Int := (b.drop (8 * i)).take 8
theorem chunk_B {b : List Int} (h : IsB b) (i : Nat) : IsB (chunk b i) := (h.drop _).take _
theorem chunk_length {b : List Int} {i : Nat} (h : i < b.length / 8) : (chunk b i).length = 8 := by
  simp [chunk]; omega
/-- word i of bytes -/
def getS (b : List Int) (i : Nat) : Int := val (chunk b i)
def wordsS (b : List Int) : List Int := (List.range (b.length / 8)).map (getS b)
def bytesS (l : List Int) : List Int := l.flatMap (bs 8)
theorem getS_W {b : List Int} (h : IsB b) {i : Nat} (hi : i < b.length / 8) : 0 ≤ getS b i ∧ getS b i < 18446744073709551616 := val_lt8 (chunk_B h i) (chunk_length hi)
theorem wordsS_length (b : List Int) : (wordsS b).length = b.length / 8 := by simp [wordsS]
theorem wordsS_W {b : List Int} (h : IsB b) : IsW (wordsS b) := fun x hx => by
  simp only [wordsS, List.mem_map, List.mem_range] at hx
  obtain ⟨i, hi, rfl⟩ := hx
  exact getS_W h hi
theorem bytesS_length (l : List Int) : (bytesS l).length = 8 * l.length := by
  induction l with
  | nil => rfl
  | cons x l ih => simp only [bytesS, List.flatMap_cons, List.length_append, bs_length, List.length_cons] at *; omega
theorem bytesS_B (l : List Int) : IsB (bytesS l) := fun x hx => by
  simp only [bytesS, List.mem_flatMap] at hx
  obtain ⟨w, _, hw⟩ := hx
  exact bs_B 8 w x hw
theorem bytesS_nil : bytesS [] = [] := rfl
theorem bytesS_cons (x : Int) (l : List Int) : bytesS (x :: l) = bs 8 x ++ bytesS l := rfl
theorem bytesS_append (l m : List Int) : bytesS (l ++ m) = bytesS l ++ bytesS m := by simp [bytesS]
theorem chunk_zero (b : List Int) : chunk b 0 = b.take 8 := by simp [chunk]
theorem chunk_succ (b : List Int) (i : Nat) : chunk b (i + 1) = chunk (b.drop 8) i := by
  simp only [chunk, List.drop_drop]; rw [show 8 * (i + 1) = 8 + 8 * i by omega]
theorem wordsS_short {b : List Int} (h : b.length < 8) : wordsS b = [] := by
  have : b.length / 8 = 0 := by omega
  simp [wordsS, this]
theorem wordsS_long {b : List Int} (h : 8 ≤ b.length) : wordsS b = val (b.take 8) :: wordsS (b.drop 8) := by
  have e : b.length / 8 = (b.drop 8).length / 8 + 1 := by rw [List.length_drop]; omega
  unfold wordsS
  rw [e, List.range_succ_eq_map, List.map_cons, List.map_map]
  simp only [getS, chunk_zero, List.cons.injEq, true_and]
  apply List.map_congr_left
  intro i _
  simp [getS, chunk_succ]
theorem wordsS_bytesS : ∀ l : List Int, IsW l → wordsS (bytesS l) = l
  | [], _ => by simp [bytesS, wordsS]
  | x :: l, h => by
    have h1 := h x List.mem_cons_self
    rw [bytesS_cons, wordsS_long (by simp [bs_length]), List.take_append_of_le_length (by simp [bs_length]), List.take_of_length_le (by simp [bs_length]), List.drop_append_of_le_length (by simp [bs_length]), List.drop_of_length_le (by simp [bs_length]), List.nil_append, val_bs8 h1.1 h1.2, wordsS_bytesS l (fun y hy => h y (List.mem_cons_of_mem _ hy))]
theorem bytesS_wordsS (n : Nat) : ∀ b : List Int, b.length = 8 * n → IsB b → bytesS (wordsS b) = b := by
  induction n with
  | zero => intro b hb _; have : b = [] := List.length_eq_zero_iff.mp (by omega); subst this; rfl
  | succ n ih =>
    intro b hb h
    rw [wordsS_long (by omega), bytesS_cons, bs_val8 (h.take 8) (by rw [List.length_take]; omega), ih (b.drop 8) (by rw [List.length_drop]; omega) (h.drop 8), List.take_append_drop]
theorem chunk_bytesS : ∀ (l : List Int) (i : Nat), i < l.length → chunk (bytesS l) i = bs 8 (rd l (i : Int))
  | [], i, h => by simp at h
  | x :: l, 0, _ => by
    rw [chunk_zero, bytesS_cons, List.take_append_of_le_length (by simp [bs_length]), List.take_of_length_le (by simp [bs_length])]
    simp [rd]
  | x :: l, i + 1, h => by
    rw [chunk_succ, bytesS_cons, List.drop_append_of_le_length (by simp [bs_length]), List.drop_of_length_le (by simp [bs_length]), List.nil_append, chunk_bytesS l i (by simpa using h)]
    simp [rd]
theorem getS_bytesS {l : List Int} (h : IsW l) {i : Nat} (hi : i < l.length) : getS (bytesS l) i = rd l (i : Int) := by
  have := rd_W h (i : Int)
  rw [getS, chunk_bytesS l i hi, val_bs8 this.1 this.2]

end Go.Proofs.Ytcdkgccmmfjnhaa.M
