/- Plain facts on words and their bytes: the little-endian value of bytes, the bytes of a word, both ways; no program in sight. -/
import Derived.Test.YtpffoecblcfndaaDoorMR
namespace Go.Proofs.YtpffoecblcfndaaDoor.M
open Go Go.RowKit Go.Proofs.YtpffoecblcfndaaDoorW.PrintWords Go.Proofs.YtpffoecblcfndaaDoorW.PrintLast Go.Proofs.YtpffoecblcfndaaDoorW.PrintMore
set_option linter.unusedVariables false
set_option linter.unusedSimpArgs false
def IsB (l : List Int) : Prop := ∀ x ∈ l, 0 ≤ x ∧ x < 256
def IsW (l : List Int) : Prop := ∀ x ∈ l, 0 ≤ x ∧ x < 18446744073709551616
theorem IsB.take {l : List Int} (h : IsB l) (n : Nat) : IsB (l.take n) := fun x hx => h x (List.mem_of_mem_take hx)
theorem IsB.drop {l : List Int} (h : IsB l) (n : Nat) : IsB (l.drop n) := fun x hx => h x (List.mem_of_mem_drop hx)
theorem IsW.take {l : List Int} (h : IsW l) (n : Nat) : IsW (l.take n) := fun x hx => h x (List.mem_of_mem_take hx)
theorem IsW.drop {l : List Int} (h : IsW l) (n : Nat) : IsW (l.drop n) := fun x hx => h x (List.mem_of_mem_drop hx)
theorem IsB.append {l m : List Int} (h : IsB l) (h' : IsB m) : IsB (l ++ m) := fun x hx => by
  rcases List.mem_append.mp hx with hx | hx
  · exact h x hx
  · exact h' x hx
theorem IsW.append {l m : List Int} (h : IsW l) (h' : IsW m) : IsW (l ++ m) := fun x hx => by
  rcases List.mem_append.mp hx with hx | hx
  · exact h x hx
  · exact h' x hx
theorem IsB.cons {x : Int} {l : List Int} (h0 : 0 ≤ x) (h1 : x < 256) (h : IsB l) : IsB (x :: l) := fun y hy => by
  rcases List.mem_cons.mp hy with rfl | hy
  · exact ⟨h0, h1⟩
  · exact h y hy
theorem IsW.cons {x : Int} {l : List Int} (h0 : 0 ≤ x) (h1 : x < 18446744073709551616) (h : IsW l) : IsW (x :: l) := fun y hy => by
  rcases List.mem_cons.mp hy with rfl | hy
  · exact ⟨h0, h1⟩
  · exact h y hy
theorem IsB.nil : IsB [] := fun x hx => by simp at hx
theorem IsW.nil : IsW [] := fun x hx => by simp at hx
theorem rd_lt {l : List Int} {i : Nat} (h : i < l.length) : rd l (i : Int) = l[i] := by simp [rd, h]
theorem rd_B {l : List Int} (h : IsB l) (i : Int) : 0 ≤ rd l i ∧ rd l i < 256 := by
  unfold rd
  by_cases hi : i.toNat < l.length
  · rw [List.getD_eq_getElem?_getD, List.getElem?_eq_getElem hi]; exact h _ (List.getElem_mem hi)
  · rw [List.getD_eq_getElem?_getD, List.getElem?_eq_none (by omega)]; decide
theorem rd_W {l : List Int} (h : IsW l) (i : Int) : 0 ≤ rd l i ∧ rd l i < 18446744073709551616 := by
  unfold rd
  by_cases hi : i.toNat < l.length
  · rw [List.getD_eq_getElem?_getD, List.getElem?_eq_getElem hi]; exact h _ (List.getElem_mem hi)
  · rw [List.getD_eq_getElem?_getD, List.getElem?_eq_none (by omega)]; decide
theorem take_rd {l : List Int} {i : Nat} (h : i < l.length) : l.take (i + 1) = l.take i ++ [rd l (i : Int)] := by
  rw [rd_lt h, List.take_succ_eq_append_getElem h]
theorem drop_rd {l : List Int} {i : Nat} (h : i < l.length) : l.drop i = rd l (i : Int) :: l.drop (i + 1) := by
  rw [rd_lt h, List.drop_eq_getElem_cons h]
def val : List Int → Int
  | [] => 0
  | x :: l => x + 256 * val l
def bs : Nat → Int → List Int
  | 0, _ => []
  | n + 1, w => w % 256 :: bs n (w / 256)
theorem bs_length (n : Nat) : ∀ w, (bs n w).length = n := by
  induction n with
  | zero => intro w; rfl
  | succ n ih => intro w; simp [bs, ih]
theorem val_nonneg : ∀ l, IsB l → 0 ≤ val l
  | [], _ => by simp [val]
  | x :: l, h => by
    have h1 := h x List.mem_cons_self
    have h2 := val_nonneg l (fun y hy => h y (List.mem_cons_of_mem _ hy))
    simp only [val]; omega
theorem val_lt : ∀ l, IsB l → val l < 256 ^ l.length
  | [], _ => by simp [val]
  | x :: l, h => by
    have h1 := h x List.mem_cons_self
    have h2 := val_lt l (fun y hy => h y (List.mem_cons_of_mem _ hy))
    simp only [val, List.length_cons, Int.pow_succ]; omega
theorem val_append (l m : List Int) : val (l ++ m) = val l + 256 ^ l.length * val m := by
  induction l with
  | nil => simp [val]
  | cons x l ih =>
    simp only [List.cons_append, val, ih, List.length_cons, Int.pow_succ]
    rw [Int.mul_add, Int.add_assoc, Int.mul_comm (256 ^ l.length) 256, Int.mul_assoc]
theorem pow256_8 : (256 : Int) ^ 8 = 18446744073709551616 := by decide
theorem val_lt8 {l : List Int} (h : IsB l) (hl : l.length = 8) : 0 ≤ val l ∧ val l < 18446744073709551616 := by
  have := val_lt l h
  rw [hl, pow256_8] at this
  exact ⟨val_nonneg l h, this⟩
theorem shr8 (w : Int) (j : Nat) (hj : j < 8) : shr .u64 w (IntKind.u64.wrap (wrap64 (8 * (j : Int)))) = w / 256 ^ j := by
  rw [w64 (by omega) (by omega), wu (by omega) (by omega)]
  unfold shr
  rw [show (IntKind.u64.bits : Nat) = 64 from rfl, Nat.min_eq_left (by omega), show (8 * (j : Int)).toNat = 8 * j by omega, Int.pow_mul]
  rfl
def chunk (b : List Int) (i : Nat) : List Int := (b.drop (8 * i)).take 8
theorem chunk_B {b : List Int} (h : IsB b) (i : Nat) : IsB (chunk b i) := (h.drop _).take _
theorem chunk_length {b : List Int} {i : Nat} (h : i < b.length / 8) : (chunk b i).length = 8 := by
  simp [chunk]; omega
def getS (b : List Int) (i : Nat) : Int := val (chunk b i)
def bytesS (l : List Int) : List Int := l.flatMap (bs 8)
theorem bytesS_length (l : List Int) : (bytesS l).length = 8 * l.length := by
  induction l with
  | nil => rfl
  | cons x l ih => simp only [bytesS, List.flatMap_cons, List.length_append, bs_length, List.length_cons] at *; omega
theorem bytesS_append (l m : List Int) : bytesS (l ++ m) = bytesS l ++ bytesS m := by simp [bytesS]
theorem chunk_zero (b : List Int) : chunk b 0 = b.take 8 := by simp [chunk]
end Go.Proofs.YtpffoecblcfndaaDoor.M
