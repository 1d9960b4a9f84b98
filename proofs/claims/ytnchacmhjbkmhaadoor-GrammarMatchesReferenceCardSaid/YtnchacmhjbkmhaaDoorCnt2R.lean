/- Ways as a sum modulo 2^64. -/
import Derived.Test.YtnchacmhjbkmhaaDoorCntR
namespace Go.Proofs.YtnchacmhjbkmhaaDoor.UnWays
open Go Go.RowKit Go.Proofs.YtnchacmhjbkmhaaDoor.M Go.Proofs.YtnchacmhjbkmhaaDoor.Un Go.Proofs.YtnchacmhjbkmhaaDoorW.PrintWords Go.Proofs.YtnchacmhjbkmhaaDoorW.PrintLast Go.Proofs.YtnchacmhjbkmhaaDoorW.PrintMore
set_option linter.unusedVariables false
set_option linter.unusedSimpArgs false
set_option maxRecDepth 10000
def sumV (nx : Nat → Int) (vs : List (Int × Nat × Int)) : Int := (vs.map (fun v => v.2.2 * nx v.2.1)).sum
theorem fold_sum (nx : Nat → Int) : ∀ (vs : List (Int × Nat × Int)) (a : Int), 0 ≤ a → a < 18446744073709551616 → vs.foldl (fun a v => stv a (nx v.2.1) v.1 v.2.2) a = (a + sumV nx vs) % 18446744073709551616
  | [], a, h0, h1 => by simp [sumV]; omega
  | v :: vs, a, h0, h1 => by
    have e : stv a (nx v.2.1) v.1 v.2.2 = (a + v.2.2 * nx v.2.1) % 18446744073709551616 := by
      unfold stv; rw [wu_mod, wu_mod, Int.add_emod_emod]
    rw [List.foldl_cons, e, fold_sum nx vs _ (Int.emod_nonneg _ (by decide)) (Int.emod_lt_of_pos _ (by decide)), Int.emod_add_emod]
    simp only [sumV, List.map_cons, List.sum_cons]
    rw [Int.add_assoc]
theorem sumV_append (nx : Nat → Int) (a b : List (Int × Nat × Int)) : sumV nx (a ++ b) = sumV nx a + sumV nx b := by simp [sumV]
theorem sumV_one (nx : Nat → Int) (on : Nat) : ∀ (k i : Nat) (m : Int), sumV nx (vis1 on k i m) = manyS (vis1 on k i m) * nx 1 := by
  have key : ∀ l : List (Int × Nat × Int), (∀ v ∈ l, v.2.1 = 1) → sumV nx l = manyS l * nx 1 := by
    intro l
    induction l with
    | nil => intro _; simp [sumV, manyS]
    | cons v l ih =>
      intro h
      have h1 := h v List.mem_cons_self
      have h2 := ih (fun x hx => h x (List.mem_cons_of_mem _ hx))
      simp only [sumV, manyS] at h2
      simp only [sumV, manyS, List.map_cons, List.sum_cons, h1, Int.add_mul, h2]
  intro k i m
  exact key _ (vis1_pos on k i m)
def restF (ws : List Int) (nx : Nat → Int) (z : Nat) : Nat → Nat → Int
  | 0, _ => 0
  | d + 1, n => nx n + (if n ≤ z then nx n else 0) + restF ws nx z d (n + 1)
def sum3 (nx : Nat → Int) : Nat → Nat → Int
  | 0, _ => 0
  | d + 1, n => nx n + sum3 nx d (n + 1)
theorem sumV_vis3 (nx : Nat → Int) : ∀ (d n : Nat), sumV nx (vis3 d n) = sum3 nx d n
  | 0, _ => rfl
  | d + 1, n => by
    have := sumV_vis3 nx d (n + 1)
    simp only [sumV] at this
    rw [vis3, sum3]; simp only [sumV, List.map_cons, List.sum_cons, this, Int.one_mul]
def sum2 (nx : Nat → Int) (z : Nat) : Nat → Nat → Int
  | 0, _ => 0
  | d + 1, n => (if n ≤ z then nx n else 0) + sum2 nx z d (n + 1)
theorem sum2_none (nx : Nat → Int) (z : Nat) : ∀ (d n : Nat), z < n → sum2 nx z d n = 0
  | 0, _, _ => rfl
  | d + 1, n, h => by rw [sum2, if_neg (by omega), sum2_none nx z d (n + 1) (by omega)]; rfl
theorem sumV_vis2 (ws : List Int) (nx : Nat → Int) (z : Nat) (hz : ∀ j : Nat, j < z → rd ws (j : Int) = 0) : ∀ (d n : Nat), 1 ≤ n → n ≤ z + 1 → (z < n + d - 1 → rd ws (z : Int) ≠ 0) → sumV nx (vis2 ws d n) = sum2 nx z d n
  | 0, _, _, _, _ => rfl
  | d + 1, n, h1, h2, h3 => by
    rw [vis2, sum2, show (n : Int) - 1 = ((n - 1 : Nat) : Int) by omega]
    by_cases q : n ≤ z
    · rw [if_pos (hz _ (by omega)), if_pos q]
      have := sumV_vis2 ws nx z hz d (n + 1) (by omega) (by omega) (fun h => h3 (by omega))
      simp only [sumV] at this
      simp only [sumV, List.map_cons, List.sum_cons, this, Int.one_mul]
    · have e : n = z + 1 := by omega
      rw [if_neg (by rw [e]; exact h3 (by omega)), if_neg q, sum2_none nx z d (n + 1) (by omega)]
      simp [sumV]
theorem rest_eq (ws : List Int) (nx : Nat → Int) (z : Nat) : ∀ (d n : Nat), restF ws nx z d n = sum2 nx z d n + sum3 nx d n
  | 0, _ => rfl
  | d + 1, n => by rw [restF, sum2, sum3, rest_eq ws nx z d (n + 1)]; omega
theorem Dv_sum {ws : List Int} (h0 : 0 < ws.length) (hw : 0 ≤ rd ws 0 ∧ rd ws 0 < 18446744073709551616) (z : Nat) (hz : ∀ j : Nat, j < z → rd ws (j : Int) = 0) (hz1 : z ≤ min ws.length 256) (hz2 : z < min ws.length 256 → rd ws (z : Int) ≠ 0) :
    Dv ws = (cntF (ofS (rd ws 0)) 254 1 * Dv (ws.drop 1) + restF ws (fun n => Dv (ws.drop n)) z (min ws.length 256) 1) % 18446744073709551616 := by
  have ho := ofS_range (rd ws 0)
  have hc := count_tags ⟨(ofS (rd ws 0)).toNat, by omega⟩
  simp only [Int.toNat_of_nonneg ho.1] at hc
  rw [Dv_eq h0, fold_sum (fun n => Dv (ws.drop n)) (vis ws) 0 (by decide) (by decide), Int.zero_add]
  congr 1
  rw [vis, sumV_append, sumV_append, sumV_one, hc, sumV_vis3, sumV_vis2 ws _ z hz _ 1 (by omega) (by omega) (fun h => hz2 (by omega)), rest_eq]
end Go.Proofs.YtnchacmhjbkmhaaDoor.UnWays
