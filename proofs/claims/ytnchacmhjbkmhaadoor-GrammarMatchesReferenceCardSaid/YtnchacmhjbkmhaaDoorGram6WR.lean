/- What Ways computes, as a function of the list of words alone. -/
import Derived.Test.YtnchacmhjbkmhaaDoorGram5WR
import Derived.Test.YtnchacmhjbkmhaaDoorVisR
namespace Go.Proofs.YtnchacmhjbkmhaaDoor.UnWays
open Go Go.RowKit Go.Proofs.YtnchacmhjbkmhaaDoor.M Go.Proofs.YtnchacmhjbkmhaaDoor.Un Go.Proofs.YtnchacmhjbkmhaaDoorW.PrintWords Go.Proofs.YtnchacmhjbkmhaaDoorW.PrintLast Go.Proofs.YtnchacmhjbkmhaaDoorW.PrintMore
set_option linter.unusedVariables false
set_option linter.unusedSimpArgs false
set_option maxRecDepth 10000
def stv (a x size many : Int) : Int := IntKind.u64.wrap (a + IntKind.u64.wrap (many * x))
theorem stp_eq (S : List Int) (at_ next : Nat) (size many : Int) (h : at_ < S.length) : stp S at_ next size many = S.set at_ (stv (rd S (at_ : Int)) (rd S (next : Int)) size many) := by
  rfl
def fo (at_ : Nat) (vs : List (Int × Nat × Int)) (S : List Int) : List Int := vs.foldl (fun S v => stp S at_ (at_ + v.2.1) v.1 v.2.2) S
theorem lp1_fo (at_ on : Nat) : ∀ (k i : Nat) (m : Int) (S : List Int), lp1 at_ on k i m S = fo at_ (vis1 on k i m) S
  | 0, _, _, _ => rfl
  | k + 1, i, m, S => by
    rw [lp1, vis1, lp1_fo at_ on k]
    split <;> rfl
theorem lp2_fo (ws : List Int) (at_ : Nat) : ∀ (k n : Nat) (S : List Int), lp2 ws at_ k n S = fo at_ (vis2 ws k n) S
  | 0, _, _ => rfl
  | k + 1, n, S => by
    rw [lp2, vis2]
    split
    · rw [lp2_fo ws at_ k]; rfl
    · rfl
theorem lp3_fo (at_ : Nat) : ∀ (k n : Nat) (S : List Int), lp3 at_ k n S = fo at_ (vis3 k n) S
  | 0, _, _ => rfl
  | k + 1, n, S => by rw [lp3, lp3_fo at_ k]; rfl
theorem cho_fo (ws : List Int) (at_ : Nat) (S : List Int) : choS ws at_ S = fo at_ (vis ws) S := by
  unfold choS vis
  rw [lp1_fo, lp2_fo, lp3_fo]
  simp only [fo, List.foldl_append]
theorem fo_eq (at_ : Nat) : ∀ (vs : List (Int × Nat × Int)) (S : List Int), at_ < S.length → (∀ v ∈ vs, 1 ≤ v.2.1) → fo at_ vs S = S.set at_ (vs.foldl (fun a v => stv a (rd S ((at_ + v.2.1 : Nat) : Int)) v.1 v.2.2) (rd S (at_ : Int)))
  | [], S, h, _ => (set_rd S at_ h).symm
  | v :: vs, S, h, hv => by
    have h1 := hv v List.mem_cons_self
    have ih := fo_eq at_ vs (S.set at_ (stv (rd S (at_ : Int)) (rd S ((at_ + v.2.1 : Nat) : Int)) v.1 v.2.2)) (by rw [List.length_set]; exact h) (fun x hx => hv x (List.mem_cons_of_mem _ hx))
    show fo at_ vs (stp S at_ (at_ + v.2.1) v.1 v.2.2) = _
    rw [stp_eq S at_ _ _ _ h, ih, List.set_set, rd_set_eq _ _ _ h, List.foldl_cons]
    congr 1
    have key : ∀ (l : List (Int × Nat × Int)) (a x : Int), (∀ v ∈ l, 1 ≤ v.2.1) → l.foldl (fun a v => stv a (rd (S.set at_ x) ((at_ + v.2.1 : Nat) : Int)) v.1 v.2.2) a = l.foldl (fun a v => stv a (rd S ((at_ + v.2.1 : Nat) : Int)) v.1 v.2.2) a := by
      intro l
      induction l with
      | nil => intro a x _; rfl
      | cons y l ih2 =>
        intro a x hl
        have := hl y List.mem_cons_self
        rw [List.foldl_cons, List.foldl_cons, rd_set_ne _ _ _ _ (by omega), ih2 _ _ (fun z hz => hl z (List.mem_cons_of_mem _ hz))]
    exact key vs _ _ (fun x hx => hv x (List.mem_cons_of_mem _ hx))
def D : Nat → List Int → Int
  | 0, _ => 1
  | k + 1, ws => if ws.length = 0 then 1 else (vis ws).foldl (fun a v => stv a (D k (ws.drop v.2.1)) v.1 v.2.2) 0
theorem fold_congr {f g : Int → (Int × Nat × Int) → Int} : ∀ (l : List (Int × Nat × Int)) (a : Int), (∀ v ∈ l, ∀ a, f a v = g a v) → l.foldl f a = l.foldl g a
  | [], _, _ => rfl
  | v :: l, a, h => by rw [List.foldl_cons, List.foldl_cons, h v List.mem_cons_self, fold_congr l _ (fun x hx => h x (List.mem_cons_of_mem _ hx))]
theorem D_fuel : ∀ (k j : Nat) (ws : List Int), ws.length ≤ k → ws.length ≤ j → D k ws = D j ws := by
  intro k
  induction k with
  | zero =>
    intro j ws hk hj
    cases j with
    | zero => rfl
    | succ j => rw [D, D, if_pos (by omega)]
  | succ k ih =>
    intro j ws hk hj
    cases j with
    | zero => rw [D, D, if_pos (by omega)]
    | succ j =>
      rw [D, D]
      by_cases h : ws.length = 0
      · rw [if_pos h, if_pos h]
      · rw [if_neg h, if_neg h]
        refine fold_congr _ _ (fun v hv a => ?_)
        have := vis_pos (by omega : 0 < ws.length) v hv
        rw [ih j _ (by rw [List.length_drop]; omega) (by rw [List.length_drop]; omega)]
def Dv (ws : List Int) : Int := D ws.length ws
theorem Dv_nil : Dv [] = 1 := rfl
theorem Dv_eq {ws : List Int} (h : 0 < ws.length) : Dv ws = (vis ws).foldl (fun a v => stv a (Dv (ws.drop v.2.1)) v.1 v.2.2) 0 := by
  obtain ⟨n, hn⟩ : ∃ n, ws.length = n + 1 := ⟨ws.length - 1, by omega⟩
  show D ws.length ws = _
  rw [hn, D, if_neg (by omega)]
  refine fold_congr _ _ (fun v hv a => ?_)
  have := vis_pos h v hv
  rw [show Dv (ws.drop v.2.1) = D (ws.drop v.2.1).length (ws.drop v.2.1) from rfl, D_fuel n (ws.drop v.2.1).length _ (by rw [List.length_drop]; omega) (Nat.le_refl _)]
theorem suf_eq (ws : List Int) : ∀ (k : Nat) (S : List Int), k ≤ ws.length → S.length = ws.length + 1 → (∀ j, k ≤ j → j ≤ ws.length → rd S (j : Int) = Dv (ws.drop j)) → (∀ j, j < k → rd S (j : Int) = 0) → rd (sufF ws k S) ((0 : Nat) : Int) = Dv ws
  | 0, S, _, hl, h1, _ => by rw [sufF, h1 0 (Nat.le_refl _) (Nat.zero_le _), List.drop_zero]
  | k + 1, S, hk, hl, h1, h2 => by
    have hd : 0 < (ws.drop k).length := by rw [List.length_drop]; omega
    have hp := vis_pos hd
    have e : choS (ws.drop k) k S = S.set k (Dv (ws.drop k)) := by
      rw [cho_fo, fo_eq k _ S (by omega) (fun v hv => (hp v hv).1), h2 k (Nat.lt_succ_self _), Dv_eq hd]
      congr 1
      refine fold_congr _ _ (fun v hv a => ?_)
      have hv2 := hp v hv
      rw [List.length_drop] at hv2
      rw [h1 (k + v.2.1) (by omega) (by omega), List.drop_drop]
    rw [sufF, e]
    refine suf_eq ws k _ (by omega) (by rw [List.length_set]; exact hl) (fun j hj hj2 => ?_) (fun j hj => ?_)
    · by_cases hjk : k = j
      · subst hjk; rw [rd_set_eq _ _ _ (by omega)]
      · rw [rd_set_ne _ _ _ _ hjk]; exact h1 j (by omega) hj2
    · rw [rd_set_ne _ _ _ _ (by omega)]; exact h2 j (by omega)
theorem value_eq (ws : List Int) : rd (sufF ws ws.length (startS ws.length)) 0 = Dv ws := by
  have hr : ∀ n j : Nat, rd (List.replicate n (0 : Int)) (j : Int) = 0 := fun n j => rd_rep0 n j
  refine suf_eq ws ws.length (startS ws.length) (Nat.le_refl _) (by simp [startS]) (fun j h1 h2 => ?_) (fun j hj => ?_)
  · obtain rfl : j = ws.length := by omega
    rw [List.drop_length, Dv_nil]
    unfold startS
    exact rd_set_eq _ _ _ (by rw [List.length_replicate]; omega)
  · unfold startS
    rw [rd_set_ne _ _ _ _ (by omega)]; exact hr _ _
end Go.Proofs.YtnchacmhjbkmhaaDoor.UnWays
