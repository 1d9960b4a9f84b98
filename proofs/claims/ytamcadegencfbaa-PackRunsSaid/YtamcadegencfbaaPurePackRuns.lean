/- The law PackRuns: for n of at most 1200, n words 0 have 2 bytes for every 256 words begun; n dense words after a word with tag ff have 8 bytes each, and 10 bytes for the first word of every group of 256. -/
import Derived.Test.YtamcadegencfbaaQPackRuns
namespace Go.Proofs.Ytamcadegencfbaa.Pure
open Go Go.RowKit Go.Proofs.Ytamcadegencfbaa.M Go.Proofs.Ytamcadegencfbaa.PPackRuns Go.Proofs.YtamcadegencfbaaW.PrintWords Go.Proofs.YtamcadegencfbaaW.PrintLast Go.Proofs.YtamcadegencfbaaW.PrintMore Go.Proofs.Ytamcadegencfbaa.QPackRuns
set_option linter.unusedVariables false
set_option linter.unusedSimpArgs false
set_option maxRecDepth 10000

theorem runP_rep (p : Int → Bool) (w : Int) (h : p w = true) : ∀ (n m : Nat), runP p n (List.replicate m w) = min n m
  | 0, m => by simp [runP]
  | n + 1, 0 => by simp [runP]
  | n + 1, m + 1 => by
    rw [List.replicate_succ, runP, if_pos h, runP_rep p w h n m]; omega
theorem zeros_len : ∀ (n m : Nat), m ≤ n → (packS (List.replicate m 0)).length = 2 * ((m + 255) / 256) := by
  intro n
  induction n with
  | zero => intro m hm; rw [show m = 0 by omega]; rfl
  | succ n ih =>
    intro m hm
    cases m with
    | zero => rfl
    | succ m =>
      have e0 : ofS 0 = 0 := by decide
      have e1 : nzS 0 = [] := by decide
      rw [List.replicate_succ, packS_cons, if_pos e0, e1, runP_rep isZ 0 rfl, List.drop_replicate]
      simp only [List.nil_append, List.length_cons]
      rw [ih _ (by omega)]
      omega
theorem full_len : ∀ (n m : Nat), m ≤ n → (packS (List.replicate m 1229782938247303441)).length = 8 * m + 2 * ((m + 255) / 256) := by
  intro n
  induction n with
  | zero => intro m hm; rw [show m = 0 by omega]; rfl
  | succ n ih =>
    intro m hm
    cases m with
    | zero => rfl
    | succ m =>
      have e0 : ofS 1229782938247303441 = 255 := by decide
      have e1 : (nzS 1229782938247303441).length = 8 := by decide
      have e2 : denseS 1229782938247303441 = true := by decide
      rw [List.replicate_succ, packS_cons, if_neg (by rw [e0]; decide), if_pos e0, runP_rep denseS _ e2, List.drop_replicate, List.take_replicate]
      simp only [List.length_cons, List.length_append, e1, bytesS_length, List.length_replicate]
      rw [ih _ (by omega)]
      omega
theorem r_fill (n : Nat) (hn : n ≤ 1200) : ∀ d i : Nat, i + d = n → Ev (fun k => capnplaw21_PackRuns.l0 k (n : Int) true (List.replicate i 1229782938247303441 ++ List.replicate d 0) (i : Int)) true := by
  intro d
  induction d with
  | zero =>
    intro i hi
    have hlen := full_len n n (Nat.le_refl _)
    refine Ev.step (fun k => by simp only [capnplaw21_PackRuns.l0]; rw [if_neg (by first | (simp; done) | (simp; omega))]) ?_
    rw [List.replicate_zero, List.append_nil, show i = n by omega]
    refine Ev.bind (packWords _ (fun x hx => by rw [(List.mem_replicate.mp hx).2]; decide) (by first | (simp; done) | (simp; omega))) (Ev.congr (fun k => if_pos (by simp)) ?_)
    rw [hlen, w64 (x := (n : Int)) (by omega) (by omega), w64 (x := 8 * (n : Int)) (by omega) (by omega), w64 (x := (n : Int) + 255) (by omega) (by omega), Int.tdiv_eq_ediv_of_nonneg (by omega), w64 (x := ((n : Int) + 255) / 256) (by omega) (by omega), w64 (x := 2 * (((n : Int) + 255) / 256)) (by omega) (by omega), w64 (by omega) (by omega)]
    rw [show (((8 * n + 2 * ((n + 255) / 256) : Nat) : Int) == 8 * (n : Int) + 2 * (((n : Int) + 255) / 256)) = true by rw [beq_iff_eq]; omega]
    exact Ev.now _
  | succ d ih =>
    intro i hi
    have e : (List.replicate i (1229782938247303441 : Int) ++ List.replicate (d + 1) 0).set i 1229782938247303441 = List.replicate (i + 1) 1229782938247303441 ++ List.replicate d 0 := by
      have e' : List.replicate (i + 1) (1229782938247303441 : Int) = List.replicate i 1229782938247303441 ++ [1229782938247303441] := List.replicate_succ'
      rw [e', List.set_append_right _ _ (by simp), List.length_replicate, Nat.sub_self, List.replicate_succ, List.set_cons_zero, List.append_assoc]
      rfl
    refine Ev.step (fun k => by simp only [capnplaw21_PackRuns.l0]; rw [if_pos (by first | (simp; done) | (simp; omega)), if_pos (by simp), if_pos (by omega), Int.toNat_natCast, e, wrap_succ i (by omega)]) (ih (i + 1) (by omega))
theorem r_zero (n : Nat) (hn : n ≤ 1200) : Ev (fun k => capnplaw21_PackRuns.l0 k (n : Int) false (List.replicate n 0) 0) true := by
  have hlen := zeros_len n n (Nat.le_refl _)
  have e : Ev (fun k => (pack_Words.f k (List.replicate n 0)).bind fun t => some ((t.length : Int) == (wrap64 (2 * (wrap64 (Int.tdiv (wrap64 ((wrap64 (n : Int)) + 255)) 256)))))) true := by
    refine Ev.bind (packWords _ (fun x hx => by rw [(List.mem_replicate.mp hx).2]; decide) (by first | (simp; done) | (simp; omega))) ?_
    rw [hlen, w64 (x := (n : Int)) (by omega) (by omega), w64 (x := (n : Int) + 255) (by omega) (by omega), Int.tdiv_eq_ediv_of_nonneg (by omega), w64 (x := ((n : Int) + 255) / 256) (by omega) (by omega), w64 (x := 2 * (((n : Int) + 255) / 256)) (by omega) (by omega)]
    rw [show (((2 * ((n + 255) / 256) : Nat) : Int) == 2 * (((n : Int) + 255) / 256)) = true by rw [beq_iff_eq]; omega]
    exact Ev.now _
  by_cases h : (0 : Int) < ((List.replicate n (0 : Int)).length : Int)
  · exact Ev.step (fun k => by simp only [capnplaw21_PackRuns.l0]; rw [if_pos h, if_neg (by simp)]) e
  · refine Ev.step (f := fun k => (pack_Words.f k (List.replicate n 0)).bind fun t => some ((t.length : Int) == (wrap64 (2 * (wrap64 (Int.tdiv (wrap64 ((wrap64 (n : Int)) + 255)) 256)))))) (fun k => ?_) e
    simp only [capnplaw21_PackRuns.l0]
    rw [if_neg h]
    simp
theorem PackRuns : capnplaw21_PackRuns.Pure := by
  intro n full hn
  obtain ⟨n0, n1⟩ := wf_u16 hn
  obtain ⟨n, rfl⟩ := Int.eq_ofNat_of_zero_le n0
  apply Ev.rounds
  unfold capnplaw21_PackRuns.f
  refine Ev.bind awake21 (Ev.congr (fun k => if_pos (by simp)) ?_)
  by_cases h0 : (n : Int) > 1200
  · rw [decide_eq_true h0]
    exact Ev.step (fun k => by simp only [capnplaw21_PackRuns.j0]; rfl) (Ev.bind awake21 (Ev.now _))
  · rw [decide_eq_false h0]
    refine Ev.step (fun k => by simp only [capnplaw21_PackRuns.j0]; rfl) (Ev.congr (fun k => if_neg (by simp)) ?_)
    rw [w64 (x := (n : Int)) (by omega) (by omega), Int.toNat_natCast]
    refine Ev.congr (fun k => if_pos (by omega)) (Ev.congr (fun k => if_pos (by omega)) ?_)
    cases full with
    | true =>
      have := r_fill n (by omega) n 0 (by omega)
      rw [List.replicate_zero, List.nil_append] at this
      exact this
    | false => exact r_zero n (by omega)
end Go.Proofs.Ytamcadegencfbaa.Pure
