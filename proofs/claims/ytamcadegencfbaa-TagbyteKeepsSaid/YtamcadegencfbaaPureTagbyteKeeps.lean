/- The law TagbyteKeeps: for every tag, byte slice of at most 100 bytes and word, Expand does not modify its argument and uses only as many bytes as the tag has 1 bits; modifying the result of Bytes does not change later results. -/
import Derived.Test.YtamcadegencfbaaQTagbyteKeeps
namespace Go.Proofs.Ytamcadegencfbaa.Pure
open Go Go.RowKit Go.Proofs.Ytamcadegencfbaa.M Go.Proofs.Ytamcadegencfbaa.PTagbyteKeeps Go.Proofs.YtamcadegencfbaaW.PrintWords Go.Proofs.YtamcadegencfbaaW.PrintLast Go.Proofs.YtamcadegencfbaaW.PrintMore Go.Proofs.Ytamcadegencfbaa.QTagbyteKeeps
set_option linter.unusedVariables false
set_option linter.unusedSimpArgs false
set_option maxRecDepth 10000

theorem k_loop (w : Int) (w0 : 0 ≤ w) (w1 : w < 18446744073709551616) : ∀ d i : Nat, ∀ c : List Int, i + d = c.length → c.length ≤ 8 → Ev (fun k => capnplaw20_TagbyteKeeps.l0 k w c (i : Int)) true := by
  intro d
  induction d with
  | zero =>
    intro i c hi hc
    refine Ev.step (fun k => by simp only [capnplaw20_TagbyteKeeps.l0]; rw [if_neg (by omega)]) ?_
    have ho := ofS_range w
    have hl := nzS_length_le w
    have hx := tagExpand (ofS w) (nzS w) ho.1 ho.2 (nzS_B w) (by omega)
    have he := expS_of w0 w1 []
    rw [List.append_nil] at he
    rw [if_pos (by rw [ones_ofS]; omega), he] at hx
    refine Ev.bind (tagOf w) (Ev.bind (tagBytes w) (Ev.bind hx ?_))
    simp only [beq_self_eq_true]
    exact Ev.now _
  | succ d ih =>
    intro i c hi hc
    exact Ev.step (fun k => by simp only [capnplaw20_TagbyteKeeps.l0]; rw [if_pos (by omega), if_pos (by omega), wrap_succ i (by omega)]) (ih (i + 1) _ (by rw [List.length_set]; omega) (by rw [List.length_set]; omega))
theorem k_j2 (w : Int) (w0 : 0 ≤ w) (w1 : w < 18446744073709551616) : Ev (fun k => capnplaw20_TagbyteKeeps.j2 k w) true :=
  Ev.step (fun k => by simp only [capnplaw20_TagbyteKeeps.j2]; rfl) (Ev.bind (tagBytes w) (k_loop w w0 w1 (nzS w).length 0 _ (by omega) (nzS_length_le w)))
theorem TagbyteKeeps : capnplaw20_TagbyteKeeps.Pure := by
  intro t b w h0 _ _ hb h1
  have ht := wf_u8 h0
  have hB := isB_of hb
  obtain ⟨w0, w1⟩ := wf_u64 h1
  apply Ev.rounds
  unfold capnplaw20_TagbyteKeeps.f
  refine Ev.bind awake20 (Ev.congr (fun k => if_pos (by simp)) ?_)
  by_cases h : (b.length : Int) > 100
  · rw [decide_eq_true h]
    exact Ev.step (fun k => by simp only [capnplaw20_TagbyteKeeps.j0]; rfl) (Ev.bind awake20 (Ev.now _))
  · rw [decide_eq_false h]
    refine Ev.step (fun k => by simp only [capnplaw20_TagbyteKeeps.j0]; rfl) (Ev.congr (fun k => if_neg (by simp)) ?_)
    simp only [Option.bind_some, List.nil_append, List.length_nil]
    refine Ev.congr (fun k => if_pos (by omega)) ?_
    have hx := tagExpand t b ht.1 ht.2 hB (by omega)
    by_cases hn : onesS t ≤ b.length
    · rw [if_pos hn] at hx
      refine Ev.bind hx (Ev.bind (refSame b b (by omega)) (Ev.congr (fun k => if_pos (by simp)) (Ev.congr (fun k => if_pos (by simp)) (Ev.congr (fun k => if_neg (show ¬ (((onesS t : Nat) : Int) < 0) by omega)) ?_))))
      rw [decide_eq_false (show ¬ (((onesS t : Nat) : Int) > (b.length : Int)) by omega)]
      refine Ev.step (fun k => by simp only [capnplaw20_TagbyteKeeps.j1]; rfl) (Ev.congr (fun k => if_neg (by simp)) (Ev.congr (fun k => if_pos (show 0 ≤ ((onesS t : Nat) : Int) by omega)) (Ev.congr (fun k => if_pos (show ((onesS t : Nat) : Int) ≤ (b.length : Int) by omega)) ?_)))
      have hy := tagExpand t (b.take (((onesS t : Nat) : Int)).toNat) ht.1 ht.2 (hB.take _) (by rw [List.length_take]; omega)
      rw [if_pos (by rw [List.length_take]; omega), Int.toNat_natCast, expS, expF_take 8 t b (onesS t) (Nat.le_refl _)] at hy
      exact Ev.bind hy (Ev.congr (fun k => if_pos (by simp)) (Ev.congr (fun k => if_pos (by simp)) (Ev.congr (fun k => if_pos rfl) (k_j2 w w0 w1))))
    · rw [if_neg hn] at hx
      exact Ev.bind hx (Ev.bind (refSame b b (by omega)) (Ev.congr (fun k => if_pos (by simp)) (Ev.congr (fun k => if_neg (by simp)) (k_j2 w w0 w1))))
end Go.Proofs.Ytamcadegencfbaa.Pure
