/- The law TagbyteExpand: for every tag and byte slice of at most 500 bytes, an expanded word has zero bytes outside the tag; its own tag is part of the tag, and equal to it exactly if no byte that was used is zero. -/
import Derived.Test.YtamcadegencfbaaQTagbyteExpand
namespace Go.Proofs.Ytamcadegencfbaa.Pure
open Go Go.RowKit Go.Proofs.Ytamcadegencfbaa.M Go.Proofs.Ytamcadegencfbaa.PTagbyteExpand Go.Proofs.YtamcadegencfbaaW.PrintWords Go.Proofs.YtamcadegencfbaaW.PrintLast Go.Proofs.YtamcadegencfbaaW.PrintMore Go.Proofs.Ytamcadegencfbaa.QTagbyteExpand
set_option linter.unusedVariables false
set_option linter.unusedSimpArgs false
set_option maxRecDepth 10000

theorem andNot_tag (m t : Int) (hm0 : 0 ≤ m) (hm1 : m < 256) (ht0 : 0 ≤ t) (ht1 : t < 256) (h : ∀ i, i < 8 → m / 2 ^ i % 2 ≤ t / 2 ^ i % 2) : Go.bits .andNot .u8 m t = 0 := by
  obtain ⟨M, rfl⟩ := Int.eq_ofNat_of_zero_le hm0
  obtain ⟨T, rfl⟩ := Int.eq_ofNat_of_zero_le ht0
  show IntKind.u8.wrap (((BitVec.ofInt 8 (M : Int)) &&& ~~~ (BitVec.ofInt 8 (T : Int))).toNat : Int) = 0
  have e : ((BitVec.ofInt 8 (M : Int)) &&& ~~~ (BitVec.ofInt 8 (T : Int))) = 0#8 := by
    apply BitVec.eq_of_getLsbD_eq
    intro i hi
    have eM : (BitVec.ofInt 8 (M : Int)).getLsbD i = M.testBit i := by
      rw [← BitVec.testBit_toNat]; congr 1; simp; omega
    have eT : (BitVec.ofInt 8 (T : Int)).getLsbD i = T.testBit i := by
      rw [← BitVec.testBit_toNat]; congr 1; simp; omega
    have := h i hi
    rw [show (2 : Int) ^ i = ((2 ^ i : Nat) : Int) by rw [Int.natCast_pow]; rfl] at this
    have h2 : M / 2 ^ i % 2 ≤ T / 2 ^ i % 2 := by exact_mod_cast this
    rw [← Nat.toNat_testBit, ← Nat.toNat_testBit] at h2
    rw [BitVec.getLsbD_and, BitVec.getLsbD_not, eM, eT, decide_eq_true hi]
    cases hM : M.testBit i <;> cases hT : T.testBit i <;> simp_all
  rw [e]; decide
theorem x_loop (t : Int) (b : List Int) (ht : 0 ≤ t ∧ t < 256) (hB : IsB b) (hn : onesS t ≤ b.length) (hb : b.length ≤ 500) : ∀ d i : Nat, i + d = onesS t → ∀ z : Bool, (z = true ↔ ∃ x ∈ b.take i, x = 0) → Ev (fun k => capnplaw20_TagbyteExpand.l0 k t b (expS t b) ((onesS t : Nat) : Int) z (i : Int)) true := by
  intro d
  have h8 := onesS_le t
  induction d with
  | zero =>
    intro i hi z hz
    refine Ev.step (fun k => by simp only [capnplaw20_TagbyteExpand.l0]; rw [if_neg (by omega)]) ?_
    refine Ev.bind (tagOf _) ?_
    have hf := tagL_expF 8 t b ht.1 ht.2 hn
    have eo : ofS (expS t b) = tagL (expF 8 t b) := by rw [ofS, bs_expS hB]
    have ho := ofS_range (expS t b)
    refine Ev.congr (fun k => if_pos (andNot_tag _ _ ho.1 ho.2 ht.1 ht.2 (fun i hi => by rw [eo]; exact hf.1 i hi))) (Ev.congr (fun k => if_pos ?_) ?_)
    · have hiff : (ofS (expS t b) = t) ↔ z = false := by
        rw [eo, hf.2, show i = onesF 8 t by have : onesS t = onesF 8 t := rfl; omega] at *
        constructor
        · intro h
          cases hzz : z
          · rfl
          · obtain ⟨x, hx, hx0⟩ := hz.mp hzz
            exact absurd hx0 (h x hx)
        · intro h x hx hx0
          have := hz.mpr ⟨x, hx, hx0⟩
          rw [h] at this; cases this
      cases z
      · simp [hiff.mpr rfl]
      · have : ¬ ofS (expS t b) = t := fun h => by have := hiff.mp h; cases this
        simp [this]
    · rw [tagOnes ht.1 ht.2]
      simp only [Option.bind_some, beq_self_eq_true]
      exact Ev.now _
  | succ d ih =>
    intro i hi z hz
    have hlt : i < b.length := by omega
    have ht1 : b.take (i + 1) = b.take i ++ [rd b (i : Int)] := take_rd hlt
    cases z with
    | true =>
      refine Ev.step (fun k => by simp only [capnplaw20_TagbyteExpand.l0]; rw [if_pos (show (i : Int) < ((onesS t : Nat) : Int) by omega), if_pos (show (i : Int) < (b.length : Int) by omega)]; simp only [if_true, wrap_succ i (show i ≤ 140737488355328 by omega)]) (ih (i + 1) (by omega) true ?_)
      refine ⟨fun _ => ?_, fun _ => rfl⟩
      obtain ⟨x, hx, hx0⟩ := hz.mp rfl
      exact ⟨x, by rw [ht1]; exact List.mem_append_left _ hx, hx0⟩
    | false =>
      refine Ev.step (fun k => by simp only [capnplaw20_TagbyteExpand.l0]; rw [if_pos (show (i : Int) < ((onesS t : Nat) : Int) by omega), if_pos (show (i : Int) < (b.length : Int) by omega), if_neg (by decide), if_pos (show 0 ≤ (i : Int) by omega), wrap_succ i (show i ≤ 140737488355328 by omega)]) (ih (i + 1) (by omega) _ ?_)
      have hno : ¬ ∃ x ∈ b.take i, x = 0 := fun h => by have := hz.mpr h; cases this
      rw [ht1]
      constructor
      · intro h
        exact ⟨_, List.mem_append_right _ List.mem_cons_self, by simpa using h⟩
      · rintro ⟨x, hx, hx0⟩
        rcases List.mem_append.mp hx with hx | hx
        · exact absurd ⟨x, hx, hx0⟩ hno
        · rw [List.mem_singleton] at hx
          rw [← hx, hx0]; rfl
theorem TagbyteExpand : capnplaw20_TagbyteExpand.Pure := by
  intro t b h0 _ _ hb
  have ht := wf_u8 h0
  have hB := isB_of hb
  apply Ev.rounds
  unfold capnplaw20_TagbyteExpand.f
  refine Ev.bind awake20 (Ev.congr (fun k => if_pos (by simp)) ?_)
  by_cases h : (b.length : Int) > 500
  · rw [decide_eq_true h]
    exact Ev.step (fun k => by simp only [capnplaw20_TagbyteExpand.j0]; rfl) (Ev.bind awake20 (Ev.now _))
  · rw [decide_eq_false h]
    refine Ev.step (fun k => by simp only [capnplaw20_TagbyteExpand.j0]; rfl) (Ev.congr (fun k => if_neg (by simp)) ?_)
    have hx := tagExpand t b ht.1 ht.2 hB (by omega)
    by_cases hn : onesS t ≤ b.length
    · rw [if_pos hn] at hx
      refine Ev.bind hx ?_
      rw [tagOnes ht.1 ht.2]
      simp only [Option.bind_some]
      refine Ev.congr (fun k => if_neg (by simp; omega)) (Ev.congr (fun k => if_pos (by simp)) ?_)
      refine Ev.step (fun k => by simp only [capnplaw20_TagbyteExpand.j1]; rfl) (Ev.congr (fun k => if_neg (by simp)) (Ev.congr (fun k => if_pos (by simp)) ?_))
      exact x_loop t b ht hB hn (by omega) (onesS t) 0 (by omega) false (by simp)
    · rw [if_neg hn] at hx
      refine Ev.bind hx ?_
      rw [tagOnes ht.1 ht.2]
      simp only [Option.bind_some]
      refine Ev.congr (fun k => if_neg (by simp; omega)) (Ev.congr (fun k => if_neg (by simp)) (Ev.congr (fun k => if_pos (by simp)) ?_))
      exact Ev.step (fun k => by simp only [capnplaw20_TagbyteExpand.j1]; rfl) (Ev.now _)
end Go.Proofs.Ytamcadegencfbaa.Pure
