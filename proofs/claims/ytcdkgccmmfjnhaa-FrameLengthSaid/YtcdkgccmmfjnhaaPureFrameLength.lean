/- The law FrameLength: the framed encoding of a message consists of its segment table and the words of all segments, and its length is a multiple of 8. -/
import Derived.Test.YtcdkgccmmfjnhaaQFrameLength
namespace Go.Proofs.Ytcdkgccmmfjnhaa.Pure
open Go Go.RowKit Go.Proofs.Ytcdkgccmmfjnhaa Go.Proofs.Ytcdkgccmmfjnhaa.M Go.Proofs.Ytcdkgccmmfjnhaa.PFrameLength Go.Proofs.YtcdkgccmmfjnhaaW.PrintWords Go.Proofs.YtcdkgccmmfjnhaaW.PrintLast Go.Proofs.YtcdkgccmmfjnhaaW.PrintMore
open Go.Proofs.Ytcdkgccmmfjnhaa.QFrBase (frTable frZero_l0 frZero or_val wordGet_step chunk_rd wordGet_l0 wordGet_yes wordGet_no wordWords_l0 wordWords_yes wordWords_no)
open Go.Proofs.Ytcdkgccmmfjnhaa.PFrBase
open Go.Proofs.Ytcdkgccmmfjnhaa.QFrameLength
set_option linter.unusedVariables false
set_option linter.unusedSimpArgs false
set_option maxRecDepth 10000
set_option maxHeartbeats 1000000

open Go.Proofs.Ytcdkgccmmfjnhaa.Fm (num4 tbS parseL padS parseS parseF cat4 cat4_length lensS lensS_length bodyS bodyS_length bodyS_cons serF serF_length serF_B Okay sumL tbS_le num4_range byteB parse_ser parse_inv parse_err parse_prefix)
theorem sumL_take {S : List (List Int)} {i : Nat} (h : i < S.length) : sumL (S.take (i + 1)) = sumL (S.take i) + S[i].length := by
  have e : S.take (i + 1) = S.take i ++ [S[i]] := by rw [List.take_append_getElem h]
  have app : ∀ A B : List (List Int), sumL (A ++ B) = sumL A + sumL B := fun A B => by
    induction A with
    | nil => simp [sumL]
    | cons a A ih => rw [List.cons_append]; simp only [sumL]; rw [ih]; omega
  rw [e, app]; simp [sumL]
theorem sumL_le {S : List (List Int)} (h : ∀ s ∈ S, s.length ≤ 300) : sumL S ≤ 300 * S.length := by
  induction S with
  | nil => simp [sumL]
  | cons a A ih => have h1 := h a List.mem_cons_self; have h2 := ih (fun s hs => h s (List.mem_cons_of_mem _ hs)); simp only [sumL, List.length_cons]; omega
theorem len_l0 (S : List (List Int)) (h1 : 1 ≤ S.length) (hn : S.length ≤ 20) (hs : ∀ s ∈ S, s.length ≤ 300) : ∀ (d i : Nat), i + d = S.length → Ev (fun k => capnplaw04_FrameLength.l0 k S (serF S) 0 ((sumL (S.take i) : Nat) : Int) (i : Int)) true
  | 0, i, hi => by
    have ht := tbS_le S.length
    have hl := serF_length S
    have hb := bodyS_length S
    have hm := sumL_le hs
    rw [show i = S.length by omega, List.take_length]
    refine Ev.step (f := fun _ => some true) (fun k => ?_) (Ev.now _)
    simp only [capnplaw04_FrameLength.l0]
    rw [if_neg (by omega), show frame_TableBytes.f (S.length : Int) = _ from frTable S.length (by omega), Option.bind_some]
    rw [show (((4 * (S.length + 1) + 7) / 8 * 8 : Nat) : Int) = ((tbS S.length : Nat) : Int) from rfl]
    have e1 : wrap64 (8 * ((sumL S : Nat) : Int)) = 8 * ((sumL S : Nat) : Int) := w64 (by omega) (by omega)
    have e2 : wrap64 (4 * (S.length : Int)) = 4 * (S.length : Int) := w64 (by omega) (by omega)
    rw [if_pos trivial, e1, if_pos (by rw [w64 (by omega) (by omega)]; omega), if_pos (by omega), if_pos (by rw [Int.tmod_eq_emod_of_nonneg (by omega)]; omega), e2, if_pos (by rw [w64 (by omega) (by omega)]; omega)]
    rw [decide_eq_true (by rw [w64 (by omega) (by omega)]; omega)]
  | d + 1, i, hi => by
    have hlt : i < S.length := by omega
    have h3 := hs S[i] (List.getElem_mem hlt)
    have hm := sumL_le (S := S.take i) (fun s h => hs s (List.mem_of_mem_take h))
    rw [List.length_take] at hm
    have ih := len_l0 S h1 hn hs d (i + 1) (by omega)
    rw [sumL_take hlt] at ih
    refine Ev.step (fun k => ?_) ih
    simp only [capnplaw04_FrameLength.l0]
    rw [if_pos (by omega), if_pos (by omega), rd_seg hlt, wrap_succ i (by omega), w64 (by omega) (by omega)]
    congr 1
theorem FrameLength (S : List (List Int)) (hSs : S.length * 24 ≤ 140737488351232 ∧ ∀ l ∈ S, l.length * 8 ≤ 140737488351232) (hSw : ∀ l ∈ S, l.length ≤ maxLen ∧ ∀ x ∈ l, (Lit.int .u64 x).wf = true) : ∃ k, capnplaw04_FrameLength.f k S = some true := by
  apply Ev.rounds
  unfold capnplaw04_FrameLength.f
  refine Ev.bind awake04 (Ev.congr (fun k => if_pos rfl) (Ev.bind (ref04Few S (by omega)) ?_))
  have out : Ev (fun k => capnplaw04_FrameLength.j0 k S true) true := Ev.step (fun k => by simp only [capnplaw04_FrameLength.j0]; rfl) (Ev.bind awake04 (Ev.now _))
  by_cases hf : fewS S = true
  · refine Ev.congr (fun k => if_pos hf) ?_
    obtain ⟨hk, hn, hs⟩ := fewS_short hf (fun s hs => isW_of (hSw s hs).2)
    by_cases h0 : S.length = 0
    · rw [show ((S.length : Int) == 0) = true by rw [h0]; rfl]; exact out
    · rw [show ((S.length : Int) == 0) = false by rw [beq_eq_false_iff_ne]; omega]
      have hser := frSer S hk (by omega)
      unfold serS at hser
      rw [if_pos ⟨by omega, by omega⟩] at hser
      refine Ev.step (f := fun k => (frame_Serialize.f k S).bind fun bt240 => capnplaw04_FrameLength.l0 k S bt240.1 bt240.2 0 0) (fun k => ?_) (Ev.bind hser (len_l0 S (by omega) hn hs S.length 0 (by omega)))
      simp only [capnplaw04_FrameLength.j0]
      rw [if_neg (by decide)]
  · exact Ev.congr (fun k => if_neg hf) out
end Go.Proofs.Ytcdkgccmmfjnhaa.Pure
