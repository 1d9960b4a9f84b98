/- The law FrameNoSlack: every proper prefix of a framed message and every extension of it is rejected; the length is that of the table plus 8 bytes per word. -/
import Derived.Test.YtcdkgccmmfjnhaaQFrameNoSlack
namespace Go.Proofs.Ytcdkgccmmfjnhaa.Pure
open Go Go.RowKit Go.Proofs.Ytcdkgccmmfjnhaa Go.Proofs.Ytcdkgccmmfjnhaa.M Go.Proofs.Ytcdkgccmmfjnhaa.PFrameNoSlack Go.Proofs.YtcdkgccmmfjnhaaW.PrintWords Go.Proofs.YtcdkgccmmfjnhaaW.PrintLast Go.Proofs.YtcdkgccmmfjnhaaW.PrintMore
open Go.Proofs.Ytcdkgccmmfjnhaa.QFrBase (frTable frZero_l0 frZero or_val wordGet_step chunk_rd wordGet_l0 wordGet_yes wordGet_no wordWords_l0 wordWords_yes wordWords_no)
open Go.Proofs.Ytcdkgccmmfjnhaa.PFrBase
open Go.Proofs.Ytcdkgccmmfjnhaa.QFrameNoSlack
set_option linter.unusedVariables false
set_option linter.unusedSimpArgs false
set_option maxRecDepth 10000
set_option maxHeartbeats 1000000

open Go.Proofs.Ytcdkgccmmfjnhaa.Fm (num4 tbS parseL padS parseS parseF cat4 cat4_length lensS lensS_length bodyS bodyS_length bodyS_cons serF serF_length serF_B Okay sumL tbS_le num4_range byteB parse_ser parse_inv parse_err parse_prefix)
theorem sumL_take {S : List (List Int)} {i : Nat} (h : i < S.length) : sumL (S.take (i + 1)) = sumL (S.take i) + S[i].length := by
  have e : S.take (i + 1) = S.take i ++ [S[i]] := by rw [List.take_append_getElem h]
  have app : ∀ A B : List (List Int), sumL (A ++ B) = sumL A + sumL B := fun A B => by
    induction A with
    | nil => simp [sumL]
    | cons a A ih => rw [List.cons_append]; simp only [sumL]; rw [ih]; omega
  rw [e, app]; simp [sumL]
theorem sumL_le {S : List (List Int)} (h : ∀ s ∈ S, s.length ≤ 300) : sumL S ≤ 300 * S.length := by
  induction S with
  | nil => simp [sumL]
  | cons a A ih => have h1 := h a List.mem_cons_self; have h2 := ih (fun s hs => h s (List.mem_cons_of_mem _ hs)); simp only [sumL, List.length_cons]; omega
theorem ns_j2 (S : List (List Int)) (hk : Short S) (h1 : 1 ≤ S.length) (hn : S.length ≤ 20) (hm : sumL S ≤ 6000) (c : Int) (c0 : 0 ≤ c) (c1 : c < 65536) (more : List Int) (hB : IsB more) (hl : more.length ≤ 100) : Ev (fun k => capnplaw04_FrameNoSlack.j2 k c more (serF S) false) true := by
  have g1 := serF_length S
  have g2 := bodyS_length S
  have g3 := tbS_le S.length
  obtain ⟨m, hm1, hm2⟩ : ∃ m : Nat, Int.tmod (wrap64 c) ((serF S).length : Int) = (m : Int) ∧ m < (serF S).length := by
    have hr := Int.emod_lt_of_pos c (show (0 : Int) < ((serF S).length : Int) by omega)
    have hr0 := Int.emod_nonneg c (show ((serF S).length : Int) ≠ 0 by omega)
    refine ⟨(c % ((serF S).length : Int)).toNat, ?_, by omega⟩
    rw [w64 (by omega) (by omega), Int.tmod_eq_emod_of_nonneg c0]; omega
  have hp := parse_prefix hk.okay h1 (by omega) hm2
  have hq := parse_ser more hk.okay h1 (by omega)
  refine Ev.step (f := fun _ => some true) (fun k => ?_) (Ev.now _)
  simp only [capnplaw04_FrameNoSlack.j2]
  rw [if_neg (by decide), if_neg (by omega), hm1, if_pos (by omega), if_pos (by omega), Int.toNat_natCast, frParse (by rw [List.length_take]; omega) ((serF_B S).take m), hp]
  simp only [Option.bind_some, List.length_nil, List.nil_append]
  rw [if_pos (by omega), if_pos (by omega), frParse (by rw [List.length_append]; omega) ((serF_B S).append hB), hq]
  simp only [Option.bind_some]
  by_cases h0 : more.length = 0
  · rw [if_pos h0, h0]; rfl
  · rw [if_neg h0, show ((more.length : Int) == 0) = false by rw [beq_eq_false_iff_ne]; omega]; rfl
theorem ns_l0 (S : List (List Int)) (hk : Short S) (h1 : 1 ≤ S.length) (hn : S.length ≤ 20) (hs : ∀ s ∈ S, s.length ≤ 300) (c : Int) (c0 : 0 ≤ c) (c1 : c < 65536) (more : List Int) (hB : IsB more) (hl : more.length ≤ 100) : ∀ (d i : Nat), i + d = S.length → Ev (fun k => capnplaw04_FrameNoSlack.l0 k S c more (serF S) ((sumL (S.take i) : Nat) : Int) (i : Int)) true
  | 0, i, hi => by
    have ht := tbS_le S.length
    have hl2 := serF_length S
    have hb := bodyS_length S
    have hm := sumL_le hs
    rw [show i = S.length by omega, List.take_length]
    refine Ev.step (fun k => ?_) (ns_j2 S hk h1 hn (by omega) c c0 c1 more hB hl)
    simp only [capnplaw04_FrameNoSlack.l0]
    rw [if_neg (by omega), show frame_TableBytes.f (S.length : Int) = _ from frTable S.length (by omega), Option.bind_some]
    rw [show (((4 * (S.length + 1) + 7) / 8 * 8 : Nat) : Int) = ((tbS S.length : Nat) : Int) from rfl]
    have e1 : wrap64 (8 * ((sumL S : Nat) : Int)) = 8 * ((sumL S : Nat) : Int) := w64 (by omega) (by omega)
    rw [e1, if_pos (by rw [w64 (by omega) (by omega)]; omega), show (((serF S).length : Int) == 0) = false by rw [beq_eq_false_iff_ne]; omega]
  | d + 1, i, hi => by
    have hlt : i < S.length := by omega
    have h3 := hs S[i] (List.getElem_mem hlt)
    have hm := sumL_le (S := S.take i) (fun s h => hs s (List.mem_of_mem_take h))
    rw [List.length_take] at hm
    have ih := ns_l0 S hk h1 hn hs c c0 c1 more hB hl d (i + 1) (by omega)
    rw [sumL_take hlt] at ih
    refine Ev.step (fun k => ?_) ih
    simp only [capnplaw04_FrameNoSlack.l0]
    rw [if_pos (by omega), if_pos (by omega), rd_seg hlt, wrap_succ i (by omega), w64 (by omega) (by omega)]
    congr 1
theorem FrameNoSlack (S : List (List Int)) (hSs : S.length * 24 ≤ 140737488351232 ∧ ∀ l ∈ S, l.length * 8 ≤ 140737488351232) (hSw : ∀ l ∈ S, l.length ≤ maxLen ∧ ∀ x ∈ l, (Lit.int .u64 x).wf = true) (c : Int) (hc : (Lit.int .u16 c).wf = true) (more : List Int) (hms : more.length * 1 ≤ 140737488351232) (hmw : ∀ x ∈ more, (Lit.int .u8 x).wf = true) :
    ∃ k, capnplaw04_FrameNoSlack.f k S c more = some true := by
  obtain ⟨c0, c1⟩ := wf_u16 hc
  have hB : IsB more := isB_of hmw
  apply Ev.rounds
  unfold capnplaw04_FrameNoSlack.f
  refine Ev.bind awake04 (Ev.congr (fun k => if_pos rfl) (Ev.bind (ref04Few S (by omega)) ?_))
  have out : Ev (fun k => capnplaw04_FrameNoSlack.j0 k S c more true) true := Ev.step (fun k => by simp only [capnplaw04_FrameNoSlack.j0]; rfl) (Ev.bind awake04 (Ev.now _))
  by_cases hf : fewS S = true
  · refine Ev.congr (fun k => if_pos hf) ?_
    obtain ⟨hk, hn, hs⟩ := fewS_short hf (fun s hs => isW_of (hSw s hs).2)
    by_cases h0 : (S.length : Int) = 0
    · exact Ev.congr (fun k => if_pos h0) out
    · refine Ev.congr (fun k => if_neg h0) ?_
      by_cases hl : (more.length : Int) > 100
      · rw [decide_eq_true hl]; exact out
      · rw [decide_eq_false hl]
        have hser := frSer S hk (by omega)
        unfold serS at hser
        rw [if_pos ⟨by omega, by omega⟩] at hser
        refine Ev.step (f := fun k => (frame_Serialize.f k S).bind fun bt240 => capnplaw04_FrameNoSlack.l0 k S c more bt240.1 0 0) (fun k => ?_) (Ev.bind hser (ns_l0 S hk (by omega) hn hs c c0 c1 more hB (by omega) S.length 0 (by omega)))
        simp only [capnplaw04_FrameNoSlack.j0]
        rw [if_neg (by decide)]
  · exact Ev.congr (fun k => if_neg hf) out
end Go.Proofs.Ytcdkgccmmfjnhaa.Pure
