/- The law FrameMatchesReference: for every byte string, list of segments and count, all functions return what the reference implementation returns. -/
import Derived.Test.YtcdkgccmmfjnhaaQFrameMatchesReference
namespace Go.Proofs.Ytcdkgccmmfjnhaa.Pure
open Go Go.RowKit Go.Proofs.Ytcdkgccmmfjnhaa Go.Proofs.Ytcdkgccmmfjnhaa.M Go.Proofs.Ytcdkgccmmfjnhaa.PFrameMatchesReference Go.Proofs.YtcdkgccmmfjnhaaW.PrintWords Go.Proofs.YtcdkgccmmfjnhaaW.PrintLast Go.Proofs.YtcdkgccmmfjnhaaW.PrintMore
open Go.Proofs.Ytcdkgccmmfjnhaa.QFrBase (frTable frZero_l0 frZero or_val wordGet_step chunk_rd wordGet_l0 wordGet_yes wordGet_no wordWords_l0 wordWords_yes wordWords_no)
open Go.Proofs.Ytcdkgccmmfjnhaa.PFrBase
open Go.Proofs.Ytcdkgccmmfjnhaa.QFrameMatchesReference
set_option linter.unusedVariables false
set_option linter.unusedSimpArgs false
set_option maxRecDepth 10000
set_option maxHeartbeats 1000000

open Go.Proofs.Ytcdkgccmmfjnhaa.Fm (num4 tbS parseL padS parseS parseF cat4 cat4_length lensS lensS_length bodyS bodyS_length bodyS_cons serF serF_length serF_B Okay sumL tbS_le num4_range byteB parse_ser parse_inv parse_err parse_prefix)
theorem parse_len {l : List Int} (hB : IsB l) (hl : l.length ≤ 3000) : (parseS l).1.length ≤ 512 ∧ Short (parseS l).1 ∧ ∀ s ∈ (parseS l).1, s.length ≤ 100000000 := by
  rcases parse_err (l := l) with h | h
  · obtain ⟨T, hT⟩ : ∃ T, parseS l = (T, 0) := ⟨_, Prod.ext rfl h⟩
    obtain ⟨k1, k2, k3, k4⟩ := parse_inv hB hT
    have hb := bodyS_length T
    have hs := serF_length T
    have hle : ∀ s ∈ T, s.length ≤ sumL T := by
      clear k1 k2 k3 k4 hT hb hs
      induction T with
      | nil => intro s h; simp at h
      | cons t T ih =>
        intro s hs
        simp only [Fm.sumL]
        rcases List.mem_cons.mp hs with rfl | hs
        · omega
        · have := ih s hs; omega
    have hll : sumL T ≤ 3000 := by rw [k4] at hl; omega
    rw [hT]
    exact ⟨k3, fun s hs => ⟨(k1 s hs).1, by have := hle s hs; omega⟩, fun s hs => by have := hle s hs; omega⟩
  · rw [h]; exact ⟨by simp, fun s hs => by simp at hs, fun s hs => by simp at hs⟩
theorem ser_len {S : List (List Int)} (hk : Short S) (hn : S.length ≤ 20) : (serS S).1.length ≤ 1000000000 := by
  unfold serS
  have h1 := serF_length S
  have h2 := bodyS_length S
  have h3 := hk.sum
  have h4 := tbS_le S.length
  split
  · simp only; omega
  · simp
theorem FrameMatchesReference (b : List Int) (hbs : b.length * 1 ≤ 140737488351232) (hbw : ∀ x ∈ b, (Lit.int .u8 x).wf = true) (S : List (List Int)) (hSs : S.length * 24 ≤ 140737488351232 ∧ ∀ l ∈ S, l.length * 8 ≤ 140737488351232) (hSw : ∀ l ∈ S, l.length ≤ maxLen ∧ ∀ x ∈ l, (Lit.int .u64 x).wf = true) (n : Int) (hn : (Lit.int .u16 n).wf = true) :
    ∃ k, capnplaw04_FrameMatchesReference.f k b S n = some true := by
  obtain ⟨n0, n1⟩ := wf_u16 hn
  have hB : IsB b := isB_of hbw
  apply Ev.rounds
  unfold capnplaw04_FrameMatchesReference.f
  refine Ev.bind awake04 (Ev.congr (fun k => if_pos rfl) ?_)
  have out : Ev (fun k => capnplaw04_FrameMatchesReference.j0 k b S n true) true := Ev.step (fun k => by simp only [capnplaw04_FrameMatchesReference.j0]; rfl) (Ev.bind awake04 (Ev.now _))
  by_cases hl : (b.length : Int) > 3000
  · exact Ev.congr (fun k => if_pos hl) out
  · refine Ev.congr (fun k => if_neg hl) (Ev.bind (ref04Few S (by omega)) ?_)
    by_cases hf : fewS S = true
    · rw [hf]
      obtain ⟨hk, hlen, _⟩ := fewS_short hf (fun s hs => isW_of (hSw s hs).2)
      obtain ⟨p1, p2, p3⟩ := parse_len hB (by omega)
      have hsl := ser_len hk hlen
      obtain ⟨m, hm⟩ : ∃ m : Nat, wrap64 (1 + wrap64 (Int.tmod n 512)) = (m : Int) ∧ m ≤ 1000000 := by
        refine ⟨(1 + n % 512).toNat, ?_, by omega⟩
        rw [Int.tmod_eq_emod_of_nonneg n0, show wrap64 (n % 512) = n % 512 from w64 (by omega) (by omega), w64 (by omega) (by omega)]; omega
      refine Ev.step (f := fun k => (capnpref04_Parse.f k b).bind fun bt294 => ((frame_Serialize.f k S).bind fun bt298 => ((capnpref04_Serialize.f k S).bind fun bt302 => ((capnpref04_Same.f k (parseS b).1 bt294.1).bind fun t306 => (if t306 = true then (if (parseS b).2 = bt294.2 then ((capnpref01_Same.f k bt298.1 bt302.1).bind fun t307 => (if t307 = true then (if bt298.2 = bt302.2 then some true else (none)) else (none))) else (none)) else (none)))))) (fun k => ?_) ?_
      · simp only [capnplaw04_FrameMatchesReference.j0, Bool.not_true]
        rw [if_neg (by decide), frParse (by omega) hB, Option.bind_some, hm.1, show frame_TableBytes.f (m : Int) = _ from frTable m hm.2, ref04Table m hm.2]
        simp only [Option.bind_some]
        rw [show (((4 * (m + 1) + 7) / 8 * 8 : Nat) : Int) = ((tbS m : Nat) : Int) from rfl]
        simp
      · refine Ev.bind (ref04Parse hB (by omega)) (Ev.bind (frSer S hk (by omega)) (Ev.bind (ref04Ser S hk (by omega)) (Ev.bind (ref04Same _ _ (by omega) p3) ?_)))
        rw [decide_eq_true rfl]
        refine Ev.congr (fun k => if_pos rfl) (Ev.congr (fun k => if_pos rfl) (Ev.bind (refSame _ _ (by omega)) ?_))
        rw [decide_eq_true rfl]
        exact Ev.congr (fun k => if_pos rfl) (Ev.congr (fun k => if_pos rfl) (Ev.now _))
    · rw [show fewS S = false by simpa using hf]; exact out
end Go.Proofs.Ytcdkgccmmfjnhaa.Pure
