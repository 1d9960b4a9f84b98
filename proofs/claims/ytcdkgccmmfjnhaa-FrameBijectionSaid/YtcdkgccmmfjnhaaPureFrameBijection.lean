/- The law FrameBijection: Parse(Serialize(m)) is m for every message, and Serialize(Parse(b)) is b for every accepted byte string; every accepted byte string is a whole number of words. -/
import Derived.Test.YtcdkgccmmfjnhaaQFrameBijection
namespace Go.Proofs.Ytcdkgccmmfjnhaa.Pure
open Go Go.RowKit Go.Proofs.Ytcdkgccmmfjnhaa Go.Proofs.Ytcdkgccmmfjnhaa.M Go.Proofs.Ytcdkgccmmfjnhaa.PFrameBijection Go.Proofs.YtcdkgccmmfjnhaaW.PrintWords Go.Proofs.YtcdkgccmmfjnhaaW.PrintLast Go.Proofs.YtcdkgccmmfjnhaaW.PrintMore
open Go.Proofs.Ytcdkgccmmfjnhaa.QFrBase (frTable frZero_l0 frZero or_val wordGet_step chunk_rd wordGet_l0 wordGet_yes wordGet_no wordWords_l0 wordWords_yes wordWords_no)
open Go.Proofs.Ytcdkgccmmfjnhaa.PFrBase
open Go.Proofs.Ytcdkgccmmfjnhaa.QFrameBijection
set_option linter.unusedVariables false
set_option linter.unusedSimpArgs false
set_option maxRecDepth 10000
set_option maxHeartbeats 1000000

open Go.Proofs.Ytcdkgccmmfjnhaa.Fm (num4 tbS parseL padS parseS parseF cat4 cat4_length lensS lensS_length bodyS bodyS_length bodyS_cons serF serF_length serF_B Okay sumL tbS_le num4_range byteB parse_ser parse_inv parse_err parse_prefix)
theorem parse_len {l : List Int} (hB : IsB l) (hl : l.length ≤ 3000) : (parseS l).1.length ≤ 512 ∧ Short (parseS l).1 ∧ ∀ s ∈ (parseS l).1, s.length ≤ 100000000 := by
  rcases parse_err (l := l) with h | h
  · obtain ⟨T, hT⟩ : ∃ T, parseS l = (T, 0) := ⟨_, Prod.ext rfl h⟩
    obtain ⟨k1, k2, k3, k4⟩ := parse_inv hB hT
    have hb := bodyS_length T
    have hs := serF_length T
    have hle : ∀ s ∈ T, s.length ≤ sumL T := by
      clear k1 k2 k3 k4 hT hb hs
      induction T with
      | nil => intro s h; simp at h
      | cons t T ih =>
        intro s hs
        simp only [Fm.sumL]
        rcases List.mem_cons.mp hs with rfl | hs
        · omega
        · have := ih s hs; omega
    have hll : sumL T ≤ 3000 := by rw [k4] at hl; omega
    rw [hT]
    exact ⟨k3, fun s hs => ⟨(k1 s hs).1, by have := hle s hs; omega⟩, fun s hs => by have := hle s hs; omega⟩
  · rw [h]; exact ⟨by simp, fun s hs => by simp at hs, fun s hs => by simp at hs⟩
theorem ser_len {S : List (List Int)} (hk : Short S) (hn : S.length ≤ 20) : (serS S).1.length ≤ 1000000000 := by
  unfold serS
  have h1 := serF_length S
  have h2 := bodyS_length S
  have h3 := hk.sum
  have h4 := tbS_le S.length
  split
  · simp only; omega
  · simp
theorem bi_j2 {b : List Int} (hB : IsB b) (hl : b.length ≤ 3000) : Ev (fun k => capnplaw04_FrameBijection.j2 k b) true := by
  obtain ⟨p1, p2, p3⟩ := parse_len hB hl
  rcases parse_err (l := b) with h | h
  · obtain ⟨T, hT⟩ : ∃ T, parseS b = (T, 0) := ⟨_, Prod.ext rfl h⟩
    obtain ⟨k1, k2, k3, k4⟩ := parse_inv hB hT
    rw [hT] at p2
    have hs := frSer T p2 (by omega)
    unfold serS at hs
    rw [if_pos ⟨k2, k3⟩] at hs
    have h1 := serF_length T
    have h2 := bodyS_length T
    have h3 := tbS_le T.length
    refine Ev.step (f := fun k => (frame_Serialize.f k T).bind fun bt253 => (if bt253.2 = 0 then ((capnpref01_Same.f k bt253.1 b).bind fun t257 => (if t257 = true then (some (((b.length : Int) % 8) == 0)) else (none))) else (none))) (fun k => ?_) (Ev.bind hs (Ev.congr (fun k => if_pos rfl) (Ev.bind (refSame _ _ (by dsimp only; rw [← k4]; omega)) ?_)))
    · simp only [capnplaw04_FrameBijection.j2]
      rw [frParse (by omega) hB, Option.bind_some, hT, if_pos rfl]
    · rw [← k4, decide_eq_true rfl]
      refine Ev.congr (f := fun _ => some true) (fun k => ?_) (Ev.now _)
      rw [if_pos rfl, show ((b.length : Int) % 8) = 0 by rw [k4]; omega]
      rfl
  · refine Ev.step (f := fun _ => some true) (fun k => ?_) (Ev.now _)
    simp only [capnplaw04_FrameBijection.j2]
    rw [frParse (by omega) hB, Option.bind_some, h]
    rfl
theorem FrameBijection (b : List Int) (hbs : b.length * 1 ≤ 140737488351232) (hbw : ∀ x ∈ b, (Lit.int .u8 x).wf = true) (S : List (List Int)) (hSs : S.length * 24 ≤ 140737488351232 ∧ ∀ l ∈ S, l.length * 8 ≤ 140737488351232) (hSw : ∀ l ∈ S, l.length ≤ maxLen ∧ ∀ x ∈ l, (Lit.int .u64 x).wf = true) :
    ∃ k, capnplaw04_FrameBijection.f k b S = some true := by
  have hB : IsB b := isB_of hbw
  apply Ev.rounds
  unfold capnplaw04_FrameBijection.f
  refine Ev.bind awake04 (Ev.congr (fun k => if_pos rfl) ?_)
  have out : Ev (fun k => capnplaw04_FrameBijection.j0 k b S true) true := Ev.step (fun k => by simp only [capnplaw04_FrameBijection.j0]; rfl) (Ev.bind awake04 (Ev.now _))
  by_cases hl : (b.length : Int) > 3000
  · exact Ev.congr (fun k => if_pos hl) out
  · refine Ev.congr (fun k => if_neg hl) (Ev.bind (ref04Few S (by omega)) ?_)
    by_cases hf : fewS S = true
    · rw [hf]
      obtain ⟨hk, hlen, _⟩ := fewS_short hf (fun s hs => isW_of (hSw s hs).2)
      have hsl := ser_len hk hlen
      have hser := frSer S hk (by omega)
      have hj2 := bi_j2 hB (show b.length ≤ 3000 by omega)
      by_cases h0 : 1 ≤ S.length
      · unfold serS at hser hsl
        rw [if_pos ⟨h0, by omega⟩] at hser hsl
        have h1 := serF_length S
        have h2 := bodyS_length S
        have h3 := tbS_le S.length
        have h4 : sumL S ≤ 300 * 20 := by
          have hle : ∀ T : List (List Int), (∀ s ∈ T, s.length ≤ 300) → sumL T ≤ 300 * T.length := by
            intro T
            induction T with
            | nil => intro _; simp [Fm.sumL]
            | cons t T ih => intro h; have a1 := h t List.mem_cons_self; have a2 := ih (fun s hs => h s (List.mem_cons_of_mem _ hs)); simp only [Fm.sumL, List.length_cons]; omega
          have := hle S (fewS_short hf (fun s hs => isW_of (hSw s hs).2)).2.2
          omega
        have hp := parse_ser [] hk.okay h0 (by omega)
        rw [List.append_nil, if_pos (show ([] : List Int).length = 0 from rfl)] at hp
        have hj1 : Ev (fun k => capnplaw04_FrameBijection.j1 k b S (serF S) 0 false) true := by
          refine Ev.step (f := fun k => (capnpref04_Same.f k S S).bind fun t248 => (if t248 = true then (capnplaw04_FrameBijection.j2 k b) else (some false))) (fun k => ?_) (Ev.bind (ref04Same _ _ (by omega) (fun s hs => by have := (hk s hs).2; omega)) (by rw [decide_eq_true rfl]; exact Ev.congr (fun k => if_pos rfl) hj2))
          simp only [capnplaw04_FrameBijection.j1]
          rw [if_neg (by decide), if_pos trivial, frParse (by omega) (serF_B S), Option.bind_some, hp, if_pos rfl]
        refine Ev.step (f := fun k => (frame_Serialize.f k S).bind fun bt240 => (if ((bt240.2 == 0) != (decide ((S.length : Int) > 0))) = true then (capnplaw04_FrameBijection.j1 k b S bt240.1 bt240.2 true) else (if bt240.2 = 0 then (capnplaw04_FrameBijection.j1 k b S bt240.1 bt240.2 false) else (capnplaw04_FrameBijection.j1 k b S bt240.1 bt240.2 ((bt240.1.length : Int) != 0))))) (fun k => ?_) (Ev.bind hser ?_)
        · simp only [capnplaw04_FrameBijection.j0, Bool.not_true]
          rw [if_neg (by decide)]
        · rw [decide_eq_true (show (S.length : Int) > 0 by omega)]
          exact Ev.congr (fun k => if_neg (by simp)) (Ev.congr (fun k => if_pos rfl) hj1)
      · unfold serS at hser
        rw [if_neg (fun h => h0 h.1)] at hser
        have hj1 : Ev (fun k => capnplaw04_FrameBijection.j1 k b S [] 1 false) true := by
          refine Ev.step (fun k => ?_) hj2
          simp only [capnplaw04_FrameBijection.j1]
          rw [if_neg (by decide), if_neg (by decide)]
        refine Ev.step (f := fun k => (frame_Serialize.f k S).bind fun bt240 => (if ((bt240.2 == 0) != (decide ((S.length : Int) > 0))) = true then (capnplaw04_FrameBijection.j1 k b S bt240.1 bt240.2 true) else (if bt240.2 = 0 then (capnplaw04_FrameBijection.j1 k b S bt240.1 bt240.2 false) else (capnplaw04_FrameBijection.j1 k b S bt240.1 bt240.2 ((bt240.1.length : Int) != 0))))) (fun k => ?_) (Ev.bind hser ?_)
        · simp only [capnplaw04_FrameBijection.j0, Bool.not_true]
          rw [if_neg (by decide)]
        · rw [decide_eq_false (show ¬ (S.length : Int) > 0 by omega)]
          exact Ev.congr (fun k => if_neg (by decide)) (Ev.congr (fun k => if_neg (by decide)) hj1)
    · rw [show fewS S = false by simpa using hf]; exact out
end Go.Proofs.Ytcdkgccmmfjnhaa.Pure
