/- The law FrameDoesNotAlias: modifying the results does not change the arguments. -/
import Derived.Test.YtcdkgccmmfjnhaaQFrameDoesNotAlias
namespace Go.Proofs.Ytcdkgccmmfjnhaa.Pure
open Go Go.RowKit Go.Proofs.Ytcdkgccmmfjnhaa Go.Proofs.Ytcdkgccmmfjnhaa.M Go.Proofs.Ytcdkgccmmfjnhaa.PFrameDoesNotAlias Go.Proofs.YtcdkgccmmfjnhaaW.PrintWords Go.Proofs.YtcdkgccmmfjnhaaW.PrintLast Go.Proofs.YtcdkgccmmfjnhaaW.PrintMore
open Go.Proofs.Ytcdkgccmmfjnhaa.QFrBase (frTable frZero_l0 frZero or_val wordGet_step chunk_rd wordGet_l0 wordGet_yes wordGet_no wordWords_l0 wordWords_yes wordWords_no)
open Go.Proofs.Ytcdkgccmmfjnhaa.PFrBase
open Go.Proofs.Ytcdkgccmmfjnhaa.QFrameDoesNotAlias
set_option linter.unusedVariables false
set_option linter.unusedSimpArgs false
set_option maxRecDepth 10000
set_option maxHeartbeats 1000000

open Go.Proofs.Ytcdkgccmmfjnhaa.Fm (num4 tbS parseL padS parseS parseF cat4 cat4_length lensS lensS_length bodyS bodyS_length bodyS_cons serF serF_length serF_B Okay sumL tbS_le num4_range byteB parse_ser parse_inv parse_err parse_prefix)
theorem parse_len {l : List Int} (hB : IsB l) (hl : l.length ≤ 3000) : (parseS l).1.length ≤ 512 ∧ Short (parseS l).1 ∧ ∀ s ∈ (parseS l).1, s.length ≤ 100000000 := by
  rcases parse_err (l := l) with h | h
  · obtain ⟨T, hT⟩ : ∃ T, parseS l = (T, 0) := ⟨_, Prod.ext rfl h⟩
    obtain ⟨k1, k2, k3, k4⟩ := parse_inv hB hT
    have hb := bodyS_length T
    have hs := serF_length T
    have hle : ∀ s ∈ T, s.length ≤ sumL T := by
      clear k1 k2 k3 k4 hT hb hs
      induction T with
      | nil => intro s h; simp at h
      | cons t T ih =>
        intro s hs
        simp only [Fm.sumL]
        rcases List.mem_cons.mp hs with rfl | hs
        · omega
        · have := ih s hs; omega
    have hll : sumL T ≤ 3000 := by rw [k4] at hl; omega
    rw [hT]
    exact ⟨k3, fun s hs => ⟨(k1 s hs).1, by have := hle s hs; omega⟩, fun s hs => by have := hle s hs; omega⟩
  · rw [h]; exact ⟨by simp, fun s hs => by simp at hs, fun s hs => by simp at hs⟩
theorem ser_len {S : List (List Int)} (hk : Short S) (hn : S.length ≤ 20) : (serS S).1.length ≤ 1000000000 := by
  unfold serS
  have h1 := serF_length S
  have h2 := bodyS_length S
  have h3 := hk.sum
  have h4 := tbS_le S.length
  split
  · simp only; omega
  · simp
theorem na_l2 {b : List Int} (hl : b.length ≤ 3000) {S : List (List Int)} (hk : Short S) (hn : S.length ≤ 20) : ∀ (d i : Nat) (x : List Int), i + d = x.length → x.length ≤ 1000000000 → Ev (fun k => capnplaw04_FrameDoesNotAlias.l2 k b S b x (serS S).1 (i : Int)) true
  | 0, i, x, hi, hx => by
    have hsl := ser_len hk hn
    refine Ev.step (f := fun k => (frame_Serialize.f k S).bind fun bt269 => ((capnpref01_Same.f k b b).bind fun t273 => (if t273 = true then ((capnpref01_Same.f k bt269.1 (serS S).1).bind fun t274 => (some t274)) else (none)))) (fun k => ?_) (Ev.bind (frSer S hk (by omega)) (Ev.bind (refSame _ _ (by omega)) ?_))
    · simp only [capnplaw04_FrameDoesNotAlias.l2]
      rw [if_neg (by omega)]
    · rw [decide_eq_true rfl]
      refine Ev.congr (fun k => if_pos rfl) (Ev.bind (refSame _ _ (by omega)) ?_)
      rw [decide_eq_true rfl]
      exact Ev.now _
  | d + 1, i, x, hi, hx => by
    refine Ev.step (fun k => ?_) (na_l2 hl hk hn d (i + 1) (x.set i ((rd x (i : Int) + 1) % 256)) (by rw [List.length_set]; omega) (by rw [List.length_set]; exact hx))
    simp only [capnplaw04_FrameDoesNotAlias.l2]
    rw [if_pos (by omega), if_pos (by omega), Int.toNat_natCast, wrap_succ i (by omega)]
def Rows (x : List (List Int)) : Prop := x.length ≤ 100000 ∧ ∀ s ∈ x, s.length ≤ 100000000
theorem Rows.set {x : List (List Int)} (h : Rows x) {i : Nat} (hi : i < x.length) (j : Nat) (v : Int) : Rows (x.set i ((x[i]).set j v)) := by
  refine ⟨by rw [List.length_set]; exact h.1, fun s hs => ?_⟩
  rcases List.mem_or_eq_of_mem_set hs with hs | hs
  · exact h.2 s hs
  · rw [hs, List.length_set]; exact h.2 _ (List.getElem_mem hi)
theorem na_l1_n {b : List Int} {S : List (List Int)} (i n : Nat) (hnext : ∀ x : List (List Int), Rows x → x.length = n → Ev (fun k => capnplaw04_FrameDoesNotAlias.l0 k b S b x ((i + 1 : Nat) : Int)) true) : ∀ (d j : Nat) (x : List (List Int)), Rows x → x.length = n → (h : i < x.length) → j + d = (x[i]).length → Ev (fun k => capnplaw04_FrameDoesNotAlias.l1 k b S b x (i : Int) (j : Int)) true
  | 0, j, x, hR, hn, h, hj => by
    have h1 := hR.1
    refine Ev.step (fun k => ?_) (hnext x hR hn)
    simp only [capnplaw04_FrameDoesNotAlias.l1]
    rw [if_pos (by omega), if_pos (by omega), rd_seg h, if_neg (by omega), wrap_succ i (by omega)]
  | d + 1, j, x, hR, hn, h, hj => by
    have h1 := hR.1
    have h2 := hR.2 _ (List.getElem_mem h)
    have ih := na_l1_n i n hnext d (j + 1) (x.set i ((x[i]).set j (IntKind.u64.wrap (rd x[i] (j : Int) + 1)))) (hR.set h _ _) (by rw [List.length_set]; exact hn) (by rw [List.length_set]; exact h) (by rw [List.getElem_set_self, List.length_set]; omega)
    refine Ev.step (fun k => ?_) ih
    simp only [capnplaw04_FrameDoesNotAlias.l1]
    rw [if_pos (by omega), if_pos (by omega), rd_seg h, if_pos (by omega), if_pos (by omega), Int.toNat_natCast, Int.toNat_natCast, wrap_succ j (by omega)]
theorem na_l0 {b : List Int} (hl : b.length ≤ 3000) {S : List (List Int)} (hk : Short S) (hn : S.length ≤ 20) : ∀ (d i : Nat) (x : List (List Int)), Rows x → i + d = x.length → Ev (fun k => capnplaw04_FrameDoesNotAlias.l0 k b S b x (i : Int)) true
  | 0, i, x, hR, hi => by
    have hsl := ser_len hk hn
    refine Ev.step (f := fun k => (frame_Serialize.f k S).bind fun bt257 => ((some (([] : List Int) : List Int)).bind fun y261 => (if y261.length + bt257.1.length < 140737488355328 then (capnplaw04_FrameDoesNotAlias.l2 k b S b bt257.1 (y261 ++ bt257.1) 0) else (none)))) (fun k => ?_) (Ev.bind (frSer S hk (by omega)) (Ev.congr (fun k => Option.bind_some _ _) (Ev.congr (fun k => if_pos (by simp only [List.length_nil]; omega)) ?_)))
    · simp only [capnplaw04_FrameDoesNotAlias.l0]
      rw [if_neg (by omega)]
    · rw [List.nil_append]
      exact na_l2 hl hk hn (serS S).1.length 0 (serS S).1 (by omega) hsl
  | d + 1, i, x, hR, hi => by
    have h : i < x.length := by omega
    refine Ev.step (f := fun k => capnplaw04_FrameDoesNotAlias.l1 k b S b x (i : Int) ((0 : Nat) : Int)) (fun k => ?_) ?_
    · simp only [capnplaw04_FrameDoesNotAlias.l0]
      rw [if_pos (by omega)]; rfl
    · refine na_l1_n i x.length ?_ (x[i]).length 0 x hR rfl h (by omega)
      intro y hy hyl
      exact na_l0 hl hk hn d (i + 1) y hy (by omega)
theorem FrameDoesNotAlias (b : List Int) (hbs : b.length * 1 ≤ 140737488351232) (hbw : ∀ x ∈ b, (Lit.int .u8 x).wf = true) (S : List (List Int)) (hSs : S.length * 24 ≤ 140737488351232 ∧ ∀ l ∈ S, l.length * 8 ≤ 140737488351232) (hSw : ∀ l ∈ S, l.length ≤ maxLen ∧ ∀ x ∈ l, (Lit.int .u64 x).wf = true) :
    ∃ k, capnplaw04_FrameDoesNotAlias.f k b S = some true := by
  have hB : IsB b := isB_of hbw
  apply Ev.rounds
  unfold capnplaw04_FrameDoesNotAlias.f
  refine Ev.bind awake04 (Ev.congr (fun k => if_pos rfl) ?_)
  have out : Ev (fun k => capnplaw04_FrameDoesNotAlias.j0 k b S true) true := Ev.step (fun k => by simp only [capnplaw04_FrameDoesNotAlias.j0]; rfl) (Ev.bind awake04 (Ev.now _))
  by_cases hl : (b.length : Int) > 3000
  · exact Ev.congr (fun k => if_pos hl) out
  · refine Ev.congr (fun k => if_neg hl) (Ev.bind (ref04Few S (by omega)) ?_)
    by_cases hf : fewS S = true
    · rw [hf]
      obtain ⟨hk, hlen, _⟩ := fewS_short hf (fun s hs => isW_of (hSw s hs).2)
      obtain ⟨p1, p2, p3⟩ := parse_len hB (by omega)
      refine Ev.step (fun k => ?_) (na_l0 (b := b) (by omega) hk hlen (parseS b).1.length 0 (parseS b).1 ⟨by omega, p3⟩ (by omega))
      simp only [capnplaw04_FrameDoesNotAlias.j0, Bool.not_true]
      rw [if_neg (by decide)]
      simp only [Option.bind_some, List.length_nil, List.nil_append]
      rw [if_pos (by omega), frParse (by omega) hB, Option.bind_some]
      rfl
    · rw [show fewS S = false by simpa using hf]; exact out
end Go.Proofs.Ytcdkgccmmfjnhaa.Pure
