/- The law FnvFindsOneChange: for byte sequences of 1 to 1000 bytes, two byte sequences of the same length that differ in exactly one byte have different hashes. -/
import Derived.Test.YtipimnidbopaoaaQFnvFindsOneChange
namespace Go.Proofs.Ytipimnidbopaoaa.Pure
open Go Go.RowKit Go.Proofs.Ytipimnidbopaoaa.M Go.Proofs.Ytipimnidbopaoaa.PFnvFindsOneChange Go.Proofs.YtipimnidbopaoaaW.PrintWords Go.Proofs.YtipimnidbopaoaaW.PrintLast Go.Proofs.YtipimnidbopaoaaW.PrintMore Go.Proofs.Ytipimnidbopaoaa.QFnvFindsOneChange
set_option linter.unusedVariables false
set_option linter.unusedSimpArgs false
set_option maxRecDepth 10000

theorem c_one (b : List Int) (hB : IsB b) (i : Nat) (hi : i < b.length) (c : Int) (hc : 0 ≤ c ∧ c < 256) : (fnvS 14695981039346656037 b = fnvS 14695981039346656037 (b.set i c)) ↔ rd b (i : Int) = c := by
  have e1 : b = b.take i ++ rd b (i : Int) :: b.drop (i + 1) := by rw [← drop_rd hi, List.take_append_drop]
  have e2 : b.set i c = b.take i ++ c :: b.drop (i + 1) := by rw [List.set_eq_take_append_cons_drop, if_pos hi]
  have hx := rd_B hB (i : Int)
  have hp := fnvS_W (b.take i) 14695981039346656037 (by decide)
  rw [e2]
  have e3 : fnvS 14695981039346656037 b = fnvS 14695981039346656037 (b.take i ++ rd b (i : Int) :: b.drop (i + 1)) := by rw [← e1]
  rw [e3, fnvS_append, fnvS_append, fnvS_cons, fnvS_cons, fnvS_state _ (hB.drop _) _ _ (stepS_W _ _) (stepS_W _ _), stepS_byte hp hx hc]
theorem FnvFindsOneChange : capnplaw18_FnvFindsOneChange.Pure := by
  intro b i c _ _ hb w1 w2
  have hi := wf_u16 w1
  have hc := wf_u8 w2
  have hB := isB_of hb
  apply Ev.rounds
  unfold capnplaw18_FnvFindsOneChange.f
  refine Ev.bind awake18 (Ev.congr (fun k => if_pos (by simp)) ?_)
  have yes : Ev (fun k => capnplaw18_FnvFindsOneChange.j0 k b i c true) true :=
    Ev.step (fun k => by simp only [capnplaw18_FnvFindsOneChange.j0]; rfl) (Ev.bind awake18 (Ev.now _))
  by_cases h0 : (b.length : Int) = 0
  · exact Ev.congr (fun k => if_pos h0) yes
  · refine Ev.congr (fun k => if_neg h0) ?_
    by_cases h2 : (b.length : Int) > 1000
    · rw [decide_eq_true h2]; exact yes
    · rw [decide_eq_false h2]
      obtain ⟨I, rfl⟩ := Int.eq_ofNat_of_zero_le hi.1
      have hk : I % b.length < b.length := Nat.mod_lt _ (by omega)
      have e : Int.tmod (wrap64 (I : Int)) (b.length : Int) = ((I % b.length : Nat) : Int) := by
        rw [w64 (by omega) (by omega), Int.tmod_eq_emod_of_nonneg (by omega)]; rfl
      refine Ev.step (fun k => by simp only [capnplaw18_FnvFindsOneChange.j0]; rfl) (Ev.congr (fun k => if_neg (by simp)) ?_)
      simp only [Option.bind_some, List.nil_append, List.length_nil, e, Int.toNat_natCast]
      refine Ev.congr (fun k => if_pos (by omega)) (Ev.congr (fun k => if_neg (by omega)) (Ev.congr (fun k => if_pos (by omega)) (Ev.congr (fun k => if_pos (by omega)) ?_)))
      have hset : IsB (b.set (I % b.length) c) := by
        intro x hx
        rcases List.mem_or_eq_of_mem_set hx with h | h
        · exact hB x h
        · rw [h]; exact hc
      refine Ev.bind (fnvSum b hB (by omega)) (Ev.bind (fnvSum _ hset (by rw [List.length_set]; omega)) (Ev.congr (fun k => if_pos (by omega)) ?_))
      have e1 : ((fnvS 14695981039346656037 b == fnvS 14695981039346656037 (b.set (I % b.length) c)) == (rd b ((I % b.length : Nat) : Int) == c)) = true := by
        rw [beq_iff_eq, Bool.eq_iff_iff, beq_iff_eq, beq_iff_eq]; exact c_one b hB _ hk c hc
      rw [e1]; exact Ev.now _
end Go.Proofs.Ytipimnidbopaoaa.Pure
