/- The law UnpackKeeps: unpacking does not modify its argument, and its results share no memory with it. -/
import Derived.Test.YtcdkgccmmfjnhaaDoorQUnpackKeeps
namespace Go.Proofs.YtcdkgccmmfjnhaaDoor.Pure
open Go Go.RowKit Go.Proofs.YtcdkgccmmfjnhaaDoor.M Go.Proofs.YtcdkgccmmfjnhaaDoor.PUnpackKeeps Go.Proofs.YtcdkgccmmfjnhaaDoorW.PrintWords Go.Proofs.YtcdkgccmmfjnhaaDoorW.PrintLast Go.Proofs.YtcdkgccmmfjnhaaDoorW.PrintMore Go.Proofs.YtcdkgccmmfjnhaaDoor.QUnpackKeeps
set_option linter.unusedVariables false
set_option linter.unusedSimpArgs false
set_option maxRecDepth 10000

theorem keeps_l0 (p : List Int) (a : Int) (was y : List Int) (r : Bool) (h : Ev (fun k => (unpack_Prefix.f p a).bind fun b => capnplaw22_UnpackKeeps.l1 k p a was y b.1 0) r) : ∀ (d i : Nat) (x : List Int), i + d = x.length → x.length ≤ 1000000000 → Ev (fun k => capnplaw22_UnpackKeeps.l0 k p a was x y (i : Int)) r := by
  intro d
  induction d with
  | zero =>
    intro i x hi hx
    refine Ev.step (fun k => ?_) h
    simp only [capnplaw22_UnpackKeeps.l0]
    rw [if_neg (by omega)]
  | succ d ih =>
    intro i x hi hx
    refine Ev.step (fun k => ?_) (ih (i + 1) (x.set i ((rd x (i : Int) + 1) % 256)) (by rw [List.length_set]; omega) (by rw [List.length_set]; omega))
    simp only [capnplaw22_UnpackKeeps.l0]
    rw [if_pos (by omega), if_pos (by omega), wrap_succ i (by omega), Int.toNat_natCast]
theorem keeps_l1 (p : List Int) (a : Int) (was y : List Int) (r : Bool) (h : Ev (fun k => (capnpref22_Prefix.f k p a).bind fun b => (capnpref01_Same.f k p was).bind fun t => if t = true then (capnpref01_Same.f k y b.1).bind fun t2 => some t2 else none) r) : ∀ (d i : Nat) (x : List Int), i + d = x.length → x.length ≤ 1000000000 → Ev (fun k => capnplaw22_UnpackKeeps.l1 k p a was y x (i : Int)) r := by
  intro d
  induction d with
  | zero =>
    intro i x hi hx
    refine Ev.step (fun k => ?_) h
    simp only [capnplaw22_UnpackKeeps.l1]
    rw [if_neg (by omega)]
  | succ d ih =>
    intro i x hi hx
    refine Ev.step (fun k => ?_) (ih (i + 1) (x.set i ((rd x (i : Int) + 1) % 256)) (by rw [List.length_set]; omega) (by rw [List.length_set]; omega))
    simp only [capnplaw22_UnpackKeeps.l1]
    rw [if_pos (by omega), if_pos (by omega), wrap_succ i (by omega), Int.toNat_natCast]
theorem UnpackKeeps : capnplaw22_UnpackKeeps.Pure := by
  intro p a h1 h2 h3 h4
  have hB : IsB p := fun x hx => wf_u8 (h3 x hx)
  obtain ⟨a0, a1⟩ := wf_i64 h4
  apply Ev.rounds
  unfold capnplaw22_UnpackKeeps.f
  refine Ev.bind awake22 (Ev.congr (fun k => if_pos rfl) ?_)
  by_cases hl : (p.length : Int) > 400
  · rw [decide_eq_true hl]
    exact Ev.step (fun k => by simp only [capnplaw22_UnpackKeeps.j0]; rfl) (Ev.bind awake22 (Ev.now _))
  · rw [decide_eq_false hl]
    have hlen := decS_len hB
    have hb := bytesS_length (decS p).1
    have hbt := bytesS_length ((decS p).1.take (max a 0 / 8).toNat)
    rw [List.length_take] at hbt
    have hP := unPrefixE hB (by omega) a (by omega)
    have hU := unBytesE hB (by omega) a (by omega)
    refine Ev.step (fun k => by simp only [capnplaw22_UnpackKeeps.j0]; rw [if_neg (by simp), Option.bind_some, if_pos (by simp; omega)]) (Ev.bind hU (Ev.bind hP ?_))
    refine keeps_l0 p a _ _ _ ?_ _ 0 _ (Nat.zero_add _) ?_
    · refine Ev.bind hP ?_
      show Ev (fun k => capnplaw22_UnpackKeeps.l1 k p a ([] ++ p) (bytesS ((decS p).1.take (max a 0 / 8).toNat)) (bytesS ((decS p).1.take (max a 0 / 8).toNat)) ((0 : Nat) : Int)) true
      refine keeps_l1 p a _ _ _ ?_ _ 0 _ (Nat.zero_add _) (by omega)
      refine Ev.bind (ref22Prefix hB (by omega) a (by omega) (by omega)) (Ev.bind (refSame _ _ (by omega)) ?_)
      rw [List.nil_append, decide_eq_true rfl]
      refine Ev.congr (fun k => if_pos rfl) (Ev.bind (refSame _ _ (by omega)) ?_)
      rw [decide_eq_true rfl]
      exact Ev.now _
    · split
      · simp
      · split
        · simp
        · show (bytesS (decS p).1).length ≤ _; omega
end Go.Proofs.YtcdkgccmmfjnhaaDoor.Pure
