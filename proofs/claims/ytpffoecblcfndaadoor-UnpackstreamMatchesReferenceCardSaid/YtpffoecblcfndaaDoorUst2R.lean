/- The streaming unpacker, part 2: from the initial state on it comes to the plain decoding up to the limit. -/
import Derived.Test.YtpffoecblcfndaaDoorUstR
namespace Go.Proofs.YtpffoecblcfndaaDoor.Us
open Go Go.RowKit Go.Proofs.YtpffoecblcfndaaDoor Go.Proofs.YtpffoecblcfndaaDoor.M Go.Proofs.YtpffoecblcfndaaDoorW.PrintWords Go.Proofs.YtpffoecblcfndaaDoorW.PrintLast Go.Proofs.YtpffoecblcfndaaDoorW.PrintMore
set_option linter.unusedVariables false
set_option linter.unusedSimpArgs false
def closeU (u : U) : Int := if u.err ≠ 0 then u.err else if u.st ≠ 0 then 10 else 0
def Res (r : UO) (o : List Int) (m : Nat) (ws : List Int) (cut : Bool) : Prop :=
  r.2 = o ++ bytesS (ws.take m) ∧ closeU r.1 = if m < ws.length then 11 else if cut = true then 10 else 0
theorem Res.cons {r : UO} {o : List Int} {m : Nat} {x : Int} {ws : List Int} {cut : Bool} (h : Res r (o ++ bytesS [x]) m ws cut) : Res r o (m + 1) (x :: ws) cut := by
  obtain ⟨h1, h2⟩ := h
  refine ⟨?_, ?_⟩
  · rw [h1, List.take_succ_cons, List.append_assoc, ← bytesS_append]; rfl
  · rw [h2, List.length_cons]
    by_cases hm : m < ws.length
    · rw [if_pos hm, if_pos (by omega)]
    · rw [if_neg hm, if_neg (show ¬ m + 1 < ws.length + 1 by omega)]
theorem expF_255' : ∀ b : List Int, 8 ≤ b.length → expF 8 255 b = b.take 8
  | a0 :: a1 :: a2 :: a3 :: a4 :: a5 :: a6 :: a7 :: r, _ => rfl
theorem expS_255' {b : List Int} (h : 8 ≤ b.length) : expS 255 b = val (b.take 8) := by rw [expS, expF_255' b h]
def limU (a : Int) : Int := min (max a 0) 1152921504606846976
def validB (u : U) : Bool := decide (0 ≤ u.done ∧ u.done ≤ 1152921504606846976 ∧ u.done % 8 = 0 ∧ 0 ≤ u.st ∧ u.st ≤ 4 ∧ (u.err = 0 ∨ u.err = 11) ∧ (u.tag = 0 ↔ u.st ≠ 1) ∧ 0 ≤ u.left ∧ u.left ≤ 255 ∧ (0 < u.left ↔ u.st = 4) ∧ u.word.length < roomU u ∧ (u.err = 0 ∨ u.st = 0))
theorem validB_V {u : U} (h : validB u = true) (t0 : 0 ≤ u.tag) (t1 : u.tag < 256) (hB : IsB u.word) : VU u := by
  obtain ⟨h1, h2, h3, h4, h5, h6, h7, h8, h9, h10, h11, h12⟩ := of_decide_eq_true h
  exact ⟨h1, h2, h3, h4, h5, h6, ⟨fun e => Classical.byContradiction fun e' => e (h7.mpr e'), fun e e' => h7.mp e' e⟩, h8, h9, h10, h11, fun e => h12.resolve_left e, t0, t1, hB⟩
theorem V_validB {u : U} (h : VU u) : validB u = true :=
  decide_eq_true ⟨h.d0, h.d1, h.d8, h.s0, h.s1, h.e, ⟨fun e e' => (h.t.mpr e') e, fun e => Classical.byContradiction fun e' => e (h.t.mp e')⟩, h.l0, h.l1, h.ls, h.w, Classical.or_iff_not_imp_left.mpr h.es⟩
end Go.Proofs.YtpffoecblcfndaaDoor.Us
