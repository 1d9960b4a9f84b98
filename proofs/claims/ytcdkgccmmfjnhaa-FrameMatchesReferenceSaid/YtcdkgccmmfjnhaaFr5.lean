/- Package frame: Parse as a printed function. -/
import Derived.Test.YtcdkgccmmfjnhaaFr4
namespace Go.Proofs.Ytcdkgccmmfjnhaa.Fm
open Go Go.RowKit Go.Proofs.Ytcdkgccmmfjnhaa Go.Proofs.Ytcdkgccmmfjnhaa.M Go.Proofs.Ytcdkgccmmfjnhaa.PFrBase Go.Proofs.Ytcdkgccmmfjnhaa.QFrBase Go.Proofs.YtcdkgccmmfjnhaaW.PrintWords Go.Proofs.YtcdkgccmmfjnhaaW.PrintLast Go.Proofs.YtcdkgccmmfjnhaaW.PrintMore
set_option linter.unusedVariables false
set_option linter.unusedSimpArgs false
def padS (l : List Int) (N : Nat) : Bool := ((l.take (tbS N)).drop (4 * (N + 1))).all (· == 0)
def parseS (l : List Int) : List (List Int) × Int :=
  if l.length < 4 then ([], 1) else if 512 < (num4 l 0 + 1).toNat then ([], 1) else if l.length < tbS (num4 l 0 + 1).toNat then ([], 1)
  else if padS l (num4 l 0 + 1).toNat = true then (match parseL l (num4 l 0 + 1).toNat 0 (l.drop (tbS (num4 l 0 + 1).toNat)) [] with | some S => (S, 0) | none => ([], 1)) else ([], 1)
def byteB (l : List Int) : Bool := l.all fun x => decide (0 ≤ x) && decide (x < 256)
theorem byteB_B {l : List Int} (h : byteB l = true) : IsB l := fun x hx => by
  have := List.all_eq_true.mp h x hx
  simpa using this
theorem B_byteB {l : List Int} (h : IsB l) : byteB l = true := List.all_eq_true.mpr fun x hx => by simpa using h x hx
def parseF (l : List Int) : Option (List (List Int) × Int) := if l.length ≤ 1000000 ∧ byteB l = true then some (parseS l) else none
theorem parseF_eq {l : List Int} (hl : l.length ≤ 1000000) (hB : IsB l) : parseF l = some (parseS l) := if_pos ⟨hl, B_byteB hB⟩
theorem parseF_calls {A0 : Option Addr} {c0 : Nat} {l0 : List Int} {r1 : List (List Int)} {r2 : Int} {w : World} (hr0 : Kd.C (Kd.int .u8) w A0 l0.length l0) (hc0 : l0.length ≤ c0) (h : parseF l0 = some (r1, r2)) :
    Calls Try.prog 10 #[.slice A0 l0.length c0] w fun e w' => ∃ v0_ : Value, e = .returned (.tuple #[v0_, .int .i64 r2]) ∧ Kd.S (Kd.slice 43 (Kd.int .u64)) 41 w' w.heap.size (fun _ => True) v0_ r1 ∧ Below w.heap.size w w' := by
  unfold parseF at h
  by_cases hg : l0.length ≤ 1000000 ∧ byteB l0 = true
  · rw [if_pos hg] at h
    have h := Option.some.inj h
    have hB := byteB_B hg.2
    have key : Calls Try.prog 10 #[.slice A0 l0.length c0] w (Res w (parseS l0).1 (parseS l0).2) := by
      unfold parseS
      by_cases g1 : l0.length < 4
      · rw [if_pos g1]; exact parse_short g1
      · rw [if_neg g1]
        have hr := num4_range hB 0
        obtain ⟨N, hN⟩ : ∃ N : Nat, N = (num4 l0 0 + 1).toNat := ⟨_, rfl⟩
        rw [← hN]
        have hn : num4 l0 0 + 1 = (N : Int) := by omega
        by_cases g2 : 512 < N
        · rw [if_pos g2]; exact parse_many hr0 hc0 hB hg.1 (by omega) hn g2 (by omega)
        · rw [if_neg g2]
          by_cases g3 : l0.length < tbS N
          · rw [if_pos g3]; exact parse_table hr0 hc0 hB hg.1 (by omega) hn (by omega) g3
          · rw [if_neg g3]
            by_cases g4 : padS l0 N = true
            · rw [if_pos g4]
              have hm := parse_main hr0 hc0 hB hg.1 (by omega) hn (by omega) (by omega) g4 _ rfl
              cases hp : parseL l0 N 0 (l0.drop (tbS N)) [] with
              | some S => rw [hp] at hm; exact hm
              | none => rw [hp] at hm; exact hm
            · rw [if_neg g4]; exact parse_pad hr0 hc0 hB hg.1 (by omega) hn (by omega) (by omega) (by simpa [padS] using g4)
    rw [h] at key
    exact key
  · rw [if_neg hg] at h; cases h
end Go.Proofs.Ytcdkgccmmfjnhaa.Fm
