/- Package packstream: Write as a printed function. -/
import Derived.Test.YtibkbgaonjdpiaaPk8S
namespace Go.Proofs.Ytibkbgaonjdpiaa.Ps
open Go Go.RowKit Go.Proofs.Ytibkbgaonjdpiaa Go.Proofs.Ytibkbgaonjdpiaa.M Go.Proofs.YtibkbgaonjdpiaaW.PrintWords Go.Proofs.YtibkbgaonjdpiaaW.PrintLast Go.Proofs.YtibkbgaonjdpiaaW.PrintMore
set_option linter.unusedVariables false
set_option linter.unusedSimpArgs false
def byteB (l : List Int) : Bool := l.all fun x => decide (0 ≤ x) && decide (x < 256)
theorem byteB_B {l : List Int} (h : byteB l = true) : IsB l := fun x hx => by
  have := List.all_eq_true.mp h x hx
  simpa using this
theorem B_byteB {l : List Int} (h : IsB l) : byteB l = true := List.all_eq_true.mpr fun x hx => by simpa using h x hx
def guardF (p r b : List Int) : Bool := decide (p.length ≤ 1000000) && decide (r.length ≤ 1000000) && decide (b.length ≤ 1000000) && byteB p && byteB r && byteB b
def writeS (p : List Int) (z : Int) (r b : List Int) : List Int × Int × List Int × List Int :=
  ((p ++ b).drop ((p ++ b).length / 8 * 8), runBB (wordsS ((p ++ b).take ((p ++ b).length / 8 * 8))) (z, r, []))
def writeF (p : List Int) (z : Int) (r b : List Int) : Option (List Int × Int × List Int × List Int) :=
  if guardF p r b = true then some (if validB p z r = true then writeS p z r b else (p, z, r, [])) else none
theorem writeF_eq {p r b : List Int} (hp : p.length ≤ 1000000) (hr : r.length ≤ 1000000) (hb : b.length ≤ 1000000) (hpB : IsB p) (hrB : IsB r) (hbB : IsB b) (z : Int) :
    writeF p z r b = some (if validB p z r = true then writeS p z r b else (p, z, r, [])) := by
  unfold writeF
  rw [if_pos (by unfold guardF; rw [decide_eq_true hp, decide_eq_true hr, decide_eq_true hb, B_byteB hpB, B_byteB hrB, B_byteB hbB]; rfl)]
theorem validB_IB {p r : List Int} {z : Int} (h : validB p z r = true) : IB z r ∧ runB (wordsS r) = true ∧ r.length % 8 = 0 ∧ p.length < 8 := by
  unfold validB at h
  simp only [Bool.and_eq_true, decide_eq_true_eq] at h
  obtain ⟨⟨h1, h2, h3, h4, h5, h6⟩, h7⟩ := h
  exact ⟨⟨h4, h5, by omega, by omega, by omega⟩, h7, h1, h3⟩
theorem writeF_calls {A0_0 : Option Addr} {c0_0 : Nat} {l0_0 : List Int} {a0_1 : Int} {A0_2 : Option Addr} {c0_2 : Nat} {l0_2 : List Int} {A1 : Option Addr} {c1 : Nat} {l1 : List Int} {r1 : List Int} {r2 : Int} {r3 r4 : List Int} {w : World}
    (hr0_0 : Kd.C (Kd.int .u8) w A0_0 l0_0.length l0_0) (hc0_0 : l0_0.length ≤ c0_0) (hr0_2 : Kd.C (Kd.int .u8) w A0_2 l0_2.length l0_2) (hc0_2 : l0_2.length ≤ c0_2) (hr1 : Kd.C (Kd.int .u8) w A1 l1.length l1) (hc1 : l1.length ≤ c1) (h : writeF l0_0 a0_1 l0_2 l1 = some (r1, r2, r3, r4)) :
    Calls Try.prog 8 #[.agg #[.slice A0_0 l0_0.length c0_0, .int .i64 a0_1, .slice A0_2 l0_2.length c0_2], .slice A1 l1.length c1] w fun e w' => ∃ v0_ v2_ v3_ : Value, e = .returned (.tuple #[.agg #[v0_, .int .i64 r2, v2_], v3_]) ∧ Kd.R (Kd.int .u8) 5 w' w.heap.size (fun k_ => some k_ ≠ (v2_ : Value).ownBlock ∧ some k_ ≠ (v3_ : Value).ownBlock) v0_ r1 ∧ Kd.R (Kd.int .u8) 5 w' w.heap.size (fun k_ => some k_ ≠ (v0_ : Value).ownBlock ∧ some k_ ≠ (v3_ : Value).ownBlock) v2_ r3 ∧ Kd.R (Kd.int .u8) 5 w' w.heap.size (fun k_ => some k_ ≠ (v0_ : Value).ownBlock ∧ some k_ ≠ (v2_ : Value).ownBlock) v3_ r4 ∧ Below w.heap.size w w' := by
  unfold writeF at h
  by_cases hg : guardF l0_0 l0_2 l1 = true
  · rw [if_pos hg] at h
    have h := Option.some.inj h
    unfold guardF at hg
    simp only [Bool.and_eq_true, decide_eq_true_eq] at hg
    obtain ⟨⟨⟨⟨⟨g1, g2⟩, g3⟩, g4⟩, g5⟩, g6⟩ := hg
    by_cases hv : validB l0_0 a0_1 l0_2 = true
    · rw [if_pos hv] at h
      unfold writeS at h
      rcases hres : runBB (wordsS ((l0_0 ++ l1).take ((l0_0 ++ l1).length / 8 * 8))) (a0_1, l0_2, []) with ⟨RZ, RR, RO⟩
      rw [hres] at h
      simp only [Prod.mk.injEq] at h
      obtain ⟨rfl, rfl, rfl, rfl⟩ := h
      exact write_ok hr0_0 hc0_0 hr0_2 hc0_2 hr1 hc1 g1 g2 g3 (byteB_B g5) (byteB_B g4) (byteB_B g6) hv (validB_IB hv).1 rfl rfl rfl rfl rfl hres
    · rw [if_neg hv] at h
      simp only [Prod.mk.injEq] at h
      obtain ⟨rfl, rfl, rfl, rfl⟩ := h
      exact write_bad hr0_0 hc0_0 hr0_2 hc0_2 hr1 hc1 g1 g2 g3 (byteB_B g5) (by simpa using hv)
  · rw [if_neg hg] at h; cases h
end Go.Proofs.Ytibkbgaonjdpiaa.Ps
