/- The reader of package unpackstream, part 6: Write as a printed function. -/
import Derived.Test.YtpffoecblcfndaaDoorRdr5R
namespace Go.Proofs.YtpffoecblcfndaaDoor.Us
open Go Go.RowKit Go.Proofs.YtpffoecblcfndaaDoor Go.Proofs.YtpffoecblcfndaaDoor.M Go.Proofs.YtpffoecblcfndaaDoorW.PrintWords Go.Proofs.YtpffoecblcfndaaDoorW.PrintLast Go.Proofs.YtpffoecblcfndaaDoorW.PrintMore
set_option linter.unusedVariables false
set_option linter.unusedSimpArgs false
def byteB (l : List Int) : Bool := l.all fun x => decide (0 ≤ x) && decide (x < 256)
theorem byteB_B {l : List Int} (h : byteB l = true) : IsB l := fun x hx => by
  have := List.all_eq_true.mp h x hx
  simpa using this
theorem B_byteB {l : List Int} (h : IsB l) : byteB l = true := List.all_eq_true.mpr fun x hx => by simpa using h x hx
def guardF (tag : Int) (word p : List Int) : Bool := decide (word.length ≤ 1000000000) && decide (p.length ≤ 1000000000) && decide (0 ≤ tag) && decide (tag < 256) && byteB word && byteB p
def outF (r : UO) : Int × Int × List Int × Int × Int × Int × List Int × Int := (r.1.st, r.1.tag, r.1.word, r.1.left, r.1.done, r.1.err, r.2, r.1.err)
def writeF (st tag : Int) (word : List Int) (left done err : Int) (p : List Int) (lim : Int) : Option (Int × Int × List Int × Int × Int × Int × List Int × Int) :=
  if guardF tag word p = true then some (if validB ⟨st, tag, word, left, done, err⟩ = true then outF (runU (limU lim) p (⟨st, tag, word, left, done, err⟩, [])) else (st, tag, word, left, done, err, [], 12)) else none
theorem writeF_eq {tag : Int} {word p : List Int} (hw : word.length ≤ 1000000000) (hp : p.length ≤ 1000000000) (t0 : 0 ≤ tag) (t1 : tag < 256) (hwB : IsB word) (hpB : IsB p) (st left done err lim : Int) :
    writeF st tag word left done err p lim = some (if validB ⟨st, tag, word, left, done, err⟩ = true then outF (runU (limU lim) p (⟨st, tag, word, left, done, err⟩, [])) else (st, tag, word, left, done, err, [], 12)) := by
  unfold writeF
  rw [if_pos (by unfold guardF; rw [decide_eq_true hw, decide_eq_true hp, decide_eq_true t0, decide_eq_true t1, B_byteB hwB, B_byteB hpB]; rfl)]
theorem writeF_calls {a0_0 a0_1 : Int} {A0_2 : Option Addr} {c0_2 : Nat} {l0_2 : List Int} {a0_3 a0_4 a0_5 : Int} {A1 : Option Addr} {c1 : Nat} {l1 : List Int} {a2 r1 r2 : Int} {r3 : List Int} {r4 r5 r6 : Int} {r7 : List Int} {r8 : Int} {w : World}
    (hr0_2 : Kd.C (Kd.int .u8) w A0_2 l0_2.length l0_2) (hc0_2 : l0_2.length ≤ c0_2) (hr1 : Kd.C (Kd.int .u8) w A1 l1.length l1) (hc1 : l1.length ≤ c1) (h : writeF a0_0 a0_1 l0_2 a0_3 a0_4 a0_5 l1 a2 = some (r1, r2, r3, r4, r5, r6, r7, r8)) (hL : StepsL w) :
    Calls Tryd.prog 9 #[.agg #[.int .i64 a0_0, .int .u8 a0_1, .slice A0_2 l0_2.length c0_2, .int .i64 a0_3, .int .i64 a0_4, .int .i64 a0_5], .slice A1 l1.length c1, .int .i64 a2] w fun e w' => ∃ v2_ v6_ : Value, e = .returned (.tuple #[.agg #[.int .i64 r1, .int .u8 r2, v2_, .int .i64 r4, .int .i64 r5, .int .i64 r6], v6_, .int .i64 r8]) ∧ Kd.R (Kd.int .u8) 5 w' w.heap.size (fun k_ => some k_ ≠ (v6_ : Value).ownBlock) v2_ r3 ∧ Kd.R (Kd.int .u8) 5 w' w.heap.size (fun k_ => some k_ ≠ (v2_ : Value).ownBlock) v6_ r7 ∧ Below w.heap.size w w' := by
  unfold writeF at h
  by_cases hg : guardF a0_1 l0_2 l1 = true
  · rw [if_pos hg] at h
    have h := Option.some.inj h
    unfold guardF at hg
    simp only [Bool.and_eq_true, decide_eq_true_eq] at hg
    obtain ⟨⟨⟨⟨⟨g1, g2⟩, g3⟩, g4⟩, g5⟩, g6⟩ := hg
    by_cases hv : validB ⟨a0_0, a0_1, l0_2, a0_3, a0_4, a0_5⟩ = true
    · rw [if_pos hv] at h
      rcases hres : runU (limU a2) l1 (⟨a0_0, a0_1, l0_2, a0_3, a0_4, a0_5⟩, []) with ⟨RU, RO⟩
      rw [hres] at h
      simp only [outF, Prod.mk.injEq] at h
      obtain ⟨rfl, rfl, rfl, rfl, rfl, rfl, rfl, rfl⟩ := h
      exact write_ok (u := ⟨a0_0, a0_1, l0_2, a0_3, a0_4, a0_5⟩) hr0_2 hc0_2 hr1 hc1 hL (byteB_B g6) g2 (byteB_B g5) g1 g3 g4 hv hres
    · rw [if_neg hv] at h
      simp only [Prod.mk.injEq] at h
      obtain ⟨rfl, rfl, rfl, rfl, rfl, rfl, rfl, rfl⟩ := h
      exact write_bad (u := ⟨a0_0, a0_1, l0_2, a0_3, a0_4, a0_5⟩) hr0_2 hc0_2 g1 g3 g4 (by simpa using hv)
  · rw [if_neg hg] at h; cases h
end Go.Proofs.YtpffoecblcfndaaDoor.Us
namespace Go.Proofs.YtpffoecblcfndaaDoor.Un
open Go Go.Proofs.YtpffoecblcfndaaDoor.M
end Go.Proofs.YtpffoecblcfndaaDoor.Un
