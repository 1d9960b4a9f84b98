/- The reader of package unpackstream, part 4: a byte in each state; Write. -/
import Derived.Test.YtpffoecblcfndaaDoorRdr3R
import Derived.Test.YtpffoecblcfndaaDoorQVaBaseR
namespace Go.Proofs.YtpffoecblcfndaaDoor.Us
open Go Go.RowKit Go.Proofs.YtpffoecblcfndaaDoor Go.Proofs.YtpffoecblcfndaaDoor.M Go.Proofs.YtpffoecblcfndaaDoorW.PrintWords Go.Proofs.YtpffoecblcfndaaDoorW.PrintLast Go.Proofs.YtpffoecblcfndaaDoorW.PrintMore
attribute [local go_sem] max2_int min2_int max_two min_two
set_option linter.unusedVariables false
set_option linter.unusedSimpArgs false
set_option maxHeartbeats 1000000
set_option maxRecDepth 100000
structure StepsL (W : World) : Prop where
  c0 : W.cell? ⟨0, 0, none⟩ = some (.func (.func 50) #[] #[])
  c1 : W.cell? ⟨0, 1, none⟩ = some (.func (.func 51) #[] #[])
  c2 : W.cell? ⟨0, 2, none⟩ = some (.func (.func 52) #[] #[])
  c3 : W.cell? ⟨0, 3, none⟩ = some (.func (.func 48) #[] #[])
  c4 : W.cell? ⟨0, 4, none⟩ = some (.func (.func 53) #[] #[])
theorem cell_lt {W : World} {a : Addr} {v : Value} (h : W.cell? a = some v) : a.block < W.heap.size := by
  rcases Nat.lt_or_ge a.block W.heap.size with h' | h'
  · exact h'
  · simp [World.cell?, Array.getElem?_eq_none h'] at h
theorem StepsL.below {W w : World} (h : StepsL W) (hb : Below W.heap.size W w) : StepsL w :=
  ⟨(hb.cell (cell_lt h.c0)).trans h.c0, (hb.cell (cell_lt h.c1)).trans h.c1, (hb.cell (cell_lt h.c2)).trans h.c2, (hb.cell (cell_lt h.c3)).trans h.c3, (hb.cell (cell_lt h.c4)).trans h.c4⟩
def stepFn (st : Int) : Nat := if st = 0 then 50 else if st = 1 then 51 else if st = 2 then 52 else if st = 3 then 48 else 53
theorem step_calls {W0 w : World} {g : Nat} {u : U} {o : List Int} {lim c : Int} (hd : Rd W0 w g u o lim) (hv : VU u) (he : u.err = 0) (hlim : lim ≤ 1152921504606846976) (h0 : 0 ≤ c) (h1 : c < 256) (hol : o.length + 2048 ≤ 70368744177664) :
    Calls Tryd.prog (stepFn u.st) #[.pointer (some ⟨g, 0, none⟩), .int .u8 c] w fun e w' => e = .returned (.tuple #[]) ∧ Rd W0 w' g (stepU lim (u, o) c).1 (stepU lim (u, o) c).2 lim := by
  have hw := hv.w
  unfold roomU at hw
  unfold stepFn stepU
  dsimp only
  have ho8 := onesS_le u.tag
  have hi : u.word.length ≤ 140737488355320 := by
    by_cases s1 : u.st = 1
    · rw [if_pos s1] at hw; omega
    · rw [if_neg s1] at hw; split at hw <;> omega
  by_cases s0 : u.st = 0
  · rw [if_pos s0, if_pos s0]
    by_cases hc : c = 0
    · rw [if_pos hc]; exact tag_calls0 hd h0 h1 hc
    · rw [if_neg hc]; exact tag_calls1 hd h0 h1 hc
  · rw [if_neg s0, if_neg s0]
    by_cases s1 : u.st = 1
    · rw [if_pos s1, if_pos s1]
      unfold taggedU
      dsimp only
      by_cases hs : (u.word.length : Int) + 1 < onesS u.tag
      · rw [if_pos hs]; exact tagged_short hd h0 h1 hi hv.tb0 hv.tb1 hs
      · rw [if_neg hs]
        by_cases ht : u.tag = 255
        · rw [if_pos ht]; exact tagged_full hd h0 h1 hi hv.tb0 hv.tb1 hv.d0 hv.d1 (by omega) hv.wb hs ht
        · rw [if_neg ht]; exact tagged_other hd h0 h1 hi hv.tb0 hv.tb1 hv.d0 hv.d1 (by omega) hv.wb hs ht
    · rw [if_neg s1, if_neg s1]
      by_cases s2 : u.st = 2
      · rw [if_pos s2, if_pos s2]
        rcases hr : zerosU lim (c.toNat + 1) ({ u with st := 0 }, o) with ⟨RU, RO⟩
        exact zeros_calls (N := c.toNat + 1) hd hv.d0 hv.d1 hlim hol h0 h1 (by omega) (by omega) hr
      · rw [if_neg s2, if_neg s2]
        by_cases s3 : u.st = 3
        · rw [if_pos s3, if_pos s3]
          by_cases hc : 0 < c
          · rw [if_pos hc]; exact count_calls1 hd h0 h1 hc
          · rw [if_neg hc]
            obtain rfl : c = 0 := by omega
            exact count_calls0 hd h0 h1 rfl
        · rw [if_neg s3, if_neg s3]
          unfold literalU
          dsimp only
          have hl := hv.ls
          have hl0 := hv.l0
          have hs0 := hv.s0
          have hs4 := hv.s1
          by_cases hs : (u.word.length : Int) + 1 < 8
          · rw [if_pos hs]; exact literal_short hd h0 h1 hi hs
          · rw [if_neg hs]
            by_cases ht : 1 < u.left
            · rw [if_pos (by omega)]; exact literal_more hd h0 h1 hi hv.d0 hv.d1 (by omega) hv.wb (by omega) hv.l1 hs ht
            · rw [if_neg (by omega)]; exact literal_last hd h0 h1 hi hv.d0 hv.d1 (by omega) hv.wb (by omega) hv.l1 hs ht
end Go.Proofs.YtpffoecblcfndaaDoor.Us
