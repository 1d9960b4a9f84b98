/- Printed functions of a law, and their walks. -/
import Derived.Test.YtibkbgaonjdpiaaXShortR
import Derived.Test.YtibkbgaonjdpiaaPPackstreamMatchesReferencex0R
import Derived.Test.YtibkbgaonjdpiaaPPackstreamMatchesReferencex6R
namespace Go.Proofs.Ytibkbgaonjdpiaa.PPackstreamMatchesReference
open Go.RowKit Go.Proofs.YtibkbgaonjdpiaaW.PrintWords Go.Proofs.YtibkbgaonjdpiaaW.PrintLast Go.Proofs.YtibkbgaonjdpiaaW.PrintMore
open Go.Proofs.Ytibkbgaonjdpiaa.PPaBase
attribute [local go_sem] max2_int min2_int max_two min_two max_three min_three max_four min_four   -- for this text's walks alone
set_option linter.unusedVariables false
set_option linter.unusedSimpArgs false
mutual
def capnpref24_Begin.l0 : Nat → List Int → Int → Option (Int)
  | 0, _, _ => none
  | k + 1, x0, x3 => if x3 < (x0.length : Int) then (if 0 ≤ x3 then ((capnpref20_Of.f k (rd x0 x3)).bind fun t346 => (capnpref24_Begin.l1 k x0 x3 1 t346)) else (none)) else (some x3)
def capnpref24_Begin.l1 : Nat → List Int → Int → Int → Int → Option (Int)
  | 0, _, _, _, _ => none
  | k + 1, x0, x3, x4, x5 => if x5 = 0 then (if (wrap64 (x3 + x4)) < (x0.length : Int) then (if x4 < 256 then (if 0 ≤ (wrap64 (x3 + x4)) then (if (rd x0 (wrap64 (x3 + x4))) = 0 then (capnpref24_Begin.l1 k x0 x3 (wrap64 (x4 + 1)) x5) else (if x5 = 255 then ((capnpref20_Dense.f k (rd x0 (wrap64 (x3 + x4)))).bind fun t349 => (if t349 = true then (capnpref24_Begin.l1 k x0 x3 (wrap64 (x4 + 1)) x5) else (if (wrap64 (x3 + x4)) = (x0.length : Int) then (some x3) else (capnpref24_Begin.l0 k x0 (wrap64 (x3 + x4)))))) else (if (wrap64 (x3 + x4)) = (x0.length : Int) then (some x3) else (capnpref24_Begin.l0 k x0 (wrap64 (x3 + x4)))))) else (none)) else (if (wrap64 (x3 + x4)) = (x0.length : Int) then (capnpref24_Begin.l0 k x0 (wrap64 (x3 + x4))) else (capnpref24_Begin.l0 k x0 (wrap64 (x3 + x4))))) else (if (wrap64 (x3 + x4)) = (x0.length : Int) then (if x4 < 256 then (some x3) else (capnpref24_Begin.l0 k x0 (wrap64 (x3 + x4)))) else (capnpref24_Begin.l0 k x0 (wrap64 (x3 + x4))))) else (if x5 = 255 then (if (wrap64 (x3 + x4)) < (x0.length : Int) then (if x4 < 256 then (if 0 ≤ (wrap64 (x3 + x4)) then ((capnpref20_Dense.f k (rd x0 (wrap64 (x3 + x4)))).bind fun t351 => (if t351 = true then (capnpref24_Begin.l1 k x0 x3 (wrap64 (x4 + 1)) x5) else (if (wrap64 (x3 + x4)) = (x0.length : Int) then (some x3) else (capnpref24_Begin.l0 k x0 (wrap64 (x3 + x4)))))) else (none)) else (if (wrap64 (x3 + x4)) = (x0.length : Int) then (capnpref24_Begin.l0 k x0 (wrap64 (x3 + x4))) else (capnpref24_Begin.l0 k x0 (wrap64 (x3 + x4))))) else (if (wrap64 (x3 + x4)) = (x0.length : Int) then (if x4 < 256 then (some x3) else (capnpref24_Begin.l0 k x0 (wrap64 (x3 + x4)))) else (capnpref24_Begin.l0 k x0 (wrap64 (x3 + x4))))) else (if (wrap64 (x3 + x4)) = (x0.length : Int) then (if x4 < 256 then (capnpref24_Begin.l0 k x0 (wrap64 (x3 + x4))) else (capnpref24_Begin.l0 k x0 (wrap64 (x3 + x4)))) else (capnpref24_Begin.l0 k x0 (wrap64 (x3 + x4)))))
end
def capnpref24_Begin.f (k : Nat) (l0 : List Int) : Option (Int) := capnpref24_Begin.l0 k l0 0
theorem capnpref24_Begin.mono_l : ∀ k, (∀ y0 y1, LeO (capnpref24_Begin.l0 k y0 y1) (capnpref24_Begin.l0 (k + 1) y0 y1)) ∧ (∀ y0 y1 y2 y3, LeO (capnpref24_Begin.l1 k y0 y1 y2 y3) (capnpref24_Begin.l1 (k + 1) y0 y1 y2 y3))
  | 0 => ⟨fun _ _ r h => by simp [capnpref24_Begin.l0] at h, fun _ _ _ _ r h => by simp [capnpref24_Begin.l1] at h⟩
  | k + 1 => by
    obtain ⟨ih0, ih1⟩ := capnpref24_Begin.mono_l k
    refine ⟨?_, ?_⟩
    · intro y0 y1
      unfold capnpref24_Begin.l0
      repeat' first
      | (with_reducible exact ih0 _ _)
      | (with_reducible exact ih1 _ _ _ _)
      | (with_reducible exact capnpref20_Dense.mono _ _)
      | (with_reducible exact capnpref20_Of.mono _ _)
      | (with_reducible exact LeO.refl _)
      | (with_reducible exact LeO.none _)
      | (with_reducible refine LeO.ite ?_ ?_)
      | (with_reducible refine LeO.bind ?_ (fun _ => ?_))
      | exact ih0 _ _
      | exact ih1 _ _ _ _
      | exact capnpref20_Dense.mono _ _
      | exact capnpref20_Of.mono _ _
      | exact LeO.none _
      | refine LeO.ite ?_ ?_
      | refine LeO.bind ?_ (fun _ => ?_)
    · intro y0 y1 y2 y3
      unfold capnpref24_Begin.l1
      repeat' first
      | (with_reducible exact ih0 _ _)
      | (with_reducible exact ih1 _ _ _ _)
      | (with_reducible exact capnpref20_Dense.mono _ _)
      | (with_reducible exact capnpref20_Of.mono _ _)
      | (with_reducible exact LeO.refl _)
      | (with_reducible exact LeO.none _)
      | (with_reducible refine LeO.ite ?_ ?_)
      | (with_reducible refine LeO.bind ?_ (fun _ => ?_))
      | exact ih0 _ _
      | exact ih1 _ _ _ _
      | exact capnpref20_Dense.mono _ _
      | exact capnpref20_Of.mono _ _
      | exact LeO.none _
      | refine LeO.ite ?_ ?_
      | refine LeO.bind ?_ (fun _ => ?_)
theorem capnpref24_Begin.mono : ∀ a0 k, LeO (capnpref24_Begin.f k a0) (capnpref24_Begin.f (k + 1) a0) := by
  intro a0 k
  obtain ⟨ih0, ih1⟩ := capnpref24_Begin.mono_l k
  unfold capnpref24_Begin.f
  repeat' first
      | (with_reducible exact ih0 _ _)
      | (with_reducible exact ih1 _ _ _ _)
      | (with_reducible exact capnpref20_Dense.mono _ _)
      | (with_reducible exact capnpref20_Of.mono _ _)
      | (with_reducible exact LeO.refl _)
      | (with_reducible exact LeO.none _)
      | (with_reducible refine LeO.ite ?_ ?_)
      | (with_reducible refine LeO.bind ?_ (fun _ => ?_))
      | exact ih0 _ _
      | exact ih1 _ _ _ _
      | exact capnpref20_Dense.mono _ _
      | exact capnpref20_Of.mono _ _
      | exact LeO.none _
      | refine LeO.ite ?_ ?_
      | refine LeO.bind ?_ (fun _ => ?_)
set_option maxHeartbeats 8000000 in
set_option maxRecDepth 100000 in
theorem capnpref24_Begin.calls (k : Nat) (A0 : Option Addr) (c0 : Nat) (l0 : List Int) (r : Int) (w : World) (hr0 : Kd.C (Kd.int .u64) w A0 l0.length l0) (hc0 : l0.length ≤ c0) (h : capnpref24_Begin.f k l0 = some r) :
    Calls Try.prog 28 #[.slice A0 l0.length c0] w fun e w' => e = .returned (.int .i64 r) ∧ Below w.heap.size w w' := by
  have HR0 := Aside0.mk hr0
  have HC0 := Aside0.mk hc0
  clear hr0 hc0
  have HB := Aside0.mk (Below.refl w.heap.size w)
  have H : (capnpref24_Begin.l0 k l0 0) = some r := h
  clear h
  have H' := Aside0.mk H
  clear H
  go_enter Try.func28, Try.ntmps28
  go_wp2
  go_loopg [3] k (fun kq v3 w' => ∃ (x3_1 : Int), v3 = .int .i64 x3_1 ∧ Aside0 (capnpref24_Begin.l0 kq l0 x3_1 = some r) ∧ Aside0 (kq ≤ k) ∧ Aside0 (Below w.heap.size w w'))
  case atStart => exact ⟨(0), (by first | rfl | (simp; done) | (simp [*]; done)), H', ⟨Nat.le_refl _⟩, ⟨pB⟩⟩
  case round =>
    clear H'
    obtain ⟨x3_1, rfl, HA, HK1, HB⟩ := hrel
    cases gk with
    | zero => exact absurd HA.out (by simp [capnpref24_Begin.l0])
    | succ k1 =>
      have H := HA.out
      clear HA
      simp only [capnpref24_Begin.l0] at H
      by_cases c2 : x3_1 < (l0.length : Int)
      · rw [if_pos c2] at H
        have c2b0 : decide (x3_1 < (l0.length : Int)) = true := decide_eq_true c2
        clear c2
        by_cases c3 : 0 ≤ x3_1
        · rw [if_pos c3] at H
          have c3b0 : decide (0 ≤ x3_1) = true := decide_eq_true c3
          clear c3
          replace H := Option.bind_eq_some_iff.mp H
          obtain ⟨t346, A40, H⟩ := H
          replace H : (capnpref24_Begin.l1 k1 l0 x3_1 1 t346) = some r := H
          have A4 := Aside0.mk A40
          clear A40
          have H' := Aside0.mk H
          clear H
          have p345 : 0 ≤ (x3_1 : Int) := of_decide_eq_true pA
          have q345 : x3_1 < (l0.length : Int) := of_decide_eq_true pA
          obtain ⟨ad345, e345, hx345_0⟩ := Kd.at_int HR0.out x3_1 p345 q345
          cases e345
          replace hx345_0 := (HB.out.cell (World.block_lt_of_cell? w _ hx345_0)).trans hx345_0
          replace p345 := eq_true p345
          replace q345 := eq_true q345
          go_wp2_with (first | ((with_reducible refine gate_callee (f := 31) rfl ?_); refine goesL_ (some 14) rfl rfl Try.func31 (by kernel_rfl) rfl #[.int .u64 (rd l0 x3_1)] rfl pM ?_; (with_reducible refine (capnpref20_Of.calls k1 (rd l0 x3_1) t346 _ A4.out).mono ?_); rintro e w5 ⟨rfl, hb⟩; refine ⟨_, rfl, ?_⟩; have n0_ := Aside0.mk (below_step pB hb); clear HB; have HB := n0_; clear n0_; (try clear hb); (try clear hb2); (try clear hk); (try clear hi)))
          go_loopg [4] k1 (fun kq v4 w' => ∃ (x4_2 : Int), v4 = .int .i64 x4_2 ∧ Aside0 (capnpref24_Begin.l1 kq l0 x3_1 x4_2 t346 = some r) ∧ Aside0 (kq ≤ k1) ∧ Aside0 (Below w.heap.size w w'))
          case atStart => exact ⟨(1), (by first | rfl | (simp; done) | (simp [*]; done)), H', ⟨Nat.le_refl _⟩, ⟨pB⟩⟩
          case round =>
            clear H'
            try clear c2
            try clear c2b0
            try clear p2
            try clear c3
            try clear c3b0
            try clear p3
            try clear q3
            try clear hx3
            try clear hx345_0
            try clear p345
            try clear q345
            obtain ⟨x4_2, rfl, HA, HK2, HB⟩ := hrel
            cases gk with
            | zero => exact absurd HA.out (by simp [capnpref24_Begin.l1])
            | succ k2 =>
              have H := HA.out
              clear HA
              simp only [capnpref24_Begin.l1] at H
              by_cases c6 : t346 = 0
              · rw [if_pos c6] at H
                have c6b0 : (t346 == 0) = true := beq_iff_eq.mpr c6
                have c6b1 : (t346 != 0) = false := bne_eq_false_iff_eq.mpr c6
                clear c6
                by_cases c7 : (wrap64 (x3_1 + x4_2)) < (l0.length : Int)
                · rw [if_pos c7] at H
                  have c7b0 : decide ((wrap64 (x3_1 + x4_2)) < (l0.length : Int)) = true := decide_eq_true c7
                  clear c7
                  by_cases c8 : x4_2 < 256
                  · rw [if_pos c8] at H
                    have c8b0 : decide (x4_2 < 256) = true := decide_eq_true c8
                    clear c8
                    obtain ⟨ji9, hji9⟩ : ∃ j_ : Int, (wrap64 (x3_1 + x4_2)) = j_ := ⟨_, rfl⟩
                    replace H : (if 0 ≤ (ji9) then (if (rd l0 (ji9)) = 0 then (capnpref24_Begin.l1 k2 l0 x3_1 (wrap64 (x4_2 + 1)) t346) else (if t346 = 255 then ((capnpref20_Dense.f k2 (rd l0 (ji9))).bind fun t349 => (if t349 = true then (capnpref24_Begin.l1 k2 l0 x3_1 (wrap64 (x4_2 + 1)) t346) else (if (ji9) = (l0.length : Int) then (some x3_1) else (capnpref24_Begin.l0 k2 l0 ji9)))) else (if (ji9) = (l0.length : Int) then (some x3_1) else (capnpref24_Begin.l0 k2 l0 ji9)))) else (none)) = some r := by first | (rw [hji9] at H; exact H) | (simp only [hji9] at H ⊢; exact H)
                    (try rw [hji9] at c7b0)
                    have hji9w : (IntKind.i64.wrap (x3_1 + x4_2)) = ji9 := (i64_w _).trans hji9
                    by_cases c10 : 0 ≤ (ji9)
                    · rw [if_pos c10] at H
                      have c10b0 : decide (0 ≤ (ji9)) = true := decide_eq_true c10
                      clear c10
                      by_cases c11 : (rd l0 (ji9)) = 0
                      · rw [if_pos c11] at H
                        have c11b0 : ((rd l0 (ji9)) == 0) = true := beq_iff_eq.mpr c11
                        have c11b1 : ((rd l0 (ji9)) != 0) = false := bne_eq_false_iff_eq.mpr c11
                        clear c11
                        have H' := Aside0.mk H
                        clear H
                        have p347 : 0 ≤ ((ji9) : Int) := of_decide_eq_true pA
                        have q347 : (ji9) < (l0.length : Int) := of_decide_eq_true pA
                        obtain ⟨ad347, e347, hx347_0⟩ := Kd.at_int HR0.out (ji9) p347 q347
                        obtain rfl : ad345 = ad347 := (by injection e347)
                        replace hx347_0 := (HB.out.cell (World.block_lt_of_cell? w _ hx347_0)).trans hx347_0
                        replace p347 := eq_true p347
                        replace q347 := eq_true q347
                        go_wp2
                        (first | go_roundg k2 | ((try subst hji9); go_roundg k2))
                        case measure => have := HK1.out; have := HK2.out; omega
                        case rel => exact ⟨(wrap64 (x4_2 + 1)), (by first | rfl | (simp; done) | (simp [*]; done)), H', ⟨by have := HK1.out; have := HK2.out; omega⟩, ⟨pB⟩⟩
                      · rw [if_neg c11] at H
                        have c11b0 : ((rd l0 (ji9)) == 0) = false := beq_eq_false_iff_ne.mpr c11
                        have c11b1 : ((rd l0 (ji9)) != 0) = true := bne_iff_ne.mpr c11
                        by_cases c12 : t346 = 255
                        · rw [if_pos c12] at H
                          have c12b0 : (t346 == 255) = true := beq_iff_eq.mpr c12
                          have c12b1 : (t346 != 255) = false := bne_eq_false_iff_eq.mpr c12
                          clear c12
                          replace H := Option.bind_eq_some_iff.mp H
                          obtain ⟨t349, A130, H⟩ := H
                          replace H : (if t349 = true then (capnpref24_Begin.l1 k2 l0 x3_1 (wrap64 (x4_2 + 1)) t346) else (if (ji9) = (l0.length : Int) then (some x3_1) else (capnpref24_Begin.l0 k2 l0 ji9))) = some r := H
                          have A13 := Aside0.mk A130
                          clear A130
                          by_cases c14 : t349 = true
                          · subst c14
                            have H1 : (capnpref24_Begin.l1 k2 l0 x3_1 (wrap64 (x4_2 + 1)) t346) = some r := by rw [if_pos rfl] at H; exact H
                            clear H
                            have H := H1
                            clear H1
                            have H' := Aside0.mk H
                            clear H
                            have p347 : 0 ≤ ((ji9) : Int) := of_decide_eq_true pA
                            have q347 : (ji9) < (l0.length : Int) := of_decide_eq_true pA
                            obtain ⟨ad347, e347, hx347_0⟩ := Kd.at_int HR0.out (ji9) p347 q347
                            obtain rfl : ad345 = ad347 := (by injection e347)
                            replace hx347_0 := (HB.out.cell (World.block_lt_of_cell? w _ hx347_0)).trans hx347_0
                            replace p347 := eq_true p347
                            replace q347 := eq_true q347
                            have p348 : 0 ≤ ((ji9) : Int) := of_decide_eq_true pA
                            have q348 : (ji9) < (l0.length : Int) := of_decide_eq_true pA
                            obtain ⟨ad348, e348, hx348_0⟩ := Kd.at_int HR0.out (ji9) p348 q348
                            obtain rfl : ad345 = ad348 := (by injection e348)
                            replace hx348_0 := (HB.out.cell (World.block_lt_of_cell? w _ hx348_0)).trans hx348_0
                            replace p348 := eq_true p348
                            replace q348 := eq_true q348
                            go_wp2_with (first | (go_at_call 32; (with_reducible refine (capnpref20_Dense.calls k2 (rd l0 (ji9)) true _ A13.out).mono ?_); rintro e w15 ⟨rfl, hb⟩; have n0_ := Aside0.mk (below_step pB hb); clear HB; have HB := n0_; clear n0_; (try clear hb); (try clear hb2); (try clear hk); (try clear hi)))
                            (first | go_roundg k2 | ((try subst hji9); go_roundg k2))
                            case measure => have := HK1.out; have := HK2.out; omega
                            case rel => exact ⟨(wrap64 (x4_2 + 1)), (by first | rfl | (simp; done) | (simp [*]; done)), H', ⟨by have := HK1.out; have := HK2.out; omega⟩, ⟨pB⟩⟩
                          · replace c14 := Bool.eq_false_iff.mpr c14
                            subst c14
                            have H1 : (if (ji9) = (l0.length : Int) then (some x3_1) else (capnpref24_Begin.l0 k2 l0 ji9)) = some r := by rw [if_neg (show ¬ (false = true) by decide)] at H; exact H
                            clear H
                            have H := H1
                            clear H1
                            by_cases c16 : (ji9) = (l0.length : Int)
                            · rw [if_pos c16] at H
                              have c16b0 : ((ji9) == (l0.length : Int)) = true := beq_iff_eq.mpr c16
                              have c16b1 : ((ji9) != (l0.length : Int)) = false := bne_eq_false_iff_eq.mpr c16
                              clear c16
                              obtain rfl := Option.some.inj H
                              have p347 : 0 ≤ ((ji9) : Int) := of_decide_eq_true pA
                              have q347 : (ji9) < (l0.length : Int) := of_decide_eq_true pA
                              obtain ⟨ad347, e347, hx347_0⟩ := Kd.at_int HR0.out (ji9) p347 q347
                              obtain rfl : ad345 = ad347 := (by injection e347)
                              replace hx347_0 := (HB.out.cell (World.block_lt_of_cell? w _ hx347_0)).trans hx347_0
                              replace p347 := eq_true p347
                              replace q347 := eq_true q347
                              have p348 : 0 ≤ ((ji9) : Int) := of_decide_eq_true pA
                              have q348 : (ji9) < (l0.length : Int) := of_decide_eq_true pA
                              obtain ⟨ad348, e348, hx348_0⟩ := Kd.at_int HR0.out (ji9) p348 q348
                              obtain rfl : ad345 = ad348 := (by injection e348)
                              replace hx348_0 := (HB.out.cell (World.block_lt_of_cell? w _ hx348_0)).trans hx348_0
                              replace p348 := eq_true p348
                              replace q348 := eq_true q348
                              go_wp2_with (first | (go_at_call 32; (with_reducible refine (capnpref20_Dense.calls k2 (rd l0 (ji9)) false _ A13.out).mono ?_); rintro e w17 ⟨rfl, hb⟩; have n0_ := Aside0.mk (below_step pB hb); clear HB; have HB := n0_; clear n0_; (try clear hb); (try clear hb2); (try clear hk); (try clear hi)))
                              go_ret
                              exact ⟨by first | rfl | (simp [errW_none, errW_some] <;> rfl) | (simp only [← hji9]; first | rfl | (simp [errW_none, errW_some] <;> rfl)) | (simp [*, errW_none, errW_some] <;> rfl), pB⟩
                            · rw [if_neg c16] at H
                              have c16b0 : ((ji9) == (l0.length : Int)) = false := beq_eq_false_iff_ne.mpr c16
                              have c16b1 : ((ji9) != (l0.length : Int)) = true := bne_iff_ne.mpr c16
                              have H' := Aside0.mk H
                              clear H
                              have p347 : 0 ≤ ((ji9) : Int) := of_decide_eq_true pA
                              have q347 : (ji9) < (l0.length : Int) := of_decide_eq_true pA
                              obtain ⟨ad347, e347, hx347_0⟩ := Kd.at_int HR0.out (ji9) p347 q347
                              obtain rfl : ad345 = ad347 := (by injection e347)
                              replace hx347_0 := (HB.out.cell (World.block_lt_of_cell? w _ hx347_0)).trans hx347_0
                              replace p347 := eq_true p347
                              replace q347 := eq_true q347
                              have p348 : 0 ≤ ((ji9) : Int) := of_decide_eq_true pA
                              have q348 : (ji9) < (l0.length : Int) := of_decide_eq_true pA
                              obtain ⟨ad348, e348, hx348_0⟩ := Kd.at_int HR0.out (ji9) p348 q348
                              obtain rfl : ad345 = ad348 := (by injection e348)
                              replace hx348_0 := (HB.out.cell (World.block_lt_of_cell? w _ hx348_0)).trans hx348_0
                              replace p348 := eq_true p348
                              replace q348 := eq_true q348
                              go_wp2_with (first | (go_at_call 32; (with_reducible refine (capnpref20_Dense.calls k2 (rd l0 (ji9)) false _ A13.out).mono ?_); rintro e w18 ⟨rfl, hb⟩; have n0_ := Aside0.mk (below_step pB hb); clear HB; have HB := n0_; clear n0_; (try clear hb); (try clear hb2); (try clear hk); (try clear hi)))
                              (first | go_roundg k2 | ((try subst hji9); go_roundg k2))
                              case measure => have := HK1.out; have := HK2.out; omega
                              case rel => exact ⟨(ji9), (by first | rfl | (simp; done) | (simp only [← hji9] <;> (first | rfl | simp)) | (simp [*]; done)), H', ⟨by have := HK1.out; have := HK2.out; omega⟩, ⟨pB⟩⟩
                        · rw [if_neg c12] at H
                          have c12b0 : (t346 == 255) = false := beq_eq_false_iff_ne.mpr c12
                          have c12b1 : (t346 != 255) = true := bne_iff_ne.mpr c12
                          by_cases c19 : (ji9) = (l0.length : Int)
                          · rw [if_pos c19] at H
                            have c19b0 : ((ji9) == (l0.length : Int)) = true := beq_iff_eq.mpr c19
                            have c19b1 : ((ji9) != (l0.length : Int)) = false := bne_eq_false_iff_eq.mpr c19
                            clear c19
                            obtain rfl := Option.some.inj H
                            have p347 : 0 ≤ ((ji9) : Int) := of_decide_eq_true pA
                            have q347 : (ji9) < (l0.length : Int) := of_decide_eq_true pA
                            obtain ⟨ad347, e347, hx347_0⟩ := Kd.at_int HR0.out (ji9) p347 q347
                            obtain rfl : ad345 = ad347 := (by injection e347)
                            replace hx347_0 := (HB.out.cell (World.block_lt_of_cell? w _ hx347_0)).trans hx347_0
                            replace p347 := eq_true p347
                            replace q347 := eq_true q347
                            go_wp2
                            go_ret
                            exact ⟨by first | rfl | (simp [errW_none, errW_some] <;> rfl) | (simp only [← hji9]; first | rfl | (simp [errW_none, errW_some] <;> rfl)) | (simp [*, errW_none, errW_some] <;> rfl), pB⟩
                          · rw [if_neg c19] at H
                            have c19b0 : ((ji9) == (l0.length : Int)) = false := beq_eq_false_iff_ne.mpr c19
                            have c19b1 : ((ji9) != (l0.length : Int)) = true := bne_iff_ne.mpr c19
                            have H' := Aside0.mk H
                            clear H
                            have p347 : 0 ≤ ((ji9) : Int) := of_decide_eq_true pA
                            have q347 : (ji9) < (l0.length : Int) := of_decide_eq_true pA
                            obtain ⟨ad347, e347, hx347_0⟩ := Kd.at_int HR0.out (ji9) p347 q347
                            obtain rfl : ad345 = ad347 := (by injection e347)
                            replace hx347_0 := (HB.out.cell (World.block_lt_of_cell? w _ hx347_0)).trans hx347_0
                            replace p347 := eq_true p347
                            replace q347 := eq_true q347
                            go_wp2
                            (first | go_roundg k2 | ((try subst hji9); go_roundg k2))
                            case measure => have := HK1.out; have := HK2.out; omega
                            case rel => exact ⟨(ji9), (by first | rfl | (simp; done) | (simp only [← hji9] <;> (first | rfl | simp)) | (simp [*]; done)), H', ⟨by have := HK1.out; have := HK2.out; omega⟩, ⟨pB⟩⟩
                    · rw [if_neg c10] at H
                      exact absurd H (by simp)
                  · rw [if_neg c8] at H
                    have c8b0 : decide (x4_2 < 256) = false := decide_eq_false c8
                    clear c8
                    by_cases c20 : (wrap64 (x3_1 + x4_2)) = (l0.length : Int)
                    · rw [if_pos c20] at H
                      have c20b0 : ((wrap64 (x3_1 + x4_2)) == (l0.length : Int)) = true := beq_iff_eq.mpr c20
                      have c20b1 : ((wrap64 (x3_1 + x4_2)) != (l0.length : Int)) = false := bne_eq_false_iff_eq.mpr c20
                      clear c20
                      have H' := Aside0.mk H
                      clear H
                      go_wp2
                      go_roundg k2
                      case measure => have := HK1.out; have := HK2.out; omega
                      case rel => exact ⟨(wrap64 (x3_1 + x4_2)), (by first | rfl | (simp; done) | (simp [*]; done)), H', ⟨by have := HK1.out; have := HK2.out; omega⟩, ⟨pB⟩⟩
                    · rw [if_neg c20] at H
                      have c20b0 : ((wrap64 (x3_1 + x4_2)) == (l0.length : Int)) = false := beq_eq_false_iff_ne.mpr c20
                      have c20b1 : ((wrap64 (x3_1 + x4_2)) != (l0.length : Int)) = true := bne_iff_ne.mpr c20
                      have H' := Aside0.mk H
                      clear H
                      go_wp2
                      go_roundg k2
                      case measure => have := HK1.out; have := HK2.out; omega
                      case rel => exact ⟨(wrap64 (x3_1 + x4_2)), (by first | rfl | (simp; done) | (simp [*]; done)), H', ⟨by have := HK1.out; have := HK2.out; omega⟩, ⟨pB⟩⟩
                · rw [if_neg c7] at H
                  have c7b0 : decide ((wrap64 (x3_1 + x4_2)) < (l0.length : Int)) = false := decide_eq_false c7
                  clear c7
                  by_cases c21 : (wrap64 (x3_1 + x4_2)) = (l0.length : Int)
                  · rw [if_pos c21] at H
                    have c21b0 : ((wrap64 (x3_1 + x4_2)) == (l0.length : Int)) = true := beq_iff_eq.mpr c21
                    have c21b1 : ((wrap64 (x3_1 + x4_2)) != (l0.length : Int)) = false := bne_eq_false_iff_eq.mpr c21
                    clear c21
                    by_cases c22 : x4_2 < 256
                    · rw [if_pos c22] at H
                      have c22b0 : decide (x4_2 < 256) = true := decide_eq_true c22
                      clear c22
                      obtain rfl := Option.some.inj H
                      go_wp2
                      go_ret
                      exact ⟨by first | rfl | (simp [errW_none, errW_some] <;> rfl) | (simp [*, errW_none, errW_some] <;> rfl), pB⟩
                    · rw [if_neg c22] at H
                      have c22b0 : decide (x4_2 < 256) = false := decide_eq_false c22
                      clear c22
                      have H' := Aside0.mk H
                      clear H
                      go_wp2
                      go_roundg k2
                      case measure => have := HK1.out; have := HK2.out; omega
                      case rel => exact ⟨(wrap64 (x3_1 + x4_2)), (by first | rfl | (simp; done) | (simp [*]; done)), H', ⟨by have := HK1.out; have := HK2.out; omega⟩, ⟨pB⟩⟩
                  · rw [if_neg c21] at H
                    have c21b0 : ((wrap64 (x3_1 + x4_2)) == (l0.length : Int)) = false := beq_eq_false_iff_ne.mpr c21
                    have c21b1 : ((wrap64 (x3_1 + x4_2)) != (l0.length : Int)) = true := bne_iff_ne.mpr c21
                    have H' := Aside0.mk H
                    clear H
                    go_wp2
                    go_roundg k2
                    case measure => have := HK1.out; have := HK2.out; omega
                    case rel => exact ⟨(wrap64 (x3_1 + x4_2)), (by first | rfl | (simp; done) | (simp [*]; done)), H', ⟨by have := HK1.out; have := HK2.out; omega⟩, ⟨pB⟩⟩
              · rw [if_neg c6] at H
                have c6b0 : (t346 == 0) = false := beq_eq_false_iff_ne.mpr c6
                have c6b1 : (t346 != 0) = true := bne_iff_ne.mpr c6
                by_cases c23 : t346 = 255
                · rw [if_pos c23] at H
                  have c23b0 : (t346 == 255) = true := beq_iff_eq.mpr c23
                  have c23b1 : (t346 != 255) = false := bne_eq_false_iff_eq.mpr c23
                  clear c23
                  by_cases c24 : (wrap64 (x3_1 + x4_2)) < (l0.length : Int)
                  · rw [if_pos c24] at H
                    have c24b0 : decide ((wrap64 (x3_1 + x4_2)) < (l0.length : Int)) = true := decide_eq_true c24
                    clear c24
                    by_cases c25 : x4_2 < 256
                    · rw [if_pos c25] at H
                      have c25b0 : decide (x4_2 < 256) = true := decide_eq_true c25
                      clear c25
                      try subst hji9
                      obtain ⟨ji26, hji26⟩ : ∃ j_ : Int, (wrap64 (x3_1 + x4_2)) = j_ := ⟨_, rfl⟩
                      replace H : (if 0 ≤ (ji26) then ((capnpref20_Dense.f k2 (rd l0 (ji26))).bind fun t351 => (if t351 = true then (capnpref24_Begin.l1 k2 l0 x3_1 (wrap64 (x4_2 + 1)) t346) else (if (ji26) = (l0.length : Int) then (some x3_1) else (capnpref24_Begin.l0 k2 l0 ji26)))) else (none)) = some r := by first | (rw [hji26] at H; exact H) | (simp only [hji26] at H ⊢; exact H)
                      (try rw [hji26] at c24b0)
                      have hji26w : (IntKind.i64.wrap (x3_1 + x4_2)) = ji26 := (i64_w _).trans hji26
                      by_cases c27 : 0 ≤ (ji26)
                      · rw [if_pos c27] at H
                        have c27b0 : decide (0 ≤ (ji26)) = true := decide_eq_true c27
                        clear c27
                        replace H := Option.bind_eq_some_iff.mp H
                        obtain ⟨t351, A280, H⟩ := H
                        replace H : (if t351 = true then (capnpref24_Begin.l1 k2 l0 x3_1 (wrap64 (x4_2 + 1)) t346) else (if (ji26) = (l0.length : Int) then (some x3_1) else (capnpref24_Begin.l0 k2 l0 ji26))) = some r := H
                        have A28 := Aside0.mk A280
                        clear A280
                        by_cases c29 : t351 = true
                        · subst c29
                          have H1 : (capnpref24_Begin.l1 k2 l0 x3_1 (wrap64 (x4_2 + 1)) t346) = some r := by rw [if_pos rfl] at H; exact H
                          clear H
                          have H := H1
                          clear H1
                          have H' := Aside0.mk H
                          clear H
                          have p350 : 0 ≤ ((ji26) : Int) := of_decide_eq_true pA
                          have q350 : (ji26) < (l0.length : Int) := of_decide_eq_true pA
                          obtain ⟨ad350, e350, hx350_0⟩ := Kd.at_int HR0.out (ji26) p350 q350
                          obtain rfl : ad345 = ad350 := (by injection e350)
                          replace hx350_0 := (HB.out.cell (World.block_lt_of_cell? w _ hx350_0)).trans hx350_0
                          replace p350 := eq_true p350
                          replace q350 := eq_true q350
                          go_wp2_with (first | (go_at_call 32; (with_reducible refine (capnpref20_Dense.calls k2 (rd l0 (ji26)) true _ A28.out).mono ?_); rintro e w30 ⟨rfl, hb⟩; have n0_ := Aside0.mk (below_step pB hb); clear HB; have HB := n0_; clear n0_; (try clear hb); (try clear hb2); (try clear hk); (try clear hi)))
                          (first | go_roundg k2 | ((try subst hji26); go_roundg k2))
                          case measure => have := HK1.out; have := HK2.out; omega
                          case rel => exact ⟨(wrap64 (x4_2 + 1)), (by first | rfl | (simp; done) | (simp [*]; done)), H', ⟨by have := HK1.out; have := HK2.out; omega⟩, ⟨pB⟩⟩
                        · replace c29 := Bool.eq_false_iff.mpr c29
                          subst c29
                          have H1 : (if (ji26) = (l0.length : Int) then (some x3_1) else (capnpref24_Begin.l0 k2 l0 ji26)) = some r := by rw [if_neg (show ¬ (false = true) by decide)] at H; exact H
                          clear H
                          have H := H1
                          clear H1
                          by_cases c31 : (ji26) = (l0.length : Int)
                          · rw [if_pos c31] at H
                            have c31b0 : ((ji26) == (l0.length : Int)) = true := beq_iff_eq.mpr c31
                            have c31b1 : ((ji26) != (l0.length : Int)) = false := bne_eq_false_iff_eq.mpr c31
                            clear c31
                            obtain rfl := Option.some.inj H
                            have p350 : 0 ≤ ((ji26) : Int) := of_decide_eq_true pA
                            have q350 : (ji26) < (l0.length : Int) := of_decide_eq_true pA
                            obtain ⟨ad350, e350, hx350_0⟩ := Kd.at_int HR0.out (ji26) p350 q350
                            obtain rfl : ad345 = ad350 := (by injection e350)
                            replace hx350_0 := (HB.out.cell (World.block_lt_of_cell? w _ hx350_0)).trans hx350_0
                            replace p350 := eq_true p350
                            replace q350 := eq_true q350
                            go_wp2_with (first | (go_at_call 32; (with_reducible refine (capnpref20_Dense.calls k2 (rd l0 (ji26)) false _ A28.out).mono ?_); rintro e w32 ⟨rfl, hb⟩; have n0_ := Aside0.mk (below_step pB hb); clear HB; have HB := n0_; clear n0_; (try clear hb); (try clear hb2); (try clear hk); (try clear hi)))
                            go_ret
                            exact ⟨by first | rfl | (simp [errW_none, errW_some] <;> rfl) | (simp only [← hji26]; first | rfl | (simp [errW_none, errW_some] <;> rfl)) | (simp [*, errW_none, errW_some] <;> rfl), pB⟩
                          · rw [if_neg c31] at H
                            have c31b0 : ((ji26) == (l0.length : Int)) = false := beq_eq_false_iff_ne.mpr c31
                            have c31b1 : ((ji26) != (l0.length : Int)) = true := bne_iff_ne.mpr c31
                            have H' := Aside0.mk H
                            clear H
                            have p350 : 0 ≤ ((ji26) : Int) := of_decide_eq_true pA
                            have q350 : (ji26) < (l0.length : Int) := of_decide_eq_true pA
                            obtain ⟨ad350, e350, hx350_0⟩ := Kd.at_int HR0.out (ji26) p350 q350
                            obtain rfl : ad345 = ad350 := (by injection e350)
                            replace hx350_0 := (HB.out.cell (World.block_lt_of_cell? w _ hx350_0)).trans hx350_0
                            replace p350 := eq_true p350
                            replace q350 := eq_true q350
                            go_wp2_with (first | (go_at_call 32; (with_reducible refine (capnpref20_Dense.calls k2 (rd l0 (ji26)) false _ A28.out).mono ?_); rintro e w33 ⟨rfl, hb⟩; have n0_ := Aside0.mk (below_step pB hb); clear HB; have HB := n0_; clear n0_; (try clear hb); (try clear hb2); (try clear hk); (try clear hi)))
                            (first | go_roundg k2 | ((try subst hji26); go_roundg k2))
                            case measure => have := HK1.out; have := HK2.out; omega
                            case rel => exact ⟨(ji26), (by first | rfl | (simp; done) | (simp only [← hji26] <;> (first | rfl | simp)) | (simp [*]; done)), H', ⟨by have := HK1.out; have := HK2.out; omega⟩, ⟨pB⟩⟩
                      · rw [if_neg c27] at H
                        exact absurd H (by simp)
                    · rw [if_neg c25] at H
                      have c25b0 : decide (x4_2 < 256) = false := decide_eq_false c25
                      clear c25
                      by_cases c34 : (wrap64 (x3_1 + x4_2)) = (l0.length : Int)
                      · rw [if_pos c34] at H
                        have c34b0 : ((wrap64 (x3_1 + x4_2)) == (l0.length : Int)) = true := beq_iff_eq.mpr c34
                        have c34b1 : ((wrap64 (x3_1 + x4_2)) != (l0.length : Int)) = false := bne_eq_false_iff_eq.mpr c34
                        clear c34
                        have H' := Aside0.mk H
                        clear H
                        go_wp2
                        go_roundg k2
                        case measure => have := HK1.out; have := HK2.out; omega
                        case rel => exact ⟨(wrap64 (x3_1 + x4_2)), (by first | rfl | (simp; done) | (simp [*]; done)), H', ⟨by have := HK1.out; have := HK2.out; omega⟩, ⟨pB⟩⟩
                      · rw [if_neg c34] at H
                        have c34b0 : ((wrap64 (x3_1 + x4_2)) == (l0.length : Int)) = false := beq_eq_false_iff_ne.mpr c34
                        have c34b1 : ((wrap64 (x3_1 + x4_2)) != (l0.length : Int)) = true := bne_iff_ne.mpr c34
                        have H' := Aside0.mk H
                        clear H
                        go_wp2
                        go_roundg k2
                        case measure => have := HK1.out; have := HK2.out; omega
                        case rel => exact ⟨(wrap64 (x3_1 + x4_2)), (by first | rfl | (simp; done) | (simp [*]; done)), H', ⟨by have := HK1.out; have := HK2.out; omega⟩, ⟨pB⟩⟩
                  · rw [if_neg c24] at H
                    have c24b0 : decide ((wrap64 (x3_1 + x4_2)) < (l0.length : Int)) = false := decide_eq_false c24
                    clear c24
                    by_cases c35 : (wrap64 (x3_1 + x4_2)) = (l0.length : Int)
                    · rw [if_pos c35] at H
                      have c35b0 : ((wrap64 (x3_1 + x4_2)) == (l0.length : Int)) = true := beq_iff_eq.mpr c35
                      have c35b1 : ((wrap64 (x3_1 + x4_2)) != (l0.length : Int)) = false := bne_eq_false_iff_eq.mpr c35
                      clear c35
                      by_cases c36 : x4_2 < 256
                      · rw [if_pos c36] at H
                        have c36b0 : decide (x4_2 < 256) = true := decide_eq_true c36
                        clear c36
                        obtain rfl := Option.some.inj H
                        go_wp2
                        go_ret
                        exact ⟨by first | rfl | (simp [errW_none, errW_some] <;> rfl) | (simp [*, errW_none, errW_some] <;> rfl), pB⟩
                      · rw [if_neg c36] at H
                        have c36b0 : decide (x4_2 < 256) = false := decide_eq_false c36
                        clear c36
                        have H' := Aside0.mk H
                        clear H
                        go_wp2
                        go_roundg k2
                        case measure => have := HK1.out; have := HK2.out; omega
                        case rel => exact ⟨(wrap64 (x3_1 + x4_2)), (by first | rfl | (simp; done) | (simp [*]; done)), H', ⟨by have := HK1.out; have := HK2.out; omega⟩, ⟨pB⟩⟩
                    · rw [if_neg c35] at H
                      have c35b0 : ((wrap64 (x3_1 + x4_2)) == (l0.length : Int)) = false := beq_eq_false_iff_ne.mpr c35
                      have c35b1 : ((wrap64 (x3_1 + x4_2)) != (l0.length : Int)) = true := bne_iff_ne.mpr c35
                      have H' := Aside0.mk H
                      clear H
                      go_wp2
                      go_roundg k2
                      case measure => have := HK1.out; have := HK2.out; omega
                      case rel => exact ⟨(wrap64 (x3_1 + x4_2)), (by first | rfl | (simp; done) | (simp [*]; done)), H', ⟨by have := HK1.out; have := HK2.out; omega⟩, ⟨pB⟩⟩
                · rw [if_neg c23] at H
                  have c23b0 : (t346 == 255) = false := beq_eq_false_iff_ne.mpr c23
                  have c23b1 : (t346 != 255) = true := bne_iff_ne.mpr c23
                  by_cases c37 : (wrap64 (x3_1 + x4_2)) = (l0.length : Int)
                  · rw [if_pos c37] at H
                    have c37b0 : ((wrap64 (x3_1 + x4_2)) == (l0.length : Int)) = true := beq_iff_eq.mpr c37
                    have c37b1 : ((wrap64 (x3_1 + x4_2)) != (l0.length : Int)) = false := bne_eq_false_iff_eq.mpr c37
                    clear c37
                    by_cases c38 : x4_2 < 256
                    · rw [if_pos c38] at H
                      have c38b0 : decide (x4_2 < 256) = true := decide_eq_true c38
                      clear c38
                      have H' := Aside0.mk H
                      clear H
                      go_wp2
                      go_roundg k2
                      case measure => have := HK1.out; have := HK2.out; omega
                      case rel => exact ⟨(wrap64 (x3_1 + x4_2)), (by first | rfl | (simp; done) | (simp [*]; done)), H', ⟨by have := HK1.out; have := HK2.out; omega⟩, ⟨pB⟩⟩
                    · rw [if_neg c38] at H
                      have c38b0 : decide (x4_2 < 256) = false := decide_eq_false c38
                      clear c38
                      have H' := Aside0.mk H
                      clear H
                      go_wp2
                      go_roundg k2
                      case measure => have := HK1.out; have := HK2.out; omega
                      case rel => exact ⟨(wrap64 (x3_1 + x4_2)), (by first | rfl | (simp; done) | (simp [*]; done)), H', ⟨by have := HK1.out; have := HK2.out; omega⟩, ⟨pB⟩⟩
                  · rw [if_neg c37] at H
                    have c37b0 : ((wrap64 (x3_1 + x4_2)) == (l0.length : Int)) = false := beq_eq_false_iff_ne.mpr c37
                    have c37b1 : ((wrap64 (x3_1 + x4_2)) != (l0.length : Int)) = true := bne_iff_ne.mpr c37
                    have H' := Aside0.mk H
                    clear H
                    go_wp2
                    go_roundg k2
                    case measure => have := HK1.out; have := HK2.out; omega
                    case rel => exact ⟨(wrap64 (x3_1 + x4_2)), (by first | rfl | (simp; done) | (simp [*]; done)), H', ⟨by have := HK1.out; have := HK2.out; omega⟩, ⟨pB⟩⟩
        · rw [if_neg c3] at H
          exact absurd H (by simp)
      · rw [if_neg c2] at H
        have c2b0 : decide (x3_1 < (l0.length : Int)) = false := decide_eq_false c2
        clear c2
        obtain rfl := Option.some.inj H
        go_wp2
        go_ret
        exact ⟨by first | rfl | (simp [errW_none, errW_some] <;> rfl) | (simp [*, errW_none, errW_some] <;> rfl), pB⟩
end Go.Proofs.Ytibkbgaonjdpiaa.PPackstreamMatchesReference
