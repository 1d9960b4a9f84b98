/- Printed functions of a law, and their walks. -/
import Derived.Test.YtpffoecblcfndaaDoorXShortC
import Derived.Test.YtpffoecblcfndaaDoorPUnpackstreamChunksx0C
import Derived.Test.YtpffoecblcfndaaDoorPUnpackstreamChunksx3C
namespace Go.Proofs.YtpffoecblcfndaaDoor.PUnpackstreamChunks
open Go.RowKit Go.Proofs.YtpffoecblcfndaaDoorW.PrintWords Go.Proofs.YtpffoecblcfndaaDoorW.PrintLast Go.Proofs.YtpffoecblcfndaaDoorW.PrintMore
open Go.Proofs.YtpffoecblcfndaaDoor.PVaBase
attribute [local go_sem] max2_int min2_int max_two min_two max_three min_three max_four min_four   -- for this text's walks alone
set_option linter.unusedVariables false
set_option linter.unusedSimpArgs false
set_option maxHeartbeats 8000000
set_option maxRecDepth 100000
mutual
def capnpref01_Get.j0 : Nat → List Int → Int → Bool → Option (Int × Bool)
  | 0, _, _, _ => none
  | k + 1, x0, x1, x17 => if x17 = true then (some (0, false)) else (capnpref01_Get.l0 k x0 x1 0 7)
def capnpref01_Get.l0 : Nat → List Int → Int → Int → Int → Option (Int × Bool)
  | 0, _, _, _, _ => none
  | k + 1, x0, x1, x6, x7 => if x7 ≥ 0 then (if 0 ≤ (wrap64 ((wrap64 (8 * x1)) + x7)) then (if (wrap64 ((wrap64 (8 * x1)) + x7)) < (x0.length : Int) then (capnpref01_Get.l0 k x0 x1 (IntKind.u64.wrap ((IntKind.u64.wrap (x6 * 256)) + (IntKind.u64.wrap (rd x0 (wrap64 ((wrap64 (8 * x1)) + x7)))))) (wrap64 (x7 - 1))) else (none)) else (none)) else (some (x6, true))
end
def capnpref01_Get.f (k : Nat) (l0 : List Int) (a1 : Int) : Option (Int × Bool) := if a1 < 0 then (capnpref01_Get.j0 k l0 a1 true) else (capnpref01_Get.j0 k l0 a1 (decide (a1 > (wrap64 ((wrap64 ((l0.length : Int) / 8)) - 1)))))
theorem capnpref01_Get.mono_l : ∀ k, (∀ y0 y1 y2, LeO (capnpref01_Get.j0 k y0 y1 y2) (capnpref01_Get.j0 (k + 1) y0 y1 y2)) ∧ (∀ y0 y1 y2 y3, LeO (capnpref01_Get.l0 k y0 y1 y2 y3) (capnpref01_Get.l0 (k + 1) y0 y1 y2 y3))
  | 0 => ⟨fun _ _ _ r h => by simp [capnpref01_Get.j0] at h, fun _ _ _ _ r h => by simp [capnpref01_Get.l0] at h⟩
  | k + 1 => by
    obtain ⟨ih0, ih1⟩ := capnpref01_Get.mono_l k
    refine ⟨?_, ?_⟩
    · intro y0 y1 y2
      unfold capnpref01_Get.j0
      repeat' first
      | (with_reducible exact ih0 _ _ _)
      | (with_reducible exact ih1 _ _ _ _)
      | (with_reducible exact LeO.refl _)
      | (with_reducible exact LeO.none _)
      | (with_reducible refine LeO.ite ?_ ?_)
      | (with_reducible refine LeO.bind ?_ (fun _ => ?_))
      | exact ih0 _ _ _
      | exact ih1 _ _ _ _
      | exact LeO.none _
      | refine LeO.ite ?_ ?_
      | refine LeO.bind ?_ (fun _ => ?_)
    · intro y0 y1 y2 y3
      unfold capnpref01_Get.l0
      repeat' first
      | (with_reducible exact ih0 _ _ _)
      | (with_reducible exact ih1 _ _ _ _)
      | (with_reducible exact LeO.refl _)
      | (with_reducible exact LeO.none _)
      | (with_reducible refine LeO.ite ?_ ?_)
      | (with_reducible refine LeO.bind ?_ (fun _ => ?_))
      | exact ih0 _ _ _
      | exact ih1 _ _ _ _
      | exact LeO.none _
      | refine LeO.ite ?_ ?_
      | refine LeO.bind ?_ (fun _ => ?_)
theorem capnpref01_Get.mono : ∀ a0 a1 k, LeO (capnpref01_Get.f k a0 a1) (capnpref01_Get.f (k + 1) a0 a1) := by
  intro a0 a1 k
  obtain ⟨ih0, ih1⟩ := capnpref01_Get.mono_l k
  unfold capnpref01_Get.f
  repeat' first
      | (with_reducible exact ih0 _ _ _)
      | (with_reducible exact ih1 _ _ _ _)
      | (with_reducible exact LeO.refl _)
      | (with_reducible exact LeO.none _)
      | (with_reducible refine LeO.ite ?_ ?_)
      | (with_reducible refine LeO.bind ?_ (fun _ => ?_))
      | exact ih0 _ _ _
      | exact ih1 _ _ _ _
      | exact LeO.none _
      | refine LeO.ite ?_ ?_
      | refine LeO.bind ?_ (fun _ => ?_)
theorem capnpref01_Get.calls (k : Nat) (A0 : Option Addr) (c0 : Nat) (l0 : List Int) (a1 : Int) (r1 : Int) (r2 : Bool) (w : World) (hr0 : Kd.C (Kd.int .u8) w A0 l0.length l0) (hc0 : l0.length ≤ c0) (h : capnpref01_Get.f k l0 a1 = some (r1, r2)) :
    Calls Tryd.prog 30 #[.slice A0 l0.length c0, .int .i64 a1] w fun e w' => e = .returned (.tuple #[.int .u64 r1, .bool r2]) ∧ Drawn0 w w' := by
  have HR0 := Aside0.mk hr0
  have HC0 := Aside0.mk hc0
  clear hr0 hc0
  have H : (if a1 < 0 then (capnpref01_Get.j0 k l0 a1 true) else (capnpref01_Get.j0 k l0 a1 (decide (a1 > (wrap64 ((wrap64 ((l0.length : Int) / 8)) - 1)))))) = some (r1, r2) := h
  clear h
  have HC3 := Aside0.mk H
  clear H
  go_enter Tryd.func30, Tryd.ntmps30
  go_upto_region 1 with (fail)
  go_cut [17] (fun v17 wc => ∃ (kq : Nat) (x17_2 : Bool), v17 = .bool x17_2 ∧ Aside0 (capnpref01_Get.j0 kq l0 a1 x17_2 = some (r1, r2)) ∧ Aside0 (kq ≤ k) ∧ Drawn0 w wc)
  case first =>
    have H := HC3.out
    clear HC3
    by_cases c4 : a1 < 0
    · rw [if_pos c4] at H
      have c4b0 : decide (a1 < 0) = true := decide_eq_true c4
      clear c4
      (first | rw [c4b0] | (simp only [i64_w, i32_w]; rw [c4b0]) | skip)
      have H' := Aside0.mk H
      clear H
      go_wp2
      go_meet
      case rel => exact ⟨_, (true), (by first | rfl | (simp; done) | (simp [*]; done)), H', ⟨by first | omega | exact Nat.le_refl _⟩, by repeat (first | exact Drawn0.refl _ | apply Drawn0.step)⟩
    · rw [if_neg c4] at H
      have c4b0 : decide (a1 < 0) = false := decide_eq_false c4
      clear c4
      (first | rw [c4b0] | (simp only [i64_w, i32_w]; rw [c4b0]) | skip)
      have H' := Aside0.mk H
      clear H
      go_wp2
      go_meet
      case rel => exact ⟨_, (decide (a1 > (wrap64 ((wrap64 ((l0.length : Int) / 8)) - 1)))), (by first | rfl | (simp; done) | (simp [*]; done)), H', ⟨by first | omega | exact Nat.le_refl _⟩, by repeat (first | exact Drawn0.refl _ | apply Drawn0.step)⟩
  case rest =>
    clear HC3
    try clear p2
    try clear c3
    try clear c4
    try clear c4b0
    obtain ⟨kq, x17_2, rfl, HA, HJ2, ⟨mc2, rfl⟩⟩ := hcut
    cases kq with
    | zero => exact absurd HA.out (by simp [capnpref01_Get.j0])
    | succ kj2 =>
      have H := HA.out
      clear HA
      simp only [capnpref01_Get.j0] at H
      by_cases c5 : x17_2 = true
      · subst c5
        have H1 : (some (0, false)) = some (r1, r2) := by rw [if_pos rfl] at H; exact H
        clear H
        have H := H1
        clear H1
        simp only [Option.some.injEq, Prod.mk.injEq] at H
        obtain ⟨rfl, rfl⟩ := H
        go_wp2
        go_ret2
        exact ⟨by first | rfl | (simp; done) | (simp [*]; done), by repeat (first | exact Drawn0.refl _ | apply Drawn0.step)⟩
      · replace c5 := Bool.eq_false_iff.mpr c5
        subst c5
        have H1 : (capnpref01_Get.l0 kj2 l0 a1 0 7) = some (r1, r2) := by rw [if_neg (show ¬ (false = true) by decide)] at H; exact H
        clear H
        have H := H1
        clear H1
        have H' := Aside0.mk H
        clear H
        go_wp2
        go_loopg [6, 7] kj2 (fun kq v6 v7 w' => ∃ (x6_2 : Int) (x7_2 : Int), v6 = .int .u64 x6_2 ∧ v7 = .int .i64 x7_2 ∧ Aside0 (capnpref01_Get.l0 kq l0 a1 x6_2 x7_2 = some (r1, r2)) ∧ Aside0 (kq ≤ kj2) ∧ Drawn0 w w')
        case atStart => exact ⟨(0), (7), (by first | rfl | (simp; done) | (simp [*]; done)), (by first | rfl | (simp; done) | (simp [*]; done)), H', ⟨Nat.le_refl _⟩, by repeat (first | exact Drawn0.refl _ | apply Drawn0.step)⟩
        case round =>
          clear H'
          try clear c2
          try clear p2
          try clear c3
          try clear c4
          try clear c4b0
          try clear c5
          try clear p2
          obtain ⟨x6_2, x7_2, rfl, rfl, HA, HK2, ⟨m2, rfl⟩⟩ := hrel
          cases gk with
          | zero => exact absurd HA.out (by simp [capnpref01_Get.l0])
          | succ k2 =>
            have H := HA.out
            clear HA
            simp only [capnpref01_Get.l0] at H
            by_cases c6 : x7_2 ≥ 0
            · rw [if_pos c6] at H
              have c6b0 : decide (0 ≤ x7_2) = true := decide_eq_true c6
              clear c6
              obtain ⟨ji7, hji7⟩ : ∃ j_ : Int, (wrap64 ((wrap64 (8 * a1)) + x7_2)) = j_ := ⟨_, rfl⟩
              replace H : (if 0 ≤ (ji7) then (if (ji7) < (l0.length : Int) then (capnpref01_Get.l0 k2 l0 a1 (IntKind.u64.wrap ((IntKind.u64.wrap (x6_2 * 256)) + (IntKind.u64.wrap (rd l0 (ji7))))) (wrap64 (x7_2 - 1))) else (none)) else (none)) = some (r1, r2) := by first | (rw [hji7] at H; exact H) | (simp only [hji7] at H ⊢; exact H)
              have hji7w : (IntKind.i64.wrap ((wrap64 (8 * a1)) + x7_2)) = ji7 := (i64_w _).trans hji7
              by_cases c8 : 0 ≤ (ji7)
              · rw [if_pos c8] at H
                have c8b0 : decide (0 ≤ (ji7)) = true := decide_eq_true c8
                clear c8
                by_cases c9 : (ji7) < (l0.length : Int)
                · rw [if_pos c9] at H
                  have c9b0 : decide ((ji7) < (l0.length : Int)) = true := decide_eq_true c9
                  clear c9
                  have H' := Aside0.mk H
                  clear H
                  have p209 : 0 ≤ ((ji7) : Int) := of_decide_eq_true pA
                  have q209 : (ji7) < (l0.length : Int) := of_decide_eq_true pA
                  obtain ⟨ad209, e209, hx209_0⟩ := Kd.at_int HR0.out (ji7) p209 q209
                  cases e209
                  replace p209 := eq_true p209
                  replace q209 := eq_true q209
                  go_wp2
                  (first | go_roundg k2 | ((try subst hji7); go_roundg k2))
                  case measure => have := HJ2.out; have := HK2.out; omega
                  case rel => exact ⟨(IntKind.u64.wrap ((IntKind.u64.wrap (x6_2 * 256)) + (IntKind.u64.wrap (rd l0 (ji7))))), (wrap64 (x7_2 - 1)), (by first | rfl | (simp; done) | (simp only [← hji7] <;> (first | rfl | simp)) | (simp [*]; done)), (by first | rfl | (simp; done) | (simp [*]; done)), H', ⟨by have := HJ2.out; have := HK2.out; omega⟩, by repeat (first | exact Drawn0.refl _ | apply Drawn0.step)⟩
                · rw [if_neg c9] at H
                  exact absurd H (by simp)
              · rw [if_neg c8] at H
                exact absurd H (by simp)
            · rw [if_neg c6] at H
              have c6b0 : decide (0 ≤ x7_2) = false := decide_eq_false c6
              clear c6
              simp only [Option.some.injEq, Prod.mk.injEq] at H
              obtain ⟨rfl, rfl⟩ := H
              go_wp2
              go_ret2
              exact ⟨by first | rfl | (simp; done) | (simp [*]; done), by repeat (first | exact Drawn0.refl _ | apply Drawn0.step)⟩
def capnpref20_Expand.l0 : Nat → List Int → Int → List Int → Int → Int → Int → Option (Int × Int × Bool)
  | 0, _, _, _, _, _, _ => none
  | k + 1, x1, x7, x8, x9, x10, x11 => if x11 < 8 then (if (Int.tmod x9 2) = 1 then (if 0 ≤ x10 then (if x10 < (x1.length : Int) then (if x8.length < 140737488355328 then (capnpref20_Expand.l0 k x1 x7 (x8 ++ [rd x1 x10]) (wrap64 (Int.tdiv x9 2)) (wrap64 (x10 + 1)) (wrap64 (x11 + 1))) else (none)) else (none)) else (none)) else (if x8.length < 140737488355328 then (capnpref20_Expand.l0 k x1 x7 (x8 ++ [0]) (wrap64 (Int.tdiv x9 2)) x10 (wrap64 (x11 + 1))) else (none))) else ((capnpref01_Get.f k x8 0).bind fun bt218 => (some (bt218.1, x7, true)))
def capnpref20_Expand.f (k : Nat) (a0 : Int) (l1 : List Int) : Option (Int × Int × Bool) := (capnpref20_Ones.f k a0).bind fun t210 => (if t210 > (l1.length : Int) then (some (0, 0, false)) else (capnpref20_Expand.l0 k l1 t210 ([] : List Int) (wrap64 (a0)) 0 0))
theorem capnpref20_Expand.mono_l : ∀ k, (∀ y0 y1 y2 y3 y4 y5, LeO (capnpref20_Expand.l0 k y0 y1 y2 y3 y4 y5) (capnpref20_Expand.l0 (k + 1) y0 y1 y2 y3 y4 y5))
  | 0 => fun _ _ _ _ _ _ r h => by simp [capnpref20_Expand.l0] at h
  | k + 1 => by
    have ih0 := capnpref20_Expand.mono_l k
    · intro y0 y1 y2 y3 y4 y5
      unfold capnpref20_Expand.l0
      repeat' first
      | (with_reducible exact ih0 _ _ _ _ _ _)
      | (with_reducible exact capnpref01_Get.mono _ _ _)
      | (with_reducible exact capnpref20_Ones.mono _ _)
      | (with_reducible exact LeO.refl _)
      | (with_reducible exact LeO.none _)
      | (with_reducible refine LeO.ite ?_ ?_)
      | (with_reducible refine LeO.bind ?_ (fun _ => ?_))
      | exact ih0 _ _ _ _ _ _
      | exact capnpref01_Get.mono _ _ _
      | exact capnpref20_Ones.mono _ _
      | exact LeO.none _
      | refine LeO.ite ?_ ?_
      | refine LeO.bind ?_ (fun _ => ?_)
theorem capnpref20_Expand.mono : ∀ a0 a1 k, LeO (capnpref20_Expand.f k a0 a1) (capnpref20_Expand.f (k + 1) a0 a1) := by
  intro a0 a1 k
  have ih0 := capnpref20_Expand.mono_l k
  unfold capnpref20_Expand.f
  repeat' first
      | (with_reducible exact ih0 _ _ _ _ _ _)
      | (with_reducible exact capnpref01_Get.mono _ _ _)
      | (with_reducible exact capnpref20_Ones.mono _ _)
      | (with_reducible exact LeO.refl _)
      | (with_reducible exact LeO.none _)
      | (with_reducible refine LeO.ite ?_ ?_)
      | (with_reducible refine LeO.bind ?_ (fun _ => ?_))
      | exact ih0 _ _ _ _ _ _
      | exact capnpref01_Get.mono _ _ _
      | exact capnpref20_Ones.mono _ _
      | exact LeO.none _
      | refine LeO.ite ?_ ?_
      | refine LeO.bind ?_ (fun _ => ?_)
theorem capnpref20_Expand.calls (k : Nat) (a0 : Int) (A1 : Option Addr) (c1 : Nat) (l1 : List Int) (r1 : Int) (r2 : Int) (r3 : Bool) (w : World) (hr1 : Kd.C (Kd.int .u8) w A1 l1.length l1) (hc1 : l1.length ≤ c1) (h : capnpref20_Expand.f k a0 l1 = some (r1, r2, r3)) :
    Calls Tryd.prog 28 #[.int .u8 a0, .slice A1 l1.length c1] w fun e w' => e = .returned (.tuple #[.int .u64 r1, .int .i64 r2, .bool r3]) ∧ Below w.heap.size w w' := by
  have HR1 := Aside0.mk hr1
  have HC1 := Aside0.mk hc1
  clear hr1 hc1
  have HB := Aside0.mk (Below.refl w.heap.size w)
  have H : ((capnpref20_Ones.f k a0).bind fun t210 => (if t210 > (l1.length : Int) then (some (0, 0, false)) else (capnpref20_Expand.l0 k l1 t210 ([] : List Int) (wrap64 (a0)) 0 0))) = some (r1, r2, r3) := h
  clear h
  replace H := Option.bind_eq_some_iff.mp H
  obtain ⟨t210, A30, H⟩ := H
  replace H : (if t210 > (l1.length : Int) then (some (0, 0, false)) else (capnpref20_Expand.l0 k l1 t210 ([] : List Int) (wrap64 (a0)) 0 0)) = some (r1, r2, r3) := H
  have A3 := Aside0.mk A30
  clear A30
  by_cases c4 : t210 > (l1.length : Int)
  · rw [if_pos c4] at H
    have c4b0 : decide ((l1.length : Int) < t210) = true := decide_eq_true c4
    clear c4
    simp only [Option.some.injEq, Prod.mk.injEq] at H
    obtain ⟨rfl, rfl, rfl⟩ := H
    go_enter Tryd.func28, Tryd.ntmps28
    go_wp2_with (first | ((with_reducible refine gate_callee (f := 23) rfl ?_); refine goesL_ (some 16) rfl rfl Tryd.func23 (by kernel_rfl) rfl #[.int .u8 a0] rfl pM ?_; (with_reducible refine (capnpref20_Ones.calls k a0 t210 _ A3.out).mono ?_); rintro e w' ⟨rfl, ⟨nd, rfl⟩⟩; refine ⟨_, rfl, ?_⟩))
    go_ret3
    exact ⟨by first | rfl | (simp [errW_none, errW_some] <;> rfl) | (simp [*, errW_none, errW_some] <;> rfl), pB⟩
  · rw [if_neg c4] at H
    have c4b0 : decide ((l1.length : Int) < t210) = false := decide_eq_false c4
    clear c4
    have H' := Aside0.mk H
    clear H
    go_enter Tryd.func28, Tryd.ntmps28
    go_wp2_with (first | ((with_reducible refine gate_callee (f := 23) rfl ?_); refine goesL_ (some 16) rfl rfl Tryd.func23 (by kernel_rfl) rfl #[.int .u8 a0] rfl pM ?_; (with_reducible refine (capnpref20_Ones.calls k a0 t210 _ A3.out).mono ?_); rintro e w' ⟨rfl, ⟨nd, rfl⟩⟩; refine ⟨_, rfl, ?_⟩))
    go_loopg [8, 9, 10, 11] k (fun kq v8 v9 v10 v11 w' => ∃ (x8_1 : List Int) (x9_1 : Int) (x10_1 : Int) (x11_1 : Int), v9 = .int .i64 x9_1 ∧ v10 = .int .i64 x10_1 ∧ v11 = .int .i64 x11_1 ∧ Aside0 (capnpref20_Expand.l0 kq l1 t210 x8_1 x9_1 x10_1 x11_1 = some (r1, r2, r3)) ∧ Aside0 (kq ≤ k) ∧ Aside0 (Kd.R (Kd.int .u8) 5 w' w.heap.size (fun _ => True) v8 x8_1) ∧ Aside0 (Below w.heap.size w w'))
    case atStart => exact ⟨(([] : List Int)), (wrap64 (a0)), (0), (0), (by first | rfl | (simp; done) | (simp [*]; done)), (by first | rfl | (simp; done) | (simp [*]; done)), (by first | rfl | (simp; done) | (simp [*]; done)), H', ⟨Nat.le_refl _⟩, ⟨by first | exact Kd.R_nil _ _ _ _ _ | exact Kd.N_nil _ _ _ _ _ | exact Kd.V_nil _ _ _ _ _ | exact Kd.Q_nil _ _ _ _ _ | exact Kd.S_nil _ _ _ _ _⟩, ⟨pB⟩⟩
    case round =>
      clear H'
      try clear c1
      try clear c2
      try clear p2
      try clear c4
      try clear c4b0
      obtain ⟨x8_1, x9_1, x10_1, x11_1, rfl, rfl, rfl, HA, HK1, HO_8, HB⟩ := hrel
      cases gk with
      | zero => exact absurd HA.out (by simp [capnpref20_Expand.l0])
      | succ k1 =>
        have H := HA.out
        clear HA
        simp only [capnpref20_Expand.l0] at H
        by_cases c5 : x11_1 < 8
        · rw [if_pos c5] at H
          have c5b0 : decide (x11_1 < 8) = true := decide_eq_true c5
          clear c5
          by_cases c6 : (Int.tmod x9_1 2) = 1
          · rw [if_pos c6] at H
            have c6b0 : ((Int.tmod x9_1 2) == 1) = true := beq_iff_eq.mpr c6
            have c6b1 : ((Int.tmod x9_1 2) != 1) = false := bne_eq_false_iff_eq.mpr c6
            clear c6
            by_cases c7 : 0 ≤ x10_1
            · rw [if_pos c7] at H
              have c7b0 : decide (0 ≤ x10_1) = true := decide_eq_true c7
              clear c7
              by_cases c8 : x10_1 < (l1.length : Int)
              · rw [if_pos c8] at H
                have c8b0 : decide (x10_1 < (l1.length : Int)) = true := decide_eq_true c8
                clear c8
                by_cases c9 : x8_1.length < 140737488355328
                · rw [if_pos c9] at H
                  have LMc9 := Aside0.mk c9
                  clear c9
                  obtain ⟨y212, hy212⟩ : ∃ y_ : List Int, y_ = (x8_1 ++ [rd l1 x10_1]) := ⟨_, rfl⟩
                  replace H : (capnpref20_Expand.l0 k1 l1 t210 y212 (wrap64 (Int.tdiv x9_1 2)) (wrap64 (x10_1 + 1)) (wrap64 (x11_1 + 1))) = some (r1, r2, r3) := by first | (rw [hy212]; with_reducible exact H) | (have H2_ := (Option.bind_some _ _).symm.trans H; rw [hy212]; with_reducible exact H2_) | (have H2_ := (Option.bind_some _ _).symm.trans H; with_reducible exact H2_) | with_reducible exact H | (rw [hy212]; exact H) | exact H
                  have Ny212 := Aside0.mk hy212
                  clear hy212
                  have H' := Aside0.mk H
                  clear H
                  have p211 : 0 ≤ (x10_1 : Int) := of_decide_eq_true pA
                  have q211 : x10_1 < (l1.length : Int) := of_decide_eq_true pA
                  obtain ⟨ad211, e211, hx211_0⟩ := Kd.at_int HR1.out x10_1 p211 q211
                  cases e211
                  replace hx211_0 := (HB.out.cell (World.block_lt_of_cell? w _ hx211_0)).trans hx211_0
                  replace p211 := eq_true p211
                  replace q211 := eq_true q211
                  go_wp2_with (first | ((with_reducible refine gate_builtin (b := .append) (xs := #[.tmp 36, .tmp 38]) rfl ?_); at_builtin; refine Kd.R_append (Kd.int .u8) (w0 := w) w.heap.size rfl (.tmp 36) (.tmp 38) 22 5 (.int .u8 0) 1 rfl Tryd.underlying22 info5 rfl (by decide) (by omega) u8 x8_1 (rd l1 x10_1) [.int .u8 (rd l1 x10_1)] (fun _ => True) (fun _ => False) rfl rfl ?aP (fun _ hk => hk.elim) ?aF ?aO ?aB ?aS ?aL ?_; (case aP => exact rfl); (case aB => exact pB); (case aF => exact (fun _ _ => trivial)); (case aO => exact (pR HO_8)); (case aS => exact (below_size pB)); (case aL => have := LMc9.out; omega); intro v213 w10 ho hb hg hat; rw [← Ny212.out] at ho; have n0_ := Aside0.mk (hb); have n1_ := Aside0.mk (ho); clear HB; clear HO_8; have HB := n0_; have HO214 := n1_; clear n0_ n1_; clear ho hb hg hat))
                  go_roundg k1
                  case measure => have := HK1.out; omega
                  case rel => exact ⟨(y212), (wrap64 (Int.tdiv x9_1 2)), (wrap64 (x10_1 + 1)), (wrap64 (x11_1 + 1)), (by first | rfl | (simp; done) | (simp [*]; done)), (by first | rfl | (simp; done) | (simp [*]; done)), (by first | rfl | (simp; done) | (simp [*]; done)), H', ⟨by have := HK1.out; omega⟩, ⟨pR HO214⟩, ⟨pB⟩⟩
                · rw [if_neg c9] at H
                  exact absurd H (by simp)
              · rw [if_neg c8] at H
                exact absurd H (by simp)
            · rw [if_neg c7] at H
              exact absurd H (by simp)
          · rw [if_neg c6] at H
            have c6b0 : ((Int.tmod x9_1 2) == 1) = false := beq_eq_false_iff_ne.mpr c6
            have c6b1 : ((Int.tmod x9_1 2) != 1) = true := bne_iff_ne.mpr c6
            by_cases c11 : x8_1.length < 140737488355328
            · rw [if_pos c11] at H
              have LMc11 := Aside0.mk c11
              clear c11
              obtain ⟨y215, hy215⟩ : ∃ y_ : List Int, y_ = (x8_1 ++ [0]) := ⟨_, rfl⟩
              replace H : (capnpref20_Expand.l0 k1 l1 t210 y215 (wrap64 (Int.tdiv x9_1 2)) x10_1 (wrap64 (x11_1 + 1))) = some (r1, r2, r3) := by first | (rw [hy215]; with_reducible exact H) | (have H2_ := (Option.bind_some _ _).symm.trans H; rw [hy215]; with_reducible exact H2_) | (have H2_ := (Option.bind_some _ _).symm.trans H; with_reducible exact H2_) | with_reducible exact H | (rw [hy215]; exact H) | exact H
              have Ny215 := Aside0.mk hy215
              clear hy215
              have H' := Aside0.mk H
              clear H
              go_wp2_with (first | ((with_reducible refine gate_builtin (b := .append) (xs := #[.tmp 36, .tmp 38]) rfl ?_); at_builtin; refine Kd.R_append (Kd.int .u8) (w0 := w) w.heap.size rfl (.tmp 36) (.tmp 38) 22 5 (.int .u8 0) 1 rfl Tryd.underlying22 info5 rfl (by decide) (by omega) u8 x8_1 0 [.int .u8 0] (fun _ => True) (fun _ => False) rfl rfl ?aP (fun _ hk => hk.elim) ?aF ?aO ?aB ?aS ?aL ?_; (case aP => exact rfl); (case aB => exact pB); (case aF => exact (fun _ _ => trivial)); (case aO => exact (pR HO_8)); (case aS => exact (below_size pB)); (case aL => have := LMc11.out; omega); intro v216 w12 ho hb hg hat; rw [← Ny215.out] at ho; have n0_ := Aside0.mk (hb); have n1_ := Aside0.mk (ho); clear HB; clear HO_8; have HB := n0_; have HO217 := n1_; clear n0_ n1_; clear ho hb hg hat))
              go_roundg k1
              case measure => have := HK1.out; omega
              case rel => exact ⟨(y215), (wrap64 (Int.tdiv x9_1 2)), (x10_1), (wrap64 (x11_1 + 1)), (by first | rfl | (simp; done) | (simp [*]; done)), (by first | rfl | (simp; done) | (simp [*]; done)), (by first | rfl | (simp; done) | (simp [*]; done)), H', ⟨by have := HK1.out; omega⟩, ⟨pR HO217⟩, ⟨pB⟩⟩
            · rw [if_neg c11] at H
              exact absurd H (by simp)
        · rw [if_neg c5] at H
          have c5b0 : decide (x11_1 < 8) = false := decide_eq_false c5
          clear c5
          replace H := Option.bind_eq_some_iff.mp H
          obtain ⟨⟨t218, t219⟩, A130, H⟩ := H
          replace H : (some (t218, t210, true)) = some (r1, r2, r3) := H
          have A13 := Aside0.mk A130
          clear A130
          simp only [Option.some.injEq, Prod.mk.injEq] at H
          obtain ⟨rfl, rfl, rfl⟩ := H
          obtain ⟨Ao14, co14, eo14⟩ := Kd.R_slice HO_8.out
          subst eo14
          go_wp2_with (first | ((with_reducible refine gate_callee (f := 30) rfl ?_); refine goesL_ (some 44) rfl rfl Tryd.func30 (by kernel_rfl) rfl #[.slice Ao14 x8_1.length co14, .int .i64 0] rfl pM ?_; (with_reducible refine (capnpref01_Get.calls k1 _ _ x8_1 0 t218 t219 _ ?side1 ?side2 A13.out).mono ?_); (case side1 => repeat (first | exact (Kd.R_reads' HO_8.out).2.2 | (with_reducible refine Kd.C_alloc ?_ _) | (with_reducible refine Kd.C_drewN ?_ _) | (with_reducible refine Kd.C_drew ?_))); (case side2 => exact (Kd.R_reads' HO_8.out).2.1); rintro e w' ⟨rfl, ⟨nd, rfl⟩⟩; refine ⟨_, rfl, ?_⟩))
          go_ret3
          exact ⟨by first | rfl | (simp [errW_none, errW_some] <;> rfl) | (simp [*, errW_none, errW_some] <;> rfl), pB⟩
end Go.Proofs.YtpffoecblcfndaaDoor.PUnpackstreamChunks
