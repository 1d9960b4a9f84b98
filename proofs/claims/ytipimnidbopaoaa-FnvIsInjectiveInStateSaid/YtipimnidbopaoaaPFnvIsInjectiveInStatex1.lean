/- Written by myprint.py, a program of this session: printed functions of a law, and the proofs that the Go code comes to them. -/
import Derived.Test.YtipimnidbopaoaaPFnvIsInjectiveInStatex0
namespace Go.Proofs.Ytipimnidbopaoaa.PFnvIsInjectiveInState
open Go.RowKit Go.Proofs.YtipimnidbopaoaaW.PrintWords Go.Proofs.YtipimnidbopaoaaW.PrintLast Go.Proofs.YtipimnidbopaoaaW.PrintMore
attribute [local go_sem] max2_int min2_int max_two min_two max_three min_three max_four min_four   -- for this text's walks alone
set_option linter.unusedVariables false
set_option linter.unusedSimpArgs false

/-! ### fnv_step: function 36 -/
def fnv_step.l0 : Nat → Int → List Int → Int → Int → Option (Int)
  | 0, _, _, _, _ => none
  | k + 1, x0, x7, x8, x9 => if x9 < x8 then (if 0 ≤ x9 then (if x9 < (x7.length : Int) then (fnv_step.l0 k (IntKind.u64.wrap ((Go.bits .xor .u64 x0 (IntKind.u64.wrap (rd x7 x9))) * 1099511628211)) x7 x8 (wrap64 (x9 + 1))) else (none)) else (none)) else (some x0)
def fnv_step.f (k : Nat) (a0 : Int) (l1 : List Int) : Option (Int) := fnv_step.l0 k a0 l1 (l1.length : Int) 0
theorem fnv_step.mono_l : ∀ k, (∀ y0 y1 y2 y3, LeO (fnv_step.l0 k y0 y1 y2 y3) (fnv_step.l0 (k + 1) y0 y1 y2 y3))
  | 0 => fun _ _ _ _ r h => by simp [fnv_step.l0] at h
  | k + 1 => by
    have ih0 := fnv_step.mono_l k
    · intro y0 y1 y2 y3
      unfold fnv_step.l0
      repeat' first
      | (with_reducible exact ih0 _ _ _ _)
      | (with_reducible exact LeO.refl _)
      | (with_reducible exact LeO.none _)
      | (with_reducible refine LeO.ite ?_ ?_)
      | (with_reducible refine LeO.bind ?_ (fun _ => ?_))
      | exact ih0 _ _ _ _
      | exact LeO.none _
      | refine LeO.ite ?_ ?_
      | refine LeO.bind ?_ (fun _ => ?_)
theorem fnv_step.mono : ∀ a0 a1 k, LeO (fnv_step.f k a0 a1) (fnv_step.f (k + 1) a0 a1) := by
  intro a0 a1 k
  have ih0 := fnv_step.mono_l k
  unfold fnv_step.f
  repeat' first
      | (with_reducible exact ih0 _ _ _ _)
      | (with_reducible exact LeO.refl _)
      | (with_reducible exact LeO.none _)
      | (with_reducible refine LeO.ite ?_ ?_)
      | (with_reducible refine LeO.bind ?_ (fun _ => ?_))
      | exact ih0 _ _ _ _
      | exact LeO.none _
      | refine LeO.ite ?_ ?_
      | refine LeO.bind ?_ (fun _ => ?_)
set_option maxHeartbeats 8000000 in
set_option maxRecDepth 100000 in
theorem fnv_step.calls (k : Nat) (a0 : Int) (A1 : Option Addr) (c1 : Nat) (l1 : List Int) (r : Int) (w : World) (hr1 : Kd.C (Kd.int .u8) w A1 l1.length l1) (hc1 : l1.length ≤ c1) (h : fnv_step.f k a0 l1 = some r) :
    Calls Try.prog 36 #[.int .u64 a0, .slice A1 l1.length c1] w fun e w' => e = .returned (.int .u64 r) ∧ Drawn0 w w' := by
  have HR1 := Aside0.mk hr1
  have HC1 := Aside0.mk hc1
  clear hr1 hc1
  have H : (fnv_step.l0 k a0 l1 (l1.length : Int) 0) = some r := h
  clear h
  have H' := Aside0.mk H
  clear H
  go_enter Try.func36, Try.ntmps36
  go_wp2
  go_loopg [0, 9] k (fun kq v0 v9 w' => ∃ (x0_1 : Int) (x9_1 : Int), v0 = .int .u64 x0_1 ∧ v9 = .int .i64 x9_1 ∧ Aside0 (fnv_step.l0 kq x0_1 l1 (l1.length : Int) x9_1 = some r) ∧ Aside0 (kq ≤ k) ∧ Drawn0 w w')
  case atStart => exact ⟨(a0), (0), (by first | rfl | (simp; done) | (simp [*]; done)), (by first | rfl | (simp; done) | (simp [*]; done)), H', ⟨Nat.le_refl _⟩, by repeat (first | exact Drawn0.refl _ | apply Drawn0.step)⟩
  case round =>
    clear H'
    try clear c1
    try clear p2
    obtain ⟨x0_1, x9_1, rfl, rfl, HA, HK1, ⟨m1, rfl⟩⟩ := hrel
    cases gk with
    | zero => exact absurd HA.out (by simp [fnv_step.l0])
    | succ k1 =>
      have H := HA.out
      clear HA
      simp only [fnv_step.l0] at H
      by_cases c3 : x9_1 < (l1.length : Int)
      · rw [if_pos c3] at H
        have c3b0 : decide (x9_1 < (l1.length : Int)) = true := decide_eq_true c3
        clear c3
        by_cases c4 : 0 ≤ x9_1
        · rw [if_pos c4] at H
          have c4b0 : decide (0 ≤ x9_1) = true := decide_eq_true c4
          clear c4
          by_cases c5 : x9_1 < (l1.length : Int)
          · rw [if_pos c5] at H
            have c5b0 : decide (x9_1 < (l1.length : Int)) = true := decide_eq_true c5
            clear c5
            have H' := Aside0.mk H
            clear H
            have p101 : 0 ≤ (x9_1 : Int) := of_decide_eq_true (by first | (with_reducible assumption) | assumption)
            have q101 : x9_1 < (l1.length : Int) := of_decide_eq_true (by first | (with_reducible assumption) | assumption)
            obtain ⟨ad101, e101, hx101_0⟩ := Kd.at_int HR1.out x9_1 p101 q101
            cases e101
            replace p101 := eq_true p101
            replace q101 := eq_true q101
            go_wp2
            go_roundg k1
            case measure => have := HK1.out; omega
            case rel => exact ⟨(IntKind.u64.wrap ((Go.bits .xor .u64 x0_1 (IntKind.u64.wrap (rd l1 x9_1))) * 1099511628211)), (wrap64 (x9_1 + 1)), (by first | rfl | (simp; done) | (simp [*]; done)), (by first | rfl | (simp; done) | (simp [*]; done)), H', ⟨by have := HK1.out; omega⟩, by repeat (first | exact Drawn0.refl _ | apply Drawn0.step)⟩
          · rw [if_neg c5] at H
            exact absurd H (by simp)
        · rw [if_neg c4] at H
          exact absurd H (by simp)
      · rw [if_neg c3] at H
        have c3b0 : decide (x9_1 < (l1.length : Int)) = false := decide_eq_false c3
        clear c3
        obtain rfl := Option.some.inj H
        go_wp2
        go_ret
        exact ⟨by first | rfl | (simp; done) | (simp [*]; done), by repeat (first | exact Drawn0.refl _ | apply Drawn0.step)⟩

/-! ### fnv_Add: function 13 -/
def fnv_Add.f (k : Nat) (a0 : Int) (l1 : List Int) : Option (Int) := (fnv_step.f k a0 l1).bind fun t102 => (some t102)
theorem fnv_Add.mono : ∀ a0 a1 k, LeO (fnv_Add.f k a0 a1) (fnv_Add.f (k + 1) a0 a1) := by
  intro a0 a1 k
  unfold fnv_Add.f
  repeat' first
      | (with_reducible exact fnv_step.mono _ _ _)
      | (with_reducible exact LeO.refl _)
      | (with_reducible exact LeO.none _)
      | (with_reducible refine LeO.ite ?_ ?_)
      | (with_reducible refine LeO.bind ?_ (fun _ => ?_))
      | exact fnv_step.mono _ _ _
      | exact LeO.none _
      | refine LeO.ite ?_ ?_
      | refine LeO.bind ?_ (fun _ => ?_)
set_option maxHeartbeats 8000000 in
set_option maxRecDepth 100000 in
theorem fnv_Add.calls (k : Nat) (a0 : Int) (A1 : Option Addr) (c1 : Nat) (l1 : List Int) (r : Int) (w : World) (hr1 : Kd.C (Kd.int .u8) w A1 l1.length l1) (hc1 : l1.length ≤ c1) (h : fnv_Add.f k a0 l1 = some r) :
    Calls Try.prog 13 #[.int .u64 a0, .slice A1 l1.length c1] w fun e w' => e = .returned (.int .u64 r) ∧ Drawn0 w w' := by
  have HR1 := Aside0.mk hr1
  have HC1 := Aside0.mk hc1
  clear hr1 hc1
  have H : ((fnv_step.f k a0 l1).bind fun t102 => (some t102)) = some r := h
  clear h
  replace H := Option.bind_eq_some_iff.mp H
  obtain ⟨t102, A30, H⟩ := H
  replace H : (some t102) = some r := H
  have A3 := Aside0.mk A30
  clear A30
  obtain rfl := Option.some.inj H
  go_enter Try.func13, Try.ntmps13
  go_wp2_with (first | ((with_reducible refine gate_callee (f := 36) rfl ?_); refine goesL_ (some 7) rfl rfl Try.func36 (by kernel_rfl) rfl #[.int .u64 a0, .slice A1 l1.length c1] rfl (by (try simp only [List.map_toArray, List.map_cons, List.map_nil]); first | done | rfl | (simp only [List.length_drop, List.length_take]; rfl)) ?_; (with_reducible refine (fnv_step.calls k a0 _ _ l1 t102 _ ?side1 ?side2 A3.out).mono ?_); (case side1 => repeat (first | exact HR1.out | (with_reducible refine Kd.C_alloc ?_ _) | (with_reducible refine Kd.C_drewN ?_ _) | (with_reducible refine Kd.C_drew ?_))); (case side2 => exact HC1.out); rintro e w' ⟨rfl, ⟨nd, rfl⟩⟩; refine ⟨_, rfl, ?_⟩))
  go_ret
  exact ⟨by first | rfl | (simp; done) | (simp [*]; done), by repeat (first | exact Drawn0.refl _ | apply Drawn0.step)⟩

/-! ### fnv_Start: function 35 -/
def fnv_Start.f  : Option (Int) := some 14695981039346656037
set_option maxHeartbeats 8000000 in
set_option maxRecDepth 100000 in
theorem fnv_Start.calls  (r : Int) (w : World) (h : fnv_Start.f  = some r) :
    Calls Try.prog 35 #[] w fun e w' => e = .returned (.int .u64 r) ∧ Drawn0 w w' := by
  have H : (some 14695981039346656037) = some r := h
  clear h
  obtain rfl := Option.some.inj H
  go_enter Try.func35, Try.ntmps35
  go_wp2
  go_ret
  exact ⟨by first | rfl | (simp; done) | (simp [*]; done), by repeat (first | exact Drawn0.refl _ | apply Drawn0.step)⟩

/-! ### fnv_Sum: function 15 -/
def fnv_Sum.f (k : Nat) (l0 : List Int) : Option (Int) := (fnv_Start.f).bind fun t103 => ((fnv_Add.f k t103 l0).bind fun t104 => (some t104))
theorem fnv_Sum.mono : ∀ a0 k, LeO (fnv_Sum.f k a0) (fnv_Sum.f (k + 1) a0) := by
  intro a0 k
  unfold fnv_Sum.f
  repeat' first
      | (with_reducible exact fnv_Add.mono _ _ _)
      | (with_reducible exact LeO.refl _)
      | (with_reducible exact LeO.none _)
      | (with_reducible refine LeO.ite ?_ ?_)
      | (with_reducible refine LeO.bind ?_ (fun _ => ?_))
      | exact fnv_Add.mono _ _ _
      | exact LeO.none _
      | refine LeO.ite ?_ ?_
      | refine LeO.bind ?_ (fun _ => ?_)
set_option maxHeartbeats 8000000 in
set_option maxRecDepth 100000 in
theorem fnv_Sum.calls (k : Nat) (A0 : Option Addr) (c0 : Nat) (l0 : List Int) (r : Int) (w : World) (hr0 : Kd.C (Kd.int .u8) w A0 l0.length l0) (hc0 : l0.length ≤ c0) (h : fnv_Sum.f k l0 = some r) :
    Calls Try.prog 15 #[.slice A0 l0.length c0] w fun e w' => e = .returned (.int .u64 r) ∧ Drawn0 w w' := by
  have HR0 := Aside0.mk hr0
  have HC0 := Aside0.mk hc0
  clear hr0 hc0
  have H : ((fnv_Start.f).bind fun t103 => ((fnv_Add.f k t103 l0).bind fun t104 => (some t104))) = some r := h
  clear h
  replace H := Option.bind_eq_some_iff.mp H
  obtain ⟨t103, A20, H⟩ := H
  replace H : ((fnv_Add.f k t103 l0).bind fun t104 => (some t104)) = some r := H
  have A2 := Aside0.mk A20
  clear A20
  replace H := Option.bind_eq_some_iff.mp H
  obtain ⟨t104, A30, H⟩ := H
  replace H : (some t104) = some r := H
  have A3 := Aside0.mk A30
  clear A30
  obtain rfl := Option.some.inj H
  go_enter Try.func15, Try.ntmps15
  go_wp2_with (first | ((with_reducible refine gate_callee (f := 35) rfl ?_); refine goesL_ (some 3) rfl rfl Try.func35 (by kernel_rfl) rfl #[] rfl (by (try simp only [List.map_toArray, List.map_cons, List.map_nil]); first | done | rfl | (simp only [List.length_drop, List.length_take]; rfl)) ?_; (with_reducible refine (fnv_Start.calls  t103 _ A2.out).mono ?_); rintro e w' ⟨rfl, ⟨nd, rfl⟩⟩; refine ⟨_, rfl, ?_⟩) | ((with_reducible refine gate_callee (f := 13) rfl ?_); refine goesL_ (some 5) rfl rfl Try.func13 (by kernel_rfl) rfl #[.int .u64 t103, .slice A0 l0.length c0] rfl (by (try simp only [List.map_toArray, List.map_cons, List.map_nil]); first | done | rfl | (simp only [List.length_drop, List.length_take]; rfl)) ?_; (with_reducible refine (fnv_Add.calls k t103 _ _ l0 t104 _ ?side1 ?side2 A3.out).mono ?_); (case side1 => repeat (first | exact HR0.out | (with_reducible refine Kd.C_alloc ?_ _) | (with_reducible refine Kd.C_drewN ?_ _) | (with_reducible refine Kd.C_drew ?_))); (case side2 => exact HC0.out); rintro e w' ⟨rfl, ⟨nd, rfl⟩⟩; refine ⟨_, rfl, ?_⟩))
  go_ret
  exact ⟨by first | rfl | (simp; done) | (simp [*]; done), by repeat (first | exact Drawn0.refl _ | apply Drawn0.step)⟩

/-! ### word_Bytes: function 27 -/
mutual
def word_Bytes.l0 : Nat → List Int → List Int → Int → Int → Option (List Int)
  | 0, _, _, _, _ => none
  | k + 1, x3, x11, x12, x13 => if x13 < x12 then (if 0 ≤ x13 then (if x13 < (x11.length : Int) then (word_Bytes.l1 k x3 (rd x11 x13) x11 x12 x13 0) else (none)) else (none)) else (some x3)
def word_Bytes.l1 : Nat → List Int → Int → List Int → Int → Int → Int → Option (List Int)
  | 0, _, _, _, _, _, _ => none
  | k + 1, x3, x5, x11, x12, x13, x17 => if x17 < 8 then (if 0 ≤ (IntKind.u64.wrap (wrap64 (8 * x17))) then (if x3.length < 140737488355328 then (word_Bytes.l1 k (x3 ++ [(shr .u64 x5 (IntKind.u64.wrap (wrap64 (8 * x17)))) % 256]) x5 x11 x12 x13 (wrap64 (x17 + 1))) else (none)) else (none)) else (word_Bytes.l0 k x3 x11 x12 (wrap64 (x13 + 1)))
end
def word_Bytes.f (k : Nat) (l0 : List Int) : Option (List Int) := if 0 ≤ (wrap64 (8 * (l0.length : Int))) then (if (wrap64 (8 * (l0.length : Int)) : Int).toNat ≤ 281474976710656 then (word_Bytes.l0 k (([] : List Int)) l0 (l0.length : Int) 0) else (none)) else (none)
theorem word_Bytes.mono_l : ∀ k, (∀ y0 y1 y2 y3, LeO (word_Bytes.l0 k y0 y1 y2 y3) (word_Bytes.l0 (k + 1) y0 y1 y2 y3)) ∧ (∀ y0 y1 y2 y3 y4 y5, LeO (word_Bytes.l1 k y0 y1 y2 y3 y4 y5) (word_Bytes.l1 (k + 1) y0 y1 y2 y3 y4 y5))
  | 0 => ⟨fun _ _ _ _ r h => by simp [word_Bytes.l0] at h, fun _ _ _ _ _ _ r h => by simp [word_Bytes.l1] at h⟩
  | k + 1 => by
    obtain ⟨ih0, ih1⟩ := word_Bytes.mono_l k
    refine ⟨?_, ?_⟩
    · intro y0 y1 y2 y3
      unfold word_Bytes.l0
      repeat' first
      | (with_reducible exact ih0 _ _ _ _)
      | (with_reducible exact ih1 _ _ _ _ _ _)
      | (with_reducible exact LeO.refl _)
      | (with_reducible exact LeO.none _)
      | (with_reducible refine LeO.ite ?_ ?_)
      | (with_reducible refine LeO.bind ?_ (fun _ => ?_))
      | exact ih0 _ _ _ _
      | exact ih1 _ _ _ _ _ _
      | exact LeO.none _
      | refine LeO.ite ?_ ?_
      | refine LeO.bind ?_ (fun _ => ?_)
    · intro y0 y1 y2 y3 y4 y5
      unfold word_Bytes.l1
      repeat' first
      | (with_reducible exact ih0 _ _ _ _)
      | (with_reducible exact ih1 _ _ _ _ _ _)
      | (with_reducible exact LeO.refl _)
      | (with_reducible exact LeO.none _)
      | (with_reducible refine LeO.ite ?_ ?_)
      | (with_reducible refine LeO.bind ?_ (fun _ => ?_))
      | exact ih0 _ _ _ _
      | exact ih1 _ _ _ _ _ _
      | exact LeO.none _
      | refine LeO.ite ?_ ?_
      | refine LeO.bind ?_ (fun _ => ?_)
theorem word_Bytes.mono : ∀ a0 k, LeO (word_Bytes.f k a0) (word_Bytes.f (k + 1) a0) := by
  intro a0 k
  obtain ⟨ih0, ih1⟩ := word_Bytes.mono_l k
  unfold word_Bytes.f
  repeat' first
      | (with_reducible exact ih0 _ _ _ _)
      | (with_reducible exact ih1 _ _ _ _ _ _)
      | (with_reducible exact LeO.refl _)
      | (with_reducible exact LeO.none _)
      | (with_reducible refine LeO.ite ?_ ?_)
      | (with_reducible refine LeO.bind ?_ (fun _ => ?_))
      | exact ih0 _ _ _ _
      | exact ih1 _ _ _ _ _ _
      | exact LeO.none _
      | refine LeO.ite ?_ ?_
      | refine LeO.bind ?_ (fun _ => ?_)
set_option maxHeartbeats 8000000 in
set_option maxRecDepth 100000 in
theorem word_Bytes.calls (k : Nat) (A0 : Option Addr) (c0 : Nat) (l0 : List Int) (r : List Int) (w : World) (hr0 : Kd.C (Kd.int .u64) w A0 l0.length l0) (hc0 : l0.length ≤ c0) (h : word_Bytes.f k l0 = some r) :
    Calls Try.prog 27 #[.slice A0 l0.length c0] w fun e w' => ∃ v0_ : Value, e = .returned (v0_) ∧ Kd.R (Kd.int .u8) 5 w' w.heap.size (fun _ => True) v0_ r ∧ Below w.heap.size w w' := by
  have HR0 := Aside0.mk hr0
  have HC0 := Aside0.mk hc0
  clear hr0 hc0
  have HB := Aside0.mk (Below.refl w.heap.size w)
  have H : (if 0 ≤ (wrap64 (8 * (l0.length : Int))) then (if (wrap64 (8 * (l0.length : Int)) : Int).toNat ≤ 281474976710656 then (word_Bytes.l0 k (([] : List Int)) l0 (l0.length : Int) 0) else (none)) else (none)) = some r := h
  clear h
  obtain ⟨ji2, hji2⟩ : ∃ j_ : Int, (wrap64 (8 * (l0.length : Int))) = j_ := ⟨_, rfl⟩
  replace H : (if 0 ≤ (ji2) then (if (ji2 : Int).toNat ≤ 281474976710656 then (word_Bytes.l0 k (([] : List Int)) l0 (l0.length : Int) 0) else (none)) else (none)) = some r := by first | (rw [hji2] at H; exact H) | (simp only [hji2] at H ⊢; exact H)
  have hji2w : (IntKind.i64.wrap (8 * (l0.length : Int))) = ji2 := (i64_w _).trans hji2
  by_cases c3 : 0 ≤ (ji2)
  · rw [if_pos c3] at H
    have c3b0 := eq_true c3
    have c3b1 : decide (0 ≤ (ji2)) = true := decide_eq_true c3
    clear c3
    by_cases c4 : (ji2 : Int).toNat ≤ 281474976710656
    · rw [if_pos c4] at H
      have c4b0 := eq_true c4
      have c4b1 : decide ((ji2 : Int).toNat ≤ 281474976710656) = true := decide_eq_true c4
      clear c4
      obtain ⟨y105, hy105⟩ : ∃ y_ : List Int, y_ = (([] : List Int)) := ⟨_, rfl⟩
      replace H : (word_Bytes.l0 k y105 l0 (l0.length : Int) 0) = some r := by first | (rw [hy105]; with_reducible exact H) | (have H2_ := (Option.bind_some _ _).symm.trans H; rw [hy105]; with_reducible exact H2_) | (have H2_ := (Option.bind_some _ _).symm.trans H; with_reducible exact H2_) | with_reducible exact H | (rw [hy105]; exact H) | exact H
      have Ny105 := Aside0.mk hy105
      clear hy105
      have H' := Aside0.mk H
      clear H
      go_enter Try.func27, Try.ntmps27
      go_wp2_with (first | ((with_reducible refine gate_dst (N := 10) rfl ?_); refine Kd.R_makecap (Kd.int .u8) _ 5 rfl (N := 10) rfl 23 _ _ rfl ji2 rfl rfl Try.underlying23 (.int .u8 0) 1 info5 rfl (by decide) (by omega) 0 (ok := fun _ => True) (okp := fun _ => True) rfl (fun _ hk => hk) trivial (of_decide_eq_true (by first | (with_reducible assumption) | assumption)) (Nat.le_trans (Nat.mul_le_mul_right _ (of_decide_eq_true (by first | (with_reducible assumption) | assumption) : ji2.toNat ≤ 281474976710656)) (by omega)) (Below.refl _ _) (Nat.le_refl _) ?_; intro v106 w5 ho6 hb hg_ hnew_; clear hg_ hnew_; (first | rw [← Ny105.out] at ho6 | (simp only [Int.reduceToNat] at ho6; rw [← Ny105.out] at ho6)); have n0_ := Aside0.mk (Kd.R_lower ho6 (below_size (by repeat (first | (with_reducible first | exact HB.out | apply below_alloc | apply pw_below_drewN | apply below_drew1) | exact HB.out)))); have n1_ := Aside0.mk (below_step (by repeat (first | (with_reducible first | exact HB.out | apply below_alloc | apply pw_below_drewN | apply below_drew1) | exact HB.out)) hb); clear HB; have HO107 := n0_; have HB := n1_; clear n0_ n1_; clear hb ho6))
      go_loopg [3, 13] k (fun kq v3 v13 w' => ∃ (x3_1 : List Int) (x13_1 : Int), v13 = .int .i64 x13_1 ∧ Aside0 (word_Bytes.l0 kq x3_1 l0 (l0.length : Int) x13_1 = some r) ∧ Aside0 (kq ≤ k) ∧ Aside0 (Kd.R (Kd.int .u8) 5 w' w.heap.size (fun _ => True) v3 x3_1) ∧ Aside0 (Below w.heap.size w w'))
      case atStart => exact ⟨(y105), (0), (by first | rfl | (simp; done) | (simp [*]; done)), H', ⟨Nat.le_refl _⟩, ⟨by (with_reducible repeat (first | apply Kd.R_alloc | apply Kd.R_drewN | apply Kd.R_drew)); exact HO107.out⟩, ⟨by repeat (first | (with_reducible first | exact HB.out | apply below_alloc | apply pw_below_drewN | apply below_drew1) | exact HB.out)⟩⟩
      case round =>
        clear H'
        try clear c2
        try clear p2
        try clear c3
        try clear c3b0
        try clear c3b1
        try clear c4
        try clear c4b0
        try clear c4b1
        try clear p6
        obtain ⟨x3_1, x13_1, rfl, HA, HK1, HO_3, HB⟩ := hrel
        cases gk with
        | zero => exact absurd HA.out (by simp [word_Bytes.l0])
        | succ k1 =>
          have H := HA.out
          clear HA
          simp only [word_Bytes.l0] at H
          by_cases c7 : x13_1 < (l0.length : Int)
          · rw [if_pos c7] at H
            have c7b0 : decide (x13_1 < (l0.length : Int)) = true := decide_eq_true c7
            clear c7
            by_cases c8 : 0 ≤ x13_1
            · rw [if_pos c8] at H
              have c8b0 : decide (0 ≤ x13_1) = true := decide_eq_true c8
              clear c8
              by_cases c9 : x13_1 < (l0.length : Int)
              · rw [if_pos c9] at H
                have c9b0 : decide (x13_1 < (l0.length : Int)) = true := decide_eq_true c9
                clear c9
                have H' := Aside0.mk H
                clear H
                have p108 : 0 ≤ (x13_1 : Int) := of_decide_eq_true (by first | (with_reducible assumption) | assumption)
                have q108 : x13_1 < (l0.length : Int) := of_decide_eq_true (by first | (with_reducible assumption) | assumption)
                obtain ⟨ad108, e108, hx108_0⟩ := Kd.at_int HR0.out x13_1 p108 q108
                cases e108
                replace hx108_0 := (HB.out.cell (World.block_lt_of_cell? w _ hx108_0)).trans hx108_0
                replace p108 := eq_true p108
                replace q108 := eq_true q108
                go_wp2
                go_loopg [3, 17] k1 (fun kq v3 v17 w' => ∃ (x3_2 : List Int) (x17_2 : Int), v17 = .int .i64 x17_2 ∧ Aside0 (word_Bytes.l1 kq x3_2 (rd l0 x13_1) l0 (l0.length : Int) x13_1 x17_2 = some r) ∧ Aside0 (kq ≤ k1) ∧ Aside0 (Kd.R (Kd.int .u8) 5 w' w.heap.size (fun _ => True) v3 x3_2) ∧ Aside0 (Below w.heap.size w w'))
                case atStart => exact ⟨(x3_1), (0), (by first | rfl | (simp; done) | (simp [*]; done)), H', ⟨Nat.le_refl _⟩, ⟨by (with_reducible repeat (first | apply Kd.R_alloc | apply Kd.R_drewN | apply Kd.R_drew)); exact HO_3.out⟩, ⟨by repeat (first | (with_reducible first | exact HB.out | apply below_alloc | apply pw_below_drewN | apply below_drew1) | exact HB.out)⟩⟩
                case round =>
                  clear H'
                  try clear p1
                  try clear q1
                  try clear hx1
                  try clear c2
                  try clear p2
                  try clear c3
                  try clear c3b0
                  try clear c3b1
                  try clear c4
                  try clear c4b0
                  try clear c4b1
                  try clear p6
                  try clear c7
                  try clear c7b0
                  try clear c8
                  try clear c8b0
                  try clear c9
                  try clear c9b0
                  try clear hx108_0
                  try clear p108
                  try clear p2
                  try clear p6
                  try clear q108
                  obtain ⟨x3_2, x17_2, rfl, HA, HK2, HO_3, HB⟩ := hrel
                  cases gk with
                  | zero => exact absurd HA.out (by simp [word_Bytes.l1])
                  | succ k2 =>
                    have H := HA.out
                    clear HA
                    simp only [word_Bytes.l1] at H
                    by_cases c10 : x17_2 < 8
                    · rw [if_pos c10] at H
                      have c10b0 : decide (x17_2 < 8) = true := decide_eq_true c10
                      clear c10
                      obtain ⟨ji11, hji11⟩ : ∃ j_ : Int, (IntKind.u64.wrap (wrap64 (8 * x17_2))) = j_ := ⟨_, rfl⟩
                      replace H : (if 0 ≤ (ji11) then (if x3_2.length < 140737488355328 then (word_Bytes.l1 k2 (x3_2 ++ [(shr .u64 (rd l0 x13_1) (ji11)) % 256]) (rd l0 x13_1) l0 (l0.length : Int) x13_1 (wrap64 (x17_2 + 1))) else (none)) else (none)) = some r := by first | (rw [hji11] at H; exact H) | (simp only [hji11] at H ⊢; exact H)
                      by_cases c12 : 0 ≤ (ji11)
                      · rw [if_pos c12] at H
                        have c12b0 := eq_true c12
                        have c12b1 : decide (0 ≤ (ji11)) = true := decide_eq_true c12
                        clear c12
                        obtain ⟨ji13, hji13⟩ : ∃ j_ : Int, (shr .u64 (rd l0 x13_1) (ji11)) = j_ := ⟨_, rfl⟩
                        replace H : (if x3_2.length < 140737488355328 then (word_Bytes.l1 k2 (x3_2 ++ [(ji13) % 256]) (rd l0 x13_1) l0 (l0.length : Int) x13_1 (wrap64 (x17_2 + 1))) else (none)) = some r := by first | (rw [hji13] at H; exact H) | (simp only [hji13] at H ⊢; exact H)
                        have hji13_ : ((rd l0 x13_1) / 2 ^ min (ji11).toNat 64) = ji13 := hji13
                        have hji13z : (ji11) ≤ 64 → ((rd l0 x13_1) / 2 ^ (ji11).toNat) = ji13 := shr_small hji13
                        by_cases c14 : x3_2.length < 140737488355328
                        · rw [if_pos c14] at H
                          have LMc14 := Aside0.mk c14
                          clear c14
                          obtain ⟨y109, hy109⟩ : ∃ y_ : List Int, y_ = (x3_2 ++ [(ji13) % 256]) := ⟨_, rfl⟩
                          replace H : (word_Bytes.l1 k2 y109 (rd l0 x13_1) l0 (l0.length : Int) x13_1 (wrap64 (x17_2 + 1))) = some r := by first | (rw [hy109]; with_reducible exact H) | (have H2_ := (Option.bind_some _ _).symm.trans H; rw [hy109]; with_reducible exact H2_) | (have H2_ := (Option.bind_some _ _).symm.trans H; with_reducible exact H2_) | with_reducible exact H | (rw [hy109]; exact H) | exact H
                          have Ny109 := Aside0.mk hy109
                          clear hy109
                          have H' := Aside0.mk H
                          clear H
                          go_wp2_with (first | ((with_reducible refine gate_builtin (b := .append) (xs := #[.tmp 20, .tmp 27]) rfl ?_); at_builtin; refine Kd.R_append (Kd.int .u8) (w0 := w) w.heap.size rfl (.tmp 20) (.tmp 27) 23 5 (.int .u8 0) 1 rfl Try.underlying23 info5 rfl (by decide) (by omega) u3 x3_2 ((ji13) % 256) [.int .u8 ((ji13) % 256)] (fun _ => True) (fun _ => False) rfl rfl ?aP (fun _ hk => hk.elim) ?aF ?aO ?aB ?aS ?aL ?_; (case aP => exact rfl); (case aB => exact (by repeat (first | (with_reducible first | exact HB.out | apply below_alloc | apply pw_below_drewN | apply below_drew1) | exact HB.out))); (case aF => exact (fun _ _ => trivial)); (case aO => exact (by (with_reducible repeat (first | apply Kd.R_alloc | apply Kd.R_drewN | apply Kd.R_drew)); exact HO_3.out)); (case aS => exact (below_size (by repeat (first | (with_reducible first | exact HB.out | apply below_alloc | apply pw_below_drewN | apply below_drew1) | exact HB.out)))); (case aL => have := LMc14.out; omega); intro v110 w15 ho hb hg hat; rw [← Ny109.out] at ho; have n0_ := Aside0.mk (hb); have n1_ := Aside0.mk (ho); clear HB; clear HO_3; have HB := n0_; have HO111 := n1_; clear n0_ n1_; clear ho hb hg hat))
                          go_roundg k2
                          case measure => have := HK1.out; have := HK2.out; omega
                          case rel => exact ⟨(y109), (wrap64 (x17_2 + 1)), (by first | rfl | (simp; done) | (simp [*]; done)), H', ⟨by have := HK1.out; have := HK2.out; omega⟩, ⟨by (with_reducible repeat (first | apply Kd.R_alloc | apply Kd.R_drewN | apply Kd.R_drew)); exact HO111.out⟩, ⟨by repeat (first | (with_reducible first | exact HB.out | apply below_alloc | apply pw_below_drewN | apply below_drew1) | exact HB.out)⟩⟩
                        · rw [if_neg c14] at H
                          exact absurd H (by simp)
                      · rw [if_neg c12] at H
                        exact absurd H (by simp)
                    · rw [if_neg c10] at H
                      have c10b0 : decide (x17_2 < 8) = false := decide_eq_false c10
                      clear c10
                      have H' := Aside0.mk H
                      clear H
                      go_wp2
                      go_roundg k2
                      case measure => have := HK1.out; have := HK2.out; omega
                      case rel => exact ⟨(x3_2), (wrap64 (x13_1 + 1)), (by first | rfl | (simp; done) | (simp [*]; done)), H', ⟨by have := HK1.out; have := HK2.out; omega⟩, ⟨by (with_reducible repeat (first | apply Kd.R_alloc | apply Kd.R_drewN | apply Kd.R_drew)); exact HO_3.out⟩, ⟨by repeat (first | (with_reducible first | exact HB.out | apply below_alloc | apply pw_below_drewN | apply below_drew1) | exact HB.out)⟩⟩
              · rw [if_neg c9] at H
                exact absurd H (by simp)
            · rw [if_neg c8] at H
              exact absurd H (by simp)
          · rw [if_neg c7] at H
            have c7b0 : decide (x13_1 < (l0.length : Int)) = false := decide_eq_false c7
            clear c7
            obtain rfl := Option.some.inj H
            go_wp2
            go_ret
            exact ⟨_, by first | rfl | (simp [errW_none, errW_some] <;> rfl) | (simp only [← hji2]; first | rfl | (simp [errW_none, errW_some] <;> rfl)) | (simp [*, errW_none, errW_some] <;> rfl), by (with_reducible repeat (first | apply Kd.R_alloc | apply Kd.R_drewN | apply Kd.R_drew)); exact HO_3.out, by repeat (first | (with_reducible first | exact HB.out | apply below_alloc | apply pw_below_drewN | apply below_drew1) | exact HB.out)⟩
    · rw [if_neg c4] at H
      exact absurd H (by simp)
  · rw [if_neg c3] at H
    exact absurd H (by simp)

/-! ### fnv_Words: function 17 -/
def fnv_Words.l0 : Nat → Int → List Int → Int → Int → Option (Int)
  | 0, _, _, _, _ => none
  | k + 1, x3, x7, x8, x9 => if x9 < x8 then (if 0 ≤ x9 then (if x9 < (x7.length : Int) then ((word_Bytes.f k (([rd x7 x9] : List Int))).bind fun t117 => ((fnv_step.f k x3 t117).bind fun t120 => (fnv_Words.l0 k t120 x7 x8 (wrap64 (x9 + 1))))) else (none)) else (none)) else (some x3)
def fnv_Words.f (k : Nat) (l0 : List Int) : Option (Int) := (fnv_Start.f).bind fun t112 => (fnv_Words.l0 k t112 l0 (l0.length : Int) 0)
theorem fnv_Words.mono_l : ∀ k, (∀ y0 y1 y2 y3, LeO (fnv_Words.l0 k y0 y1 y2 y3) (fnv_Words.l0 (k + 1) y0 y1 y2 y3))
  | 0 => fun _ _ _ _ r h => by simp [fnv_Words.l0] at h
  | k + 1 => by
    have ih0 := fnv_Words.mono_l k
    · intro y0 y1 y2 y3
      unfold fnv_Words.l0
      repeat' first
      | (with_reducible exact ih0 _ _ _ _)
      | (with_reducible exact fnv_step.mono _ _ _)
      | (with_reducible exact word_Bytes.mono _ _)
      | (with_reducible exact LeO.refl _)
      | (with_reducible exact LeO.none _)
      | (with_reducible refine LeO.ite ?_ ?_)
      | (with_reducible refine LeO.bind ?_ (fun _ => ?_))
      | exact ih0 _ _ _ _
      | exact fnv_step.mono _ _ _
      | exact word_Bytes.mono _ _
      | exact LeO.none _
      | refine LeO.ite ?_ ?_
      | refine LeO.bind ?_ (fun _ => ?_)
theorem fnv_Words.mono : ∀ a0 k, LeO (fnv_Words.f k a0) (fnv_Words.f (k + 1) a0) := by
  intro a0 k
  have ih0 := fnv_Words.mono_l k
  unfold fnv_Words.f
  repeat' first
      | (with_reducible exact ih0 _ _ _ _)
      | (with_reducible exact fnv_step.mono _ _ _)
      | (with_reducible exact word_Bytes.mono _ _)
      | (with_reducible exact LeO.refl _)
      | (with_reducible exact LeO.none _)
      | (with_reducible refine LeO.ite ?_ ?_)
      | (with_reducible refine LeO.bind ?_ (fun _ => ?_))
      | exact ih0 _ _ _ _
      | exact fnv_step.mono _ _ _
      | exact word_Bytes.mono _ _
      | exact LeO.none _
      | refine LeO.ite ?_ ?_
      | refine LeO.bind ?_ (fun _ => ?_)
set_option maxHeartbeats 8000000 in
set_option maxRecDepth 100000 in
theorem fnv_Words.calls (k : Nat) (A0 : Option Addr) (c0 : Nat) (l0 : List Int) (r : Int) (w : World) (hr0 : Kd.C (Kd.int .u64) w A0 l0.length l0) (hc0 : l0.length ≤ c0) (h : fnv_Words.f k l0 = some r) :
    Calls Try.prog 17 #[.slice A0 l0.length c0] w fun e w' => e = .returned (.int .u64 r) ∧ Below w.heap.size w w' := by
  have HR0 := Aside0.mk hr0
  have HC0 := Aside0.mk hc0
  clear hr0 hc0
  have HB := Aside0.mk (Below.refl w.heap.size w)
  have H : ((fnv_Start.f).bind fun t112 => (fnv_Words.l0 k t112 l0 (l0.length : Int) 0)) = some r := h
  clear h
  replace H := Option.bind_eq_some_iff.mp H
  obtain ⟨t112, A20, H⟩ := H
  replace H : (fnv_Words.l0 k t112 l0 (l0.length : Int) 0) = some r := H
  have A2 := Aside0.mk A20
  clear A20
  have H' := Aside0.mk H
  clear H
  go_enter Try.func17, Try.ntmps17
  go_wp2_with (first | ((with_reducible refine gate_callee (f := 35) rfl ?_); refine goesL_ (some 6) rfl rfl Try.func35 (by kernel_rfl) rfl #[] rfl (by (try simp only [List.map_toArray, List.map_cons, List.map_nil]); first | done | rfl | (simp only [List.length_drop, List.length_take]; rfl)) ?_; (with_reducible refine (fnv_Start.calls  t112 _ A2.out).mono ?_); rintro e w' ⟨rfl, ⟨nd, rfl⟩⟩; refine ⟨_, rfl, ?_⟩))
  go_loopg [3, 9] k (fun kq v3 v9 w' => ∃ (x3_1 : Int) (x9_1 : Int), v3 = .int .u64 x3_1 ∧ v9 = .int .i64 x9_1 ∧ Aside0 (fnv_Words.l0 kq x3_1 l0 (l0.length : Int) x9_1 = some r) ∧ Aside0 (kq ≤ k) ∧ Aside0 (Below w.heap.size w w'))
  case atStart => exact ⟨(t112), (0), (by first | rfl | (simp; done) | (simp [*]; done)), (by first | rfl | (simp; done) | (simp [*]; done)), H', ⟨Nat.le_refl _⟩, ⟨by repeat (first | (with_reducible first | exact HB.out | apply below_alloc | apply pw_below_drewN | apply below_drew1) | exact HB.out)⟩⟩
  case round =>
    clear H'
    try clear c1
    try clear p2
    obtain ⟨x3_1, x9_1, rfl, rfl, HA, HK1, HB⟩ := hrel
    cases gk with
    | zero => exact absurd HA.out (by simp [fnv_Words.l0])
    | succ k1 =>
      have H := HA.out
      clear HA
      simp only [fnv_Words.l0] at H
      by_cases c3 : x9_1 < (l0.length : Int)
      · rw [if_pos c3] at H
        have c3b0 : decide (x9_1 < (l0.length : Int)) = true := decide_eq_true c3
        clear c3
        by_cases c4 : 0 ≤ x9_1
        · rw [if_pos c4] at H
          have c4b0 : decide (0 ≤ x9_1) = true := decide_eq_true c4
          clear c4
          by_cases c5 : x9_1 < (l0.length : Int)
          · rw [if_pos c5] at H
            have c5b0 : decide (x9_1 < (l0.length : Int)) = true := decide_eq_true c5
            clear c5
            obtain ⟨y114, hy114⟩ : ∃ y_ : List Int, y_ = (([rd l0 x9_1] : List Int)) := ⟨_, rfl⟩
            replace H : ((word_Bytes.f k1 y114).bind fun t117 => ((fnv_step.f k1 x3_1 t117).bind fun t120 => (fnv_Words.l0 k1 t120 l0 (l0.length : Int) (wrap64 (x9_1 + 1))))) = some r := by first | (rw [hy114]; with_reducible exact H) | (have H2_ := (Option.bind_some _ _).symm.trans H; rw [hy114]; with_reducible exact H2_) | (have H2_ := (Option.bind_some _ _).symm.trans H; with_reducible exact H2_) | with_reducible exact H | (rw [hy114]; exact H) | exact H
            have Ny114 := Aside0.mk hy114
            clear hy114
            replace H := Option.bind_eq_some_iff.mp H
            obtain ⟨t117, A60, H⟩ := H
            replace H : ((fnv_step.f k1 x3_1 t117).bind fun t120 => (fnv_Words.l0 k1 t120 l0 (l0.length : Int) (wrap64 (x9_1 + 1)))) = some r := H
            have A6 := Aside0.mk A60
            clear A60
            replace H := Option.bind_eq_some_iff.mp H
            obtain ⟨t120, A70, H⟩ := H
            replace H : (fnv_Words.l0 k1 t120 l0 (l0.length : Int) (wrap64 (x9_1 + 1))) = some r := H
            have A7 := Aside0.mk A70
            clear A70
            have H' := Aside0.mk H
            clear H
            have p113 : 0 ≤ (x9_1 : Int) := of_decide_eq_true (by first | (with_reducible assumption) | assumption)
            have q113 : x9_1 < (l0.length : Int) := of_decide_eq_true (by first | (with_reducible assumption) | assumption)
            obtain ⟨ad113, e113, hx113_0⟩ := Kd.at_int HR0.out x9_1 p113 q113
            cases e113
            replace hx113_0 := (HB.out.cell (World.block_lt_of_cell? w _ hx113_0)).trans hx113_0
            replace p113 := eq_true p113
            replace q113 := eq_true q113
            go_wp2_with (first | ((with_reducible refine gate_dst (N := 15) rfl ?_); refine Kd.R_lit (Kd.int .u64) _ 22 ?hg (N := 15) ?hd (xs := ([rd l0 x9_1] : List Int)) (inner := [.int .u64 (rd l0 x9_1)]) (ok := fun _ => True) (okp := fun _ => True) ?hr ?hp (fun _ hk => hk) trivial (Below.refl _ _) (Nat.le_refl _) (by simp) ?_; (case hd => rfl); (case hg => rfl); (case hr => first | (go_simp; done) | (go_simp; rfl)); (case hp => exact (Reps.one (show Kd.M (Kd.int .u64) _ _ _ (rd l0 x9_1) [.int .u64 (rd l0 x9_1)] from rfl) (Reps.none _ _))); intro v115 w8 ho9 hb hg_ hnew_; clear hg_ hnew_; (first | rw [← Ny114.out] at ho9 | (simp only [Int.reduceToNat] at ho9; rw [← Ny114.out] at ho9)); have n0_ := Aside0.mk (Kd.R_lower ho9 (below_size (by repeat (first | (with_reducible first | exact HB.out | apply below_alloc | apply pw_below_drewN | apply below_drew1) | exact HB.out)))); have n1_ := Aside0.mk (below_step (by repeat (first | (with_reducible first | exact HB.out | apply below_alloc | apply pw_below_drewN | apply below_drew1) | exact HB.out)) hb); clear HB; have HO116 := n0_; have HB := n1_; clear n0_ n1_; clear hb ho9; obtain ⟨Ao10, co10, eo10⟩ := Kd.R_slice HO116.out; subst eo10) | ((with_reducible refine gate_callee (f := 27) rfl ?_); refine goesL_ (some 16) rfl rfl Try.func27 (by kernel_rfl) rfl #[.slice Ao10 y114.length co10] rfl (by (try simp only [List.map_toArray, List.map_cons, List.map_nil]); first | done | rfl | (simp only [List.length_drop, List.length_take]; rfl)) ?_; (with_reducible refine (word_Bytes.calls k1 _ _ y114 t117 _ ?side1 ?side2 A6.out).mono ?_); (case side1 => repeat (first | exact (Kd.R_reads' HO116.out).2.2 | (with_reducible refine Kd.C_alloc ?_ _) | (with_reducible refine Kd.C_drewN ?_ _) | (with_reducible refine Kd.C_drew ?_))); (case side2 => exact (Kd.R_reads' HO116.out).2.1); rintro e w11 ⟨v118, rfl, ho0, hb⟩; refine ⟨_, rfl, ?_⟩; have n0_ := Aside0.mk (Kd.R_below (by (with_reducible repeat (first | apply Kd.R_alloc | apply Kd.R_drewN | apply Kd.R_drew)); exact HO116.out) hb); have n1_ := Aside0.mk (Kd.R_lower ho0 (below_size (by repeat (first | (with_reducible first | exact HB.out | apply below_alloc | apply pw_below_drewN | apply below_drew1) | exact HB.out)))); have n2_ := Aside0.mk (below_step (by repeat (first | (with_reducible first | exact HB.out | apply below_alloc | apply pw_below_drewN | apply below_drew1) | exact HB.out)) hb); clear HO116; clear HB; have HO116 := n0_; have HO119 := n1_; have HB := n2_; clear n0_ n1_ n2_; (try clear hb); (try clear hb2); (try clear hk); (try clear hi); (try clear ho0); obtain ⟨Ao12, co12, eo12⟩ := Kd.R_slice HO119.out; subst eo12) | ((with_reducible refine gate_callee (f := 36) rfl ?_); refine goesL_ (some 17) rfl rfl Try.func36 (by kernel_rfl) rfl #[.int .u64 x3_1, .slice Ao12 t117.length co12] rfl (by (try simp only [List.map_toArray, List.map_cons, List.map_nil]); first | done | rfl | (simp only [List.length_drop, List.length_take]; rfl)) ?_; (with_reducible refine (fnv_step.calls k1 x3_1 _ _ t117 t120 _ ?side1 ?side2 A7.out).mono ?_); (case side1 => repeat (first | exact (Kd.R_reads' HO119.out).2.2 | (with_reducible refine Kd.C_alloc ?_ _) | (with_reducible refine Kd.C_drewN ?_ _) | (with_reducible refine Kd.C_drew ?_))); (case side2 => exact (Kd.R_reads' HO119.out).2.1); rintro e w' ⟨rfl, ⟨nd, rfl⟩⟩; refine ⟨_, rfl, ?_⟩))
            go_roundg k1
            case measure => have := HK1.out; omega
            case rel => exact ⟨(t120), (wrap64 (x9_1 + 1)), (by first | rfl | (simp; done) | (simp [*]; done)), (by first | rfl | (simp; done) | (simp [*]; done)), H', ⟨by have := HK1.out; omega⟩, ⟨by repeat (first | (with_reducible first | exact HB.out | apply below_alloc | apply pw_below_drewN | apply below_drew1) | exact HB.out)⟩⟩
          · rw [if_neg c5] at H
            exact absurd H (by simp)
        · rw [if_neg c4] at H
          exact absurd H (by simp)
      · rw [if_neg c3] at H
        have c3b0 : decide (x9_1 < (l0.length : Int)) = false := decide_eq_false c3
        clear c3
        obtain rfl := Option.some.inj H
        go_wp2
        go_ret
        exact ⟨by first | rfl | (simp [errW_none, errW_some] <;> rfl) | (simp [*, errW_none, errW_some] <;> rfl), by repeat (first | (with_reducible first | exact HB.out | apply below_alloc | apply pw_below_drewN | apply below_drew1) | exact HB.out)⟩

/-! ### capnplaw18_awake: function 12 -/
def capnplaw18_awake.f (k : Nat)  : Option (Bool) := (fnv_Start.f).bind fun t121 => (if t121 = 14695981039346656037 then ((fnv_Sum.f k ([] : List Int)).bind fun t122 => (if t122 = 14695981039346656037 then ((fnv_Sum.f k (([97] : List Int))).bind fun t126 => (if t126 = 12638187200555641996 then ((fnv_Sum.f k (([102, 111, 111, 98, 97, 114] : List Int))).bind fun t130 => (if t130 = 9625390261332436968 then ((fnv_Words.f k ([] : List Int)).bind fun t131 => ((fnv_Start.f).bind fun t132 => (some (t131 == t132)))) else (none))) else (none))) else (none))) else (none))
theorem capnplaw18_awake.mono : ∀ k, LeO (capnplaw18_awake.f k ) (capnplaw18_awake.f (k + 1) ) := by
  intro  k
  unfold capnplaw18_awake.f
  repeat' first
      | (with_reducible exact fnv_Sum.mono _ _)
      | (with_reducible exact fnv_Words.mono _ _)
      | (with_reducible exact LeO.refl _)
      | (with_reducible exact LeO.none _)
      | (with_reducible refine LeO.ite ?_ ?_)
      | (with_reducible refine LeO.bind ?_ (fun _ => ?_))
      | exact fnv_Sum.mono _ _
      | exact fnv_Words.mono _ _
      | exact LeO.none _
      | refine LeO.ite ?_ ?_
      | refine LeO.bind ?_ (fun _ => ?_)
set_option maxHeartbeats 8000000 in
set_option maxRecDepth 100000 in
theorem capnplaw18_awake.calls (k : Nat)  (r : Bool) (w : World) (h : capnplaw18_awake.f k  = some r) :
    Calls Try.prog 12 #[] w fun e w' => e = .returned (.bool r) ∧ Below w.heap.size w w' := by
  have H := h
  unfold capnplaw18_awake.f at H
  clear h
  replace H := Option.bind_eq_some_iff.mp H
  obtain ⟨t1, A1, H⟩ := H
  obtain rfl : t1 = 14695981039346656037 := by
    by_cases c1 : t1 = 14695981039346656037
    · exact c1
    · rw [if_neg c1] at H; exact absurd H (by simp)
  rw [if_pos rfl] at H
  replace H := Option.bind_eq_some_iff.mp H
  obtain ⟨t2, A2, H⟩ := H
  obtain rfl : t2 = 14695981039346656037 := by
    by_cases c1 : t2 = 14695981039346656037
    · exact c1
    · rw [if_neg c1] at H; exact absurd H (by simp)
  rw [if_pos rfl] at H
  replace H := Option.bind_eq_some_iff.mp H
  obtain ⟨t3, A3, H⟩ := H
  obtain rfl : t3 = 12638187200555641996 := by
    by_cases c1 : t3 = 12638187200555641996
    · exact c1
    · rw [if_neg c1] at H; exact absurd H (by simp)
  rw [if_pos rfl] at H
  replace H := Option.bind_eq_some_iff.mp H
  obtain ⟨t4, A4, H⟩ := H
  obtain rfl : t4 = 9625390261332436968 := by
    by_cases c1 : t4 = 9625390261332436968
    · exact c1
    · rw [if_neg c1] at H; exact absurd H (by simp)
  rw [if_pos rfl] at H
  replace H := Option.bind_eq_some_iff.mp H
  obtain ⟨t5, A5, H⟩ := H
  replace H := Option.bind_eq_some_iff.mp H
  obtain ⟨t6, A6, H⟩ := H
  obtain rfl := Option.some.inj H
  have HA1 := Aside0.mk A1
  have HA2 := Aside0.mk A2
  have HA3 := Aside0.mk A3
  have HA4 := Aside0.mk A4
  have HA5 := Aside0.mk A5
  have HA6 := Aside0.mk A6
  clear A1 A2 A3 A4 A5 A6 H
  have kc : ∀ (W : World) (g : Nat) (C : Array Value) (n c : Nat), g = W.heap.size → (convert 23 23 (.slice (some ⟨g, 0, none⟩) n c)).run Try.prog (W.alloc (.cells C 5)) = .ok (.slice (some ⟨g, 0, none⟩) n c) (W.alloc (.cells C 5 (C.size, C.size + 1))) := by
    intro W g C n c hg
    subst hg
    exact Go.Lib.run_convert_bytes_const (P := Try.prog) W 23 5 C n c Try.underlying23 Try.underlying5
  have kc1 : ∀ (m : Nat) (C : Array Value) (n c : Nat), (convert 23 23 (.slice (some ⟨w.heap.size, 0, none⟩) n c)).run Try.prog ((w.drewN m).alloc (.cells C 5)) = .ok (.slice (some ⟨w.heap.size, 0, none⟩) n c) ((w.drewN m).alloc (.cells C 5 (C.size, C.size + 1))) := fun m C n c => kc _ _ C n c (by simp)
  go_enter Try.func12, Try.ntmps12
  go_wp2_with (first | (go_at_call 35; (with_reducible refine (fnv_Start.calls _ _ HA1.out).mono ?_); rintro e w' ⟨rfl, ⟨nd, rfl⟩⟩; clear HA1) | (go_at_call 15; (refine (fnv_Sum.calls k _ _ ([] : List Int) _ _ ?side1 ?side2 HA2.out).mono ?_); (case side1 => repeat (first | exact Kd.C_nil _ _ | exact Kd.C_marked _ _ ([] : List Int) _ _ _ (by simp) rfl (by simp) | refine Kd.C_drewN ?_ _ | refine Kd.C_drew ?_)); (case side2 => exact Nat.le_refl _); rintro e w' ⟨rfl, ⟨nd, rfl⟩⟩; clear HA2) | (go_at_call 15; (refine (fnv_Sum.calls k _ _ ([97] : List Int) _ _ ?side1 ?side2 HA3.out).mono ?_); (case side1 => repeat (first | exact Kd.C_nil _ _ | exact Kd.C_marked _ _ ([97] : List Int) _ _ _ (by simp) rfl (by simp) | refine Kd.C_drewN ?_ _ | refine Kd.C_drew ?_)); (case side2 => exact Nat.le_refl _); rintro e w' ⟨rfl, ⟨nd, rfl⟩⟩; clear HA3) | (go_at_call 15; (refine (fnv_Sum.calls k _ _ ([102, 111, 111, 98, 97, 114] : List Int) _ _ ?side1 ?side2 HA4.out).mono ?_); (case side1 => repeat (first | exact Kd.C_nil _ _ | exact Kd.C_marked _ _ ([102, 111, 111, 98, 97, 114] : List Int) _ _ _ (by simp) rfl (by simp) | refine Kd.C_drewN ?_ _ | refine Kd.C_drew ?_)); (case side2 => exact Nat.le_refl _); rintro e w' ⟨rfl, ⟨nd, rfl⟩⟩; clear HA4) | (go_at_call 17; (refine (fnv_Words.calls k _ _ ([] : List Int) _ _ ?side1 ?side2 HA5.out).mono ?_); (case side1 => exact Kd.C_nil _ _); (case side2 => exact Nat.le_refl _); rintro e w' ⟨rfl, hb⟩; clear HA5) | (go_at_call 35; (with_reducible refine (fnv_Start.calls _ _ HA6.out).mono ?_); rintro e w' ⟨rfl, ⟨nd, rfl⟩⟩; clear HA6))
  go_ret
  exact ⟨rfl, pw_below_drewN (below_step (by repeat (first | exact Below.refl _ _ | apply below_alloc | apply pw_below_drewN | apply below_drew1)) hb) _⟩

/-! ### capnplaw18_FnvIsInjectiveInState: function 5 -/
def capnplaw18_FnvIsInjectiveInState.j0 : Nat → Int → Int → List Int → Int → Int → Bool → Option (Bool)
  | 0, _, _, _, _, _, _ => none
  | k + 1, x0, x1, x2, x3, x4, x17 => if x17 = true then ((capnplaw18_awake.f k).bind fun t134 => (some t134)) else ((fnv_Add.f k x0 x2).bind fun t135 => ((fnv_Add.f k x1 x2).bind fun t136 => (if ((t135 == t136) == (x0 == x1)) = true then ((fnv_Add.f k x0 (([x3] : List Int))).bind fun t140 => ((fnv_Add.f k x0 (([x4] : List Int))).bind fun t144 => (some ((t140 == t144) == (x3 == x4))))) else (none))))
def capnplaw18_FnvIsInjectiveInState.f (k : Nat) (a0 : Int) (a1 : Int) (l2 : List Int) (a3 : Int) (a4 : Int) : Option (Bool) := (capnplaw18_awake.f k).bind fun t133 => (if t133 = true then (capnplaw18_FnvIsInjectiveInState.j0 k a0 a1 l2 a3 a4 (decide ((l2.length : Int) > 500))) else (capnplaw18_FnvIsInjectiveInState.j0 k a0 a1 l2 a3 a4 true))
theorem capnplaw18_FnvIsInjectiveInState.mono_l : ∀ k, (∀ y0 y1 y2 y3 y4 y5, LeO (capnplaw18_FnvIsInjectiveInState.j0 k y0 y1 y2 y3 y4 y5) (capnplaw18_FnvIsInjectiveInState.j0 (k + 1) y0 y1 y2 y3 y4 y5))
  | 0 => fun _ _ _ _ _ _ r h => by simp [capnplaw18_FnvIsInjectiveInState.j0] at h
  | k + 1 => by
    have ih0 := capnplaw18_FnvIsInjectiveInState.mono_l k
    · intro y0 y1 y2 y3 y4 y5
      unfold capnplaw18_FnvIsInjectiveInState.j0
      repeat' first
      | (with_reducible exact ih0 _ _ _ _ _ _)
      | (with_reducible exact capnplaw18_awake.mono _)
      | (with_reducible exact fnv_Add.mono _ _ _)
      | (with_reducible exact LeO.refl _)
      | (with_reducible exact LeO.none _)
      | (with_reducible refine LeO.ite ?_ ?_)
      | (with_reducible refine LeO.bind ?_ (fun _ => ?_))
      | exact ih0 _ _ _ _ _ _
      | exact capnplaw18_awake.mono _
      | exact fnv_Add.mono _ _ _
      | exact LeO.none _
      | refine LeO.ite ?_ ?_
      | refine LeO.bind ?_ (fun _ => ?_)
theorem capnplaw18_FnvIsInjectiveInState.mono : ∀ a0 a1 a2 a3 a4 k, LeO (capnplaw18_FnvIsInjectiveInState.f k a0 a1 a2 a3 a4) (capnplaw18_FnvIsInjectiveInState.f (k + 1) a0 a1 a2 a3 a4) := by
  intro a0 a1 a2 a3 a4 k
  have ih0 := capnplaw18_FnvIsInjectiveInState.mono_l k
  unfold capnplaw18_FnvIsInjectiveInState.f
  repeat' first
      | (with_reducible exact ih0 _ _ _ _ _ _)
      | (with_reducible exact capnplaw18_awake.mono _)
      | (with_reducible exact fnv_Add.mono _ _ _)
      | (with_reducible exact LeO.refl _)
      | (with_reducible exact LeO.none _)
      | (with_reducible refine LeO.ite ?_ ?_)
      | (with_reducible refine LeO.bind ?_ (fun _ => ?_))
      | exact ih0 _ _ _ _ _ _
      | exact capnplaw18_awake.mono _
      | exact fnv_Add.mono _ _ _
      | exact LeO.none _
      | refine LeO.ite ?_ ?_
      | refine LeO.bind ?_ (fun _ => ?_)
set_option maxHeartbeats 8000000 in
set_option maxRecDepth 100000 in
theorem capnplaw18_FnvIsInjectiveInState.calls (k : Nat) (a0 : Int) (a1 : Int) (A2 : Option Addr) (c2 : Nat) (l2 : List Int) (a3 : Int) (a4 : Int) (r : Bool) (w : World) (hr2 : Kd.C (Kd.int .u8) w A2 l2.length l2) (hc2 : l2.length ≤ c2) (h : capnplaw18_FnvIsInjectiveInState.f k a0 a1 l2 a3 a4 = some r) :
    Calls Try.prog 5 #[.int .u64 a0, .int .u64 a1, .slice A2 l2.length c2, .int .u8 a3, .int .u8 a4] w fun e w' => e = .returned (.bool r) ∧ Below w.heap.size w w' := by
  have HR2 := Aside0.mk hr2
  have HC2 := Aside0.mk hc2
  clear hr2 hc2
  have HB := Aside0.mk (Below.refl w.heap.size w)
  have H : ((capnplaw18_awake.f k).bind fun t133 => (if t133 = true then (capnplaw18_FnvIsInjectiveInState.j0 k a0 a1 l2 a3 a4 (decide ((l2.length : Int) > 500))) else (capnplaw18_FnvIsInjectiveInState.j0 k a0 a1 l2 a3 a4 true))) = some r := h
  clear h
  have HC6 := Aside0.mk H
  clear H
  go_enter Try.func5, Try.ntmps5
  go_upto_region 1 with (fail)
  go_cut [17] (fun v17 wc => ∃ (kq : Nat) (x17_5 : Bool), v17 = .bool x17_5 ∧ Aside0 (capnplaw18_FnvIsInjectiveInState.j0 kq a0 a1 l2 a3 a4 x17_5 = some r) ∧ Aside0 (kq ≤ k) ∧ Aside0 (Below w.heap.size w wc))
  case first =>
    have H := HC6.out
    clear HC6
    replace H := Option.bind_eq_some_iff.mp H
    obtain ⟨t133, A70, H⟩ := H
    replace H : (if t133 = true then (capnplaw18_FnvIsInjectiveInState.j0 k a0 a1 l2 a3 a4 (decide ((l2.length : Int) > 500))) else (capnplaw18_FnvIsInjectiveInState.j0 k a0 a1 l2 a3 a4 true)) = some r := H
    have A7 := Aside0.mk A70
    clear A70
    by_cases c8 : t133 = true
    · subst c8
      have H1 : (capnplaw18_FnvIsInjectiveInState.j0 k a0 a1 l2 a3 a4 (decide ((l2.length : Int) > 500))) = some r := by rw [if_pos rfl] at H; exact H
      clear H
      have H := H1
      clear H1
      have H' := Aside0.mk H
      clear H
      go_wp2_with (first | ((with_reducible refine gate_callee (f := 12) rfl ?_); refine goesL_ (some 11) rfl rfl Try.func12 (by kernel_rfl) rfl #[] rfl (by (try simp only [List.map_toArray, List.map_cons, List.map_nil]); first | done | rfl | (simp only [List.length_drop, List.length_take]; rfl)) ?_; (with_reducible refine (capnplaw18_awake.calls k  true _ A7.out).mono ?_); rintro e w9 ⟨rfl, hb⟩; refine ⟨_, rfl, ?_⟩; have n0_ := Aside0.mk (below_step (by repeat (first | (with_reducible first | exact HB.out | apply below_alloc | apply pw_below_drewN | apply below_drew1) | exact HB.out)) hb); clear HB; have HB := n0_; clear n0_; (try clear hb); (try clear hb2); (try clear hk); (try clear hi)))
      go_meet
      case rel => exact ⟨_, (decide ((l2.length : Int) > 500)), (by first | rfl | (simp; done) | (simp [*]; done)), H', ⟨by first | omega | exact Nat.le_refl _⟩, ⟨by repeat (first | (with_reducible first | exact HB.out | apply below_alloc | apply pw_below_drewN | apply below_drew1) | exact HB.out)⟩⟩
    · replace c8 := Bool.eq_false_iff.mpr c8
      subst c8
      have H1 : (capnplaw18_FnvIsInjectiveInState.j0 k a0 a1 l2 a3 a4 true) = some r := by rw [if_neg (show ¬ (false = true) by decide)] at H; exact H
      clear H
      have H := H1
      clear H1
      have H' := Aside0.mk H
      clear H
      go_wp2_with (first | ((with_reducible refine gate_callee (f := 12) rfl ?_); refine goesL_ (some 11) rfl rfl Try.func12 (by kernel_rfl) rfl #[] rfl (by (try simp only [List.map_toArray, List.map_cons, List.map_nil]); first | done | rfl | (simp only [List.length_drop, List.length_take]; rfl)) ?_; (with_reducible refine (capnplaw18_awake.calls k  false _ A7.out).mono ?_); rintro e w10 ⟨rfl, hb⟩; refine ⟨_, rfl, ?_⟩; have n0_ := Aside0.mk (below_step (by repeat (first | (with_reducible first | exact HB.out | apply below_alloc | apply pw_below_drewN | apply below_drew1) | exact HB.out)) hb); clear HB; have HB := n0_; clear n0_; (try clear hb); (try clear hb2); (try clear hk); (try clear hi)))
      go_meet
      case rel => exact ⟨_, (true), (by first | rfl | (simp; done) | (simp [*]; done)), H', ⟨by first | omega | exact Nat.le_refl _⟩, ⟨by repeat (first | (with_reducible first | exact HB.out | apply below_alloc | apply pw_below_drewN | apply below_drew1) | exact HB.out)⟩⟩
  case rest =>
    clear HC6
    try clear c1
    try clear c2
    try clear p2
    try clear c5
    try clear c8
    obtain ⟨kq, x17_5, rfl, HA, HJ5, HB⟩ := hcut
    cases kq with
    | zero => exact absurd HA.out (by simp [capnplaw18_FnvIsInjectiveInState.j0])
    | succ kj5 =>
      have H := HA.out
      clear HA
      simp only [capnplaw18_FnvIsInjectiveInState.j0] at H
      by_cases c11 : x17_5 = true
      · subst c11
        have H1 : ((capnplaw18_awake.f kj5).bind fun t134 => (some t134)) = some r := by rw [if_pos rfl] at H; exact H
        clear H
        have H := H1
        clear H1
        replace H := Option.bind_eq_some_iff.mp H
        obtain ⟨t134, A120, H⟩ := H
        replace H : (some t134) = some r := H
        have A12 := Aside0.mk A120
        clear A120
        obtain rfl := Option.some.inj H
        go_wp2_with (first | ((with_reducible refine gate_callee (f := 12) rfl ?_); refine goesL_ (some 18) rfl rfl Try.func12 (by kernel_rfl) rfl #[] rfl (by (try simp only [List.map_toArray, List.map_cons, List.map_nil]); first | done | rfl | (simp only [List.length_drop, List.length_take]; rfl)) ?_; (with_reducible refine (capnplaw18_awake.calls kj5  t134 _ A12.out).mono ?_); rintro e w13 ⟨rfl, hb⟩; refine ⟨_, rfl, ?_⟩; have n0_ := Aside0.mk (below_step (by repeat (first | (with_reducible first | exact HB.out | apply below_alloc | apply pw_below_drewN | apply below_drew1) | exact HB.out)) hb); clear HB; have HB := n0_; clear n0_; (try clear hb); (try clear hb2); (try clear hk); (try clear hi)))
        go_ret
        exact ⟨by first | rfl | (simp [errW_none, errW_some] <;> rfl) | (simp [*, errW_none, errW_some] <;> rfl), by repeat (first | (with_reducible first | exact HB.out | apply below_alloc | apply pw_below_drewN | apply below_drew1) | exact HB.out)⟩
      · replace c11 := Bool.eq_false_iff.mpr c11
        subst c11
        have H1 : ((fnv_Add.f kj5 a0 l2).bind fun t135 => ((fnv_Add.f kj5 a1 l2).bind fun t136 => (if ((t135 == t136) == (a0 == a1)) = true then ((fnv_Add.f kj5 a0 (([a3] : List Int))).bind fun t140 => ((fnv_Add.f kj5 a0 (([a4] : List Int))).bind fun t144 => (some ((t140 == t144) == (a3 == a4))))) else (none)))) = some r := by rw [if_neg (show ¬ (false = true) by decide)] at H; exact H
        clear H
        have H := H1
        clear H1
        replace H := Option.bind_eq_some_iff.mp H
        obtain ⟨t135, A140, H⟩ := H
        replace H : ((fnv_Add.f kj5 a1 l2).bind fun t136 => (if ((t135 == t136) == (a0 == a1)) = true then ((fnv_Add.f kj5 a0 (([a3] : List Int))).bind fun t140 => ((fnv_Add.f kj5 a0 (([a4] : List Int))).bind fun t144 => (some ((t140 == t144) == (a3 == a4))))) else (none))) = some r := H
        have A14 := Aside0.mk A140
        clear A140
        replace H := Option.bind_eq_some_iff.mp H
        obtain ⟨t136, A150, H⟩ := H
        replace H : (if ((t135 == t136) == (a0 == a1)) = true then ((fnv_Add.f kj5 a0 (([a3] : List Int))).bind fun t140 => ((fnv_Add.f kj5 a0 (([a4] : List Int))).bind fun t144 => (some ((t140 == t144) == (a3 == a4))))) else (none)) = some r := H
        have A15 := Aside0.mk A150
        clear A150
        by_cases c16 : ((t135 == t136) == (a0 == a1)) = true
        · rw [if_pos c16] at H
          have c16b0 : ((t135 == t136) == (a0 == a1)) = true := c16
          (try (have c16b1 : decide ((t135 == t136) = (a0 == a1)) = true := by simpa using c16))
          (try (have c16b2 : ((t135 == t136) == (a0 == a1)) = true := by simpa using c16))
          clear c16
          obtain ⟨y137, hy137⟩ : ∃ y_ : List Int, y_ = (([a3] : List Int)) := ⟨_, rfl⟩
          replace H : ((fnv_Add.f kj5 a0 y137).bind fun t140 => ((fnv_Add.f kj5 a0 (([a4] : List Int))).bind fun t144 => (some ((t140 == t144) == (a3 == a4))))) = some r := by first | (rw [hy137]; with_reducible exact H) | (have H2_ := (Option.bind_some _ _).symm.trans H; rw [hy137]; with_reducible exact H2_) | (have H2_ := (Option.bind_some _ _).symm.trans H; with_reducible exact H2_) | with_reducible exact H | (rw [hy137]; exact H) | exact H
          have Ny137 := Aside0.mk hy137
          clear hy137
          replace H := Option.bind_eq_some_iff.mp H
          obtain ⟨t140, A170, H⟩ := H
          replace H : ((fnv_Add.f kj5 a0 (([a4] : List Int))).bind fun t144 => (some ((t140 == t144) == (a3 == a4)))) = some r := H
          have A17 := Aside0.mk A170
          clear A170
          obtain ⟨y141, hy141⟩ : ∃ y_ : List Int, y_ = (([a4] : List Int)) := ⟨_, rfl⟩
          replace H : ((fnv_Add.f kj5 a0 y141).bind fun t144 => (some ((t140 == t144) == (a3 == a4)))) = some r := by first | (rw [hy141]; with_reducible exact H) | (have H2_ := (Option.bind_some _ _).symm.trans H; rw [hy141]; with_reducible exact H2_) | (have H2_ := (Option.bind_some _ _).symm.trans H; with_reducible exact H2_) | with_reducible exact H | (rw [hy141]; exact H) | exact H
          have Ny141 := Aside0.mk hy141
          clear hy141
          replace H := Option.bind_eq_some_iff.mp H
          obtain ⟨t144, A180, H⟩ := H
          replace H : (some ((t140 == t144) == (a3 == a4))) = some r := H
          have A18 := Aside0.mk A180
          clear A180
          obtain rfl := Option.some.inj H
          go_wp2_with (first | ((with_reducible refine gate_callee (f := 13) rfl ?_); refine goesL_ (some 21) rfl rfl Try.func13 (by kernel_rfl) rfl #[.int .u64 a0, .slice A2 l2.length c2] rfl (by (try simp only [List.map_toArray, List.map_cons, List.map_nil]); first | done | rfl | (simp only [List.length_drop, List.length_take]; rfl)) ?_; (with_reducible refine (fnv_Add.calls kj5 a0 _ _ l2 t135 _ ?side1 ?side2 A14.out).mono ?_); (case side1 => repeat (first | exact (Kd.C_below HR2.out HB.out) | (with_reducible refine Kd.C_alloc ?_ _) | (with_reducible refine Kd.C_drewN ?_ _) | (with_reducible refine Kd.C_drew ?_))); (case side2 => exact HC2.out); rintro e w' ⟨rfl, ⟨nd, rfl⟩⟩; refine ⟨_, rfl, ?_⟩) | ((with_reducible refine gate_callee (f := 13) rfl ?_); refine goesL_ (some 24) rfl rfl Try.func13 (by kernel_rfl) rfl #[.int .u64 a1, .slice A2 l2.length c2] rfl (by (try simp only [List.map_toArray, List.map_cons, List.map_nil]); first | done | rfl | (simp only [List.length_drop, List.length_take]; rfl)) ?_; (with_reducible refine (fnv_Add.calls kj5 a1 _ _ l2 t136 _ ?side1 ?side2 A15.out).mono ?_); (case side1 => repeat (first | exact (Kd.C_below HR2.out (by repeat (first | (with_reducible first | exact HB.out | apply below_alloc | apply pw_below_drewN | apply below_drew1) | exact HB.out))) | (with_reducible refine Kd.C_alloc ?_ _) | (with_reducible refine Kd.C_drewN ?_ _) | (with_reducible refine Kd.C_drew ?_))); (case side2 => exact HC2.out); rintro e w' ⟨rfl, ⟨nd, rfl⟩⟩; refine ⟨_, rfl, ?_⟩) | ((with_reducible refine gate_dst (N := 33) rfl ?_); (try (refine gate_guard (by rfl) ?_; dsimp only)); refine Kd.R_lit (Kd.int .u8) _ 5 ?hg (N := 33) ?hd (xs := ([a3] : List Int)) (inner := [.int .u8 a3]) (ok := fun _ => True) (okp := fun _ => True) ?hr ?hp (fun _ hk => hk) trivial (Below.refl _ _) (Nat.le_refl _) (by simp) ?_; (case hd => rfl); (case hg => rfl); (case hr => first | (go_simp; done) | (go_simp; rfl)); (case hp => exact (Reps.one (show Kd.M (Kd.int .u8) _ _ _ a3 [.int .u8 a3] from rfl) (Reps.none _ _))); intro v138 w19 ho20 hb hg_ hnew_; clear hg_ hnew_; (first | rw [← Ny137.out] at ho20 | (simp only [Int.reduceToNat] at ho20; rw [← Ny137.out] at ho20)); have n0_ := Aside0.mk (Kd.R_lower ho20 (below_size (by repeat (first | (with_reducible first | exact HB.out | apply below_alloc | apply pw_below_drewN | apply below_drew1) | exact HB.out)))); have n1_ := Aside0.mk (below_step (by repeat (first | (with_reducible first | exact HB.out | apply below_alloc | apply pw_below_drewN | apply below_drew1) | exact HB.out)) hb); clear HB; have HO139 := n0_; have HB := n1_; clear n0_ n1_; clear hb ho20; obtain ⟨Ao21, co21, eo21⟩ := Kd.R_slice HO139.out; subst eo21) | (go_at_call 13; (with_reducible refine (fnv_Add.calls kj5 a0 _ _ y137 t140 _ ?side1 ?side2 A17.out).mono ?_); (case side1 => repeat (first | exact (Kd.R_reads' HO139.out).2.2 | (with_reducible refine Kd.C_alloc ?_ _) | (with_reducible refine Kd.C_drewN ?_ _) | (with_reducible refine Kd.C_drew ?_))); (case side2 => exact (Kd.R_reads' HO139.out).2.1); rintro e w' ⟨rfl, ⟨nd, rfl⟩⟩) | ((with_reducible refine gate_dst (N := 37) rfl ?_); (try (refine gate_guard (by rfl) ?_; dsimp only)); refine Kd.R_lit (Kd.int .u8) _ 5 ?hg (N := 37) ?hd (xs := ([a4] : List Int)) (inner := [.int .u8 a4]) (ok := fun _ => True) (okp := fun _ => True) ?hr ?hp (fun _ hk => hk) trivial (Below.refl _ _) (Nat.le_refl _) (by simp) ?_; (case hd => rfl); (case hg => rfl); (case hr => first | (go_simp; done) | (go_simp; rfl)); (case hp => exact (Reps.one (show Kd.M (Kd.int .u8) _ _ _ a4 [.int .u8 a4] from rfl) (Reps.none _ _))); intro v142 w22 ho23 hb hg_ hnew_; clear hg_ hnew_; (first | rw [← Ny141.out] at ho23 | (simp only [Int.reduceToNat] at ho23; rw [← Ny141.out] at ho23)); have n0_ := Aside0.mk (Kd.R_elder' (by (with_reducible repeat (first | apply Kd.R_alloc | apply Kd.R_drewN | apply Kd.R_drew)); exact HO139.out) (Kd.R_base ho23) hb); have n1_ := Aside0.mk (Kd.R_lower (Kd.R_new' ho23 (Kd.R_lt (by (with_reducible repeat (first | apply Kd.R_alloc | apply Kd.R_drewN | apply Kd.R_drew)); exact HO139.out))) (below_size (by repeat (first | (with_reducible first | exact HB.out | apply below_alloc | apply pw_below_drewN | apply below_drew1) | exact HB.out)))); have n2_ := Aside0.mk (below_step (by repeat (first | (with_reducible first | exact HB.out | apply below_alloc | apply pw_below_drewN | apply below_drew1) | exact HB.out)) hb); clear HO139; clear HB; have HO139 := n0_; have HO143 := n1_; have HB := n2_; clear n0_ n1_ n2_; clear hb ho23; obtain ⟨Ao24, co24, eo24⟩ := Kd.R_slice HO143.out; subst eo24) | (go_at_call 13; (with_reducible refine (fnv_Add.calls kj5 a0 _ _ y141 t144 _ ?side1 ?side2 A18.out).mono ?_); (case side1 => repeat (first | exact (Kd.R_reads' HO143.out).2.2 | (with_reducible refine Kd.C_alloc ?_ _) | (with_reducible refine Kd.C_drewN ?_ _) | (with_reducible refine Kd.C_drew ?_))); (case side2 => exact (Kd.R_reads' HO143.out).2.1); rintro e w' ⟨rfl, ⟨nd, rfl⟩⟩))
          go_ret
          exact ⟨by first | rfl | (simp [errW_none, errW_some] <;> rfl) | (simp [*, errW_none, errW_some] <;> rfl), by repeat (first | (with_reducible first | exact HB.out | apply below_alloc | apply pw_below_drewN | apply below_drew1) | exact HB.out)⟩
        · rw [if_neg c16] at H
          exact absurd H (by simp)

/-- THE ONE PURE STATEMENT of capnplaw18_FnvIsInjectiveInState: yours. -/
def capnplaw18_FnvIsInjectiveInState.Pure : Prop := ∀ (a0 : Int) (a1 : Int) (l2 : List Int) (a3 : Int) (a4 : Int), (Lit.int .u64 a0).wf = true → (Lit.int .u64 a1).wf = true → l2.length ≤ maxLen → l2.length * 1 ≤ 140737488351232 → (∀ x ∈ l2, (Lit.int .u8 x).wf = true) → (Lit.int .u8 a3).wf = true → (Lit.int .u8 a4).wf = true → ∃ k, capnplaw18_FnvIsInjectiveInState.f k a0 a1 l2 a3 a4 = some true
theorem capnplaw18_FnvIsInjectiveInState.walk (P : capnplaw18_FnvIsInjectiveInState.Pure) (a0 : Int) (a1 : Int) (a2 : Option Addr) (len2 cap2 : Nat) (z2 : List Int) (a3 : Int) (a4 : Int) (w : World) (w0 : (Lit.int .u64 a0).wf = true) (w1 : (Lit.int .u64 a1).wf = true) (w2 : (a2 = none ∧ len2 = 0 ∧ cap2 = 0 ∧ z2 = []) ∨ ∃ x, a2 = some x ∧ len2 ≤ cap2 ∧ cap2 ≤ maxLen ∧ z2.length = cap2 ∧ (∀ i, i < z2.length → w.cell? (x.add i) = some (.int .u8 (z2.getD i 0))) ∧ ∀ n ∈ z2, (Lit.int .u8 n).wf = true) (y2 : len2 * 1 ≤ 140737488351232) (w3 : (Lit.int .u8 a3).wf = true) (w4 : (Lit.int .u8 a4).wf = true) :
    Calls Try.prog 5 #[.int .u64 a0, .int .u64 a1, .slice a2 len2 cap2, .int .u8 a3, .int .u8 a4] w fun e w' => e = .returned (.bool true) ∧ Below w.heap.size w w' := by
  obtain ⟨l2, rfl, hr2, hm2, hw2, hc2⟩ := ReadsInt.ofRowC w2
  obtain ⟨k, h⟩ := P a0 a1 l2 a3 a4 w0 w1 hm2 y2 hw2 w3 w4
  refine (capnplaw18_FnvIsInjectiveInState.calls k a0 a1 _ _ l2 a3 a4 true w (Kd.C_of_reads (d := (0 : Int)) (h1 := fun _ => rfl) hr2) hc2 h).mono ?_
  rintro e w' ⟨rfl, hd⟩
  exact ⟨rfl, hd⟩

end Go.Proofs.Ytipimnidbopaoaa.PFnvIsInjectiveInState
