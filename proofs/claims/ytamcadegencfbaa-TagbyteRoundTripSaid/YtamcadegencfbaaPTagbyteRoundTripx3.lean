/- Written by myprint.py, a program of this session: printed functions of a law, and the proofs that the Go code comes to them. -/
import Derived.Test.YtamcadegencfbaaPTagbyteRoundTripx0
import Derived.Test.YtamcadegencfbaaPTagbyteRoundTripx1
import Derived.Test.YtamcadegencfbaaPTagbyteRoundTripx2
namespace Go.Proofs.Ytamcadegencfbaa.PTagbyteRoundTrip
open Go.RowKit Go.Proofs.YtamcadegencfbaaW.PrintWords Go.Proofs.YtamcadegencfbaaW.PrintLast Go.Proofs.YtamcadegencfbaaW.PrintMore
attribute [local go_sem] max2_int min2_int max_two min_two max_three min_three max_four min_four   -- for this text's walks alone
set_option linter.unusedVariables false
set_option linter.unusedSimpArgs false

/-! ### capnplaw20_TagbyteRoundTrip: function 4 -/
mutual
def capnplaw20_TagbyteRoundTrip.j0 : Nat → Int → List Int → Bool → Option (Bool)
  | 0, _, _, _ => none
  | k + 1, x0, x1, x19 => if x19 = true then ((capnplaw20_awake.f k).bind fun t165 => (some t165)) else ((tagbyte_Bytes.f k x0).bind fun t166 => ((tagbyte_Of.f k x0).bind fun t169 => ((tagbyte_Ones.f t169).bind fun t170 => ((tagbyte_Of.f k x0).bind fun t171 => ((some (([] : List Int) : List Int)).bind fun y172 => (if y172.length + t166.length < 140737488355328 then ((some (y172 ++ t166 : List Int)).bind fun y175 => (if y175.length + x1.length < 140737488355328 then ((tagbyte_Expand.f k t171 (y175 ++ x1)).bind fun bt181 => (if (t166.length : Int) = t170 then (if bt181.2.2 = true then (if bt181.1 = x0 then (if bt181.2.1 = t170 then ((tagbyte_Dense.f k x0).bind fun t184 => (capnplaw20_TagbyteRoundTrip.j1 k x0 t166 t170 (t184 != (decide (t170 ≥ 7))))) else (capnplaw20_TagbyteRoundTrip.j1 k x0 t166 t170 true)) else (capnplaw20_TagbyteRoundTrip.j1 k x0 t166 t170 true)) else (capnplaw20_TagbyteRoundTrip.j1 k x0 t166 t170 true)) else (capnplaw20_TagbyteRoundTrip.j1 k x0 t166 t170 true))) else (none))) else (none)))))))
def capnplaw20_TagbyteRoundTrip.j1 : Nat → Int → List Int → Int → Bool → Option (Bool)
  | 0, _, _, _, _ => none
  | k + 1, x0, x5, x6, x62 => if x62 = true then (some false) else (if x6 = 0 then (some (x0 == 0)) else ((tagbyte_Of.f k x0).bind fun t185 => (if 0 ≤ (wrap64 (x6 - 1)) then (if (wrap64 (x6 - 1)) ≤ (x5.length : Int) then ((tagbyte_Expand.f k t185 (x5.take ((wrap64 (x6 - 1)) : Int).toNat)).bind fun bt190 => (some (!bt190.2.2))) else (none)) else (none))))
end
def capnplaw20_TagbyteRoundTrip.f (k : Nat) (a0 : Int) (l1 : List Int) : Option (Bool) := (capnplaw20_awake.f k).bind fun t164 => (if t164 = true then (capnplaw20_TagbyteRoundTrip.j0 k a0 l1 (decide ((l1.length : Int) > 500))) else (capnplaw20_TagbyteRoundTrip.j0 k a0 l1 true))
theorem capnplaw20_TagbyteRoundTrip.mono_l : ∀ k, (∀ y0 y1 y2, LeO (capnplaw20_TagbyteRoundTrip.j0 k y0 y1 y2) (capnplaw20_TagbyteRoundTrip.j0 (k + 1) y0 y1 y2)) ∧ (∀ y0 y1 y2 y3, LeO (capnplaw20_TagbyteRoundTrip.j1 k y0 y1 y2 y3) (capnplaw20_TagbyteRoundTrip.j1 (k + 1) y0 y1 y2 y3))
  | 0 => ⟨fun _ _ _ r h => by simp [capnplaw20_TagbyteRoundTrip.j0] at h, fun _ _ _ _ r h => by simp [capnplaw20_TagbyteRoundTrip.j1] at h⟩
  | k + 1 => by
    obtain ⟨ih0, ih1⟩ := capnplaw20_TagbyteRoundTrip.mono_l k
    refine ⟨?_, ?_⟩
    · intro y0 y1 y2
      unfold capnplaw20_TagbyteRoundTrip.j0
      repeat' first
      | (with_reducible exact ih0 _ _ _)
      | (with_reducible exact ih1 _ _ _ _)
      | (with_reducible exact capnplaw20_awake.mono _)
      | (with_reducible exact tagbyte_Bytes.mono _ _)
      | (with_reducible exact tagbyte_Dense.mono _ _)
      | (with_reducible exact tagbyte_Expand.mono _ _ _)
      | (with_reducible exact tagbyte_Of.mono _ _)
      | (with_reducible exact LeO.refl _)
      | (with_reducible exact LeO.none _)
      | (with_reducible refine LeO.ite ?_ ?_)
      | (with_reducible refine LeO.bind ?_ (fun _ => ?_))
      | exact ih0 _ _ _
      | exact ih1 _ _ _ _
      | exact capnplaw20_awake.mono _
      | exact tagbyte_Bytes.mono _ _
      | exact tagbyte_Dense.mono _ _
      | exact tagbyte_Expand.mono _ _ _
      | exact tagbyte_Of.mono _ _
      | exact LeO.none _
      | refine LeO.ite ?_ ?_
      | refine LeO.bind ?_ (fun _ => ?_)
    · intro y0 y1 y2 y3
      unfold capnplaw20_TagbyteRoundTrip.j1
      repeat' first
      | (with_reducible exact ih0 _ _ _)
      | (with_reducible exact ih1 _ _ _ _)
      | (with_reducible exact capnplaw20_awake.mono _)
      | (with_reducible exact tagbyte_Bytes.mono _ _)
      | (with_reducible exact tagbyte_Dense.mono _ _)
      | (with_reducible exact tagbyte_Expand.mono _ _ _)
      | (with_reducible exact tagbyte_Of.mono _ _)
      | (with_reducible exact LeO.refl _)
      | (with_reducible exact LeO.none _)
      | (with_reducible refine LeO.ite ?_ ?_)
      | (with_reducible refine LeO.bind ?_ (fun _ => ?_))
      | exact ih0 _ _ _
      | exact ih1 _ _ _ _
      | exact capnplaw20_awake.mono _
      | exact tagbyte_Bytes.mono _ _
      | exact tagbyte_Dense.mono _ _
      | exact tagbyte_Expand.mono _ _ _
      | exact tagbyte_Of.mono _ _
      | exact LeO.none _
      | refine LeO.ite ?_ ?_
      | refine LeO.bind ?_ (fun _ => ?_)
theorem capnplaw20_TagbyteRoundTrip.mono : ∀ a0 a1 k, LeO (capnplaw20_TagbyteRoundTrip.f k a0 a1) (capnplaw20_TagbyteRoundTrip.f (k + 1) a0 a1) := by
  intro a0 a1 k
  obtain ⟨ih0, ih1⟩ := capnplaw20_TagbyteRoundTrip.mono_l k
  unfold capnplaw20_TagbyteRoundTrip.f
  repeat' first
      | (with_reducible exact ih0 _ _ _)
      | (with_reducible exact ih1 _ _ _ _)
      | (with_reducible exact capnplaw20_awake.mono _)
      | (with_reducible exact tagbyte_Bytes.mono _ _)
      | (with_reducible exact tagbyte_Dense.mono _ _)
      | (with_reducible exact tagbyte_Expand.mono _ _ _)
      | (with_reducible exact tagbyte_Of.mono _ _)
      | (with_reducible exact LeO.refl _)
      | (with_reducible exact LeO.none _)
      | (with_reducible refine LeO.ite ?_ ?_)
      | (with_reducible refine LeO.bind ?_ (fun _ => ?_))
      | exact ih0 _ _ _
      | exact ih1 _ _ _ _
      | exact capnplaw20_awake.mono _
      | exact tagbyte_Bytes.mono _ _
      | exact tagbyte_Dense.mono _ _
      | exact tagbyte_Expand.mono _ _ _
      | exact tagbyte_Of.mono _ _
      | exact LeO.none _
      | refine LeO.ite ?_ ?_
      | refine LeO.bind ?_ (fun _ => ?_)
def capnplaw20_TagbyteRoundTrip.T10 : Bool × List (List Nat × List Nat) := (true, [([], []), ([0], [0]), ([], []), ([], []), ([3], [3]), ([2, 4], [2, 4]), ([1, 5, 1], [1, 5]), ([6], [6]), ([7], [7]), ([7], [7]), ([7], [7]), ([8, 6, 0, 1, 2, 3, 4, 5, 6, 7, 8], [8]), ([9, 11, 0, 1, 2, 3, 4, 5, 6, 7, 8, 9, 11], [9]), ([10, 12, 0, 1, 2, 3, 4, 5, 6, 7, 8, 9, 10, 11, 12], [10])])
def capnplaw20_TagbyteRoundTrip.B10 : List Nat := [0, 1, 0, 0, 8, 28, 63, 127, 255, 255, 255, 511, 3071, 8191]
theorem capnplaw20_TagbyteRoundTrip.tab10 : rtab .any (opsOf Try.f4 10) = capnplaw20_TagbyteRoundTrip.T10 := by kernel_rfl
theorem capnplaw20_TagbyteRoundTrip.bits10 : waitsOk capnplaw20_TagbyteRoundTrip.T10.2 capnplaw20_TagbyteRoundTrip.B10 = true := by kernel_rfl
set_option maxHeartbeats 8000000 in
set_option maxRecDepth 100000 in
theorem capnplaw20_TagbyteRoundTrip.calls (k : Nat) (a0 : Int) (A1 : Option Addr) (c1 : Nat) (l1 : List Int) (r : Bool) (w : World) (hr1 : Kd.C (Kd.int .u8) w A1 l1.length l1) (hc1 : l1.length ≤ c1) (h : capnplaw20_TagbyteRoundTrip.f k a0 l1 = some r) :
    Calls Try.prog 4 #[.int .u64 a0, .slice A1 l1.length c1] w fun e w' => e = .returned (.bool r) ∧ Below w.heap.size w w' := by
  have HR1 := Aside0.mk hr1
  have HC1 := Aside0.mk hc1
  clear hr1 hc1
  have HB := Aside0.mk (Below.refl w.heap.size w)
  have H : ((capnplaw20_awake.f k).bind fun t164 => (if t164 = true then (capnplaw20_TagbyteRoundTrip.j0 k a0 l1 (decide ((l1.length : Int) > 500))) else (capnplaw20_TagbyteRoundTrip.j0 k a0 l1 true))) = some r := h
  clear h
  have HC3 := Aside0.mk H
  clear H
  go_enter Try.func4, Try.ntmps4
  go_upto_region 1 with (fail)
  go_cut [19] (fun v19 wc => ∃ (kq : Nat) (x19_2 : Bool), v19 = .bool x19_2 ∧ Aside0 (capnplaw20_TagbyteRoundTrip.j0 kq a0 l1 x19_2 = some r) ∧ Aside0 (kq ≤ k) ∧ Aside0 (Below w.heap.size w wc))
  case first =>
    have H := HC3.out
    clear HC3
    replace H := Option.bind_eq_some_iff.mp H
    obtain ⟨t164, A40, H⟩ := H
    replace H : (if t164 = true then (capnplaw20_TagbyteRoundTrip.j0 k a0 l1 (decide ((l1.length : Int) > 500))) else (capnplaw20_TagbyteRoundTrip.j0 k a0 l1 true)) = some r := H
    have A4 := Aside0.mk A40
    clear A40
    by_cases c5 : t164 = true
    · subst c5
      have H1 : (capnplaw20_TagbyteRoundTrip.j0 k a0 l1 (decide ((l1.length : Int) > 500))) = some r := by rw [if_pos rfl] at H; exact H
      clear H
      have H := H1
      clear H1
      have H' := Aside0.mk H
      clear H
      go_wp2_with (first | ((with_reducible refine gate_callee (f := 14) rfl ?_); refine goesL_ (some 13) rfl rfl Try.func14 (by kernel_rfl) rfl #[] rfl (by (try simp only [List.map_toArray, List.map_cons, List.map_nil]); first | done | rfl | (simp only [List.length_drop, List.length_take]; rfl)) ?_; (with_reducible refine (capnplaw20_awake.calls k  true _ A4.out).mono ?_); rintro e w6 ⟨rfl, hb⟩; refine ⟨_, rfl, ?_⟩; have n0_ := Aside0.mk (below_step (by repeat (first | (with_reducible first | exact HB.out | apply below_alloc | apply pw_below_drewN | apply below_drew1) | exact HB.out)) hb); clear HB; have HB := n0_; clear n0_; (try clear hb); (try clear hb2); (try clear hk); (try clear hi)))
      go_meet
      case rel => exact ⟨_, (decide ((l1.length : Int) > 500)), (by first | rfl | (simp; done) | (simp [*]; done)), H', ⟨by first | omega | exact Nat.le_refl _⟩, ⟨by repeat (first | (with_reducible first | exact HB.out | apply below_alloc | apply pw_below_drewN | apply below_drew1) | exact HB.out)⟩⟩
    · replace c5 := Bool.eq_false_iff.mpr c5
      subst c5
      have H1 : (capnplaw20_TagbyteRoundTrip.j0 k a0 l1 true) = some r := by rw [if_neg (show ¬ (false = true) by decide)] at H; exact H
      clear H
      have H := H1
      clear H1
      have H' := Aside0.mk H
      clear H
      go_wp2_with (first | ((with_reducible refine gate_callee (f := 14) rfl ?_); refine goesL_ (some 13) rfl rfl Try.func14 (by kernel_rfl) rfl #[] rfl (by (try simp only [List.map_toArray, List.map_cons, List.map_nil]); first | done | rfl | (simp only [List.length_drop, List.length_take]; rfl)) ?_; (with_reducible refine (capnplaw20_awake.calls k  false _ A4.out).mono ?_); rintro e w7 ⟨rfl, hb⟩; refine ⟨_, rfl, ?_⟩; have n0_ := Aside0.mk (below_step (by repeat (first | (with_reducible first | exact HB.out | apply below_alloc | apply pw_below_drewN | apply below_drew1) | exact HB.out)) hb); clear HB; have HB := n0_; clear n0_; (try clear hb); (try clear hb2); (try clear hk); (try clear hi)))
      go_meet
      case rel => exact ⟨_, (true), (by first | rfl | (simp; done) | (simp [*]; done)), H', ⟨by first | omega | exact Nat.le_refl _⟩, ⟨by repeat (first | (with_reducible first | exact HB.out | apply below_alloc | apply pw_below_drewN | apply below_drew1) | exact HB.out)⟩⟩
  case rest =>
    clear HC3
    try clear c1
    try clear p2
    try clear c4
    try clear c5
    obtain ⟨kq, x19_2, rfl, HA, HJ2, HB⟩ := hcut
    cases kq with
    | zero => exact absurd HA.out (by simp [capnplaw20_TagbyteRoundTrip.j0])
    | succ kj2 =>
      have H := HA.out
      clear HA
      simp only [capnplaw20_TagbyteRoundTrip.j0] at H
      by_cases c8 : x19_2 = true
      · subst c8
        have H1 : ((capnplaw20_awake.f kj2).bind fun t165 => (some t165)) = some r := by rw [if_pos rfl] at H; exact H
        clear H
        have H := H1
        clear H1
        replace H := Option.bind_eq_some_iff.mp H
        obtain ⟨t165, A90, H⟩ := H
        replace H : (some t165) = some r := H
        have A9 := Aside0.mk A90
        clear A90
        obtain rfl := Option.some.inj H
        go_wp2_with (first | ((with_reducible refine gate_callee (f := 14) rfl ?_); refine goesL_ (some 20) rfl rfl Try.func14 (by kernel_rfl) rfl #[] rfl (by (try simp only [List.map_toArray, List.map_cons, List.map_nil]); first | done | rfl | (simp only [List.length_drop, List.length_take]; rfl)) ?_; (with_reducible refine (capnplaw20_awake.calls kj2  t165 _ A9.out).mono ?_); rintro e w10 ⟨rfl, hb⟩; refine ⟨_, rfl, ?_⟩; have n0_ := Aside0.mk (below_step (by repeat (first | (with_reducible first | exact HB.out | apply below_alloc | apply pw_below_drewN | apply below_drew1) | exact HB.out)) hb); clear HB; have HB := n0_; clear n0_; (try clear hb); (try clear hb2); (try clear hk); (try clear hi)))
        go_ret
        exact ⟨by first | rfl | (simp [errW_none, errW_some] <;> rfl) | (simp [*, errW_none, errW_some] <;> rfl), by repeat (first | (with_reducible first | exact HB.out | apply below_alloc | apply pw_below_drewN | apply below_drew1) | exact HB.out)⟩
      · replace c8 := Bool.eq_false_iff.mpr c8
        subst c8
        have H1 : ((tagbyte_Bytes.f kj2 a0).bind fun t166 => ((tagbyte_Of.f kj2 a0).bind fun t169 => ((tagbyte_Ones.f t169).bind fun t170 => ((tagbyte_Of.f kj2 a0).bind fun t171 => ((some (([] : List Int) : List Int)).bind fun y172 => (if y172.length + t166.length < 140737488355328 then ((some (y172 ++ t166 : List Int)).bind fun y175 => (if y175.length + l1.length < 140737488355328 then ((tagbyte_Expand.f kj2 t171 (y175 ++ l1)).bind fun bt181 => (if (t166.length : Int) = t170 then (if bt181.2.2 = true then (if bt181.1 = a0 then (if bt181.2.1 = t170 then ((tagbyte_Dense.f kj2 a0).bind fun t184 => (capnplaw20_TagbyteRoundTrip.j1 kj2 a0 t166 t170 (t184 != (decide (t170 ≥ 7))))) else (capnplaw20_TagbyteRoundTrip.j1 kj2 a0 t166 t170 true)) else (capnplaw20_TagbyteRoundTrip.j1 kj2 a0 t166 t170 true)) else (capnplaw20_TagbyteRoundTrip.j1 kj2 a0 t166 t170 true)) else (capnplaw20_TagbyteRoundTrip.j1 kj2 a0 t166 t170 true))) else (none))) else (none))))))) = some r := by rw [if_neg (show ¬ (false = true) by decide)] at H; exact H
        clear H
        have H := H1
        clear H1
        replace H := Option.bind_eq_some_iff.mp H
        obtain ⟨t166, A110, H⟩ := H
        replace H : ((tagbyte_Of.f kj2 a0).bind fun t169 => ((tagbyte_Ones.f t169).bind fun t170 => ((tagbyte_Of.f kj2 a0).bind fun t171 => ((some (([] : List Int) : List Int)).bind fun y172 => (if y172.length + t166.length < 140737488355328 then ((some (y172 ++ t166 : List Int)).bind fun y175 => (if y175.length + l1.length < 140737488355328 then ((tagbyte_Expand.f kj2 t171 (y175 ++ l1)).bind fun bt181 => (if (t166.length : Int) = t170 then (if bt181.2.2 = true then (if bt181.1 = a0 then (if bt181.2.1 = t170 then ((tagbyte_Dense.f kj2 a0).bind fun t184 => (capnplaw20_TagbyteRoundTrip.j1 kj2 a0 t166 t170 (t184 != (decide (t170 ≥ 7))))) else (capnplaw20_TagbyteRoundTrip.j1 kj2 a0 t166 t170 true)) else (capnplaw20_TagbyteRoundTrip.j1 kj2 a0 t166 t170 true)) else (capnplaw20_TagbyteRoundTrip.j1 kj2 a0 t166 t170 true)) else (capnplaw20_TagbyteRoundTrip.j1 kj2 a0 t166 t170 true))) else (none))) else (none)))))) = some r := H
        have A11 := Aside0.mk A110
        clear A110
        replace H := Option.bind_eq_some_iff.mp H
        obtain ⟨t169, A120, H⟩ := H
        replace H : ((tagbyte_Ones.f t169).bind fun t170 => ((tagbyte_Of.f kj2 a0).bind fun t171 => ((some (([] : List Int) : List Int)).bind fun y172 => (if y172.length + t166.length < 140737488355328 then ((some (y172 ++ t166 : List Int)).bind fun y175 => (if y175.length + l1.length < 140737488355328 then ((tagbyte_Expand.f kj2 t171 (y175 ++ l1)).bind fun bt181 => (if (t166.length : Int) = t170 then (if bt181.2.2 = true then (if bt181.1 = a0 then (if bt181.2.1 = t170 then ((tagbyte_Dense.f kj2 a0).bind fun t184 => (capnplaw20_TagbyteRoundTrip.j1 kj2 a0 t166 t170 (t184 != (decide (t170 ≥ 7))))) else (capnplaw20_TagbyteRoundTrip.j1 kj2 a0 t166 t170 true)) else (capnplaw20_TagbyteRoundTrip.j1 kj2 a0 t166 t170 true)) else (capnplaw20_TagbyteRoundTrip.j1 kj2 a0 t166 t170 true)) else (capnplaw20_TagbyteRoundTrip.j1 kj2 a0 t166 t170 true))) else (none))) else (none))))) = some r := H
        have A12 := Aside0.mk A120
        clear A120
        replace H := Option.bind_eq_some_iff.mp H
        obtain ⟨t170, A130, H⟩ := H
        replace H : ((tagbyte_Of.f kj2 a0).bind fun t171 => ((some (([] : List Int) : List Int)).bind fun y172 => (if y172.length + t166.length < 140737488355328 then ((some (y172 ++ t166 : List Int)).bind fun y175 => (if y175.length + l1.length < 140737488355328 then ((tagbyte_Expand.f kj2 t171 (y175 ++ l1)).bind fun bt181 => (if (t166.length : Int) = t170 then (if bt181.2.2 = true then (if bt181.1 = a0 then (if bt181.2.1 = t170 then ((tagbyte_Dense.f kj2 a0).bind fun t184 => (capnplaw20_TagbyteRoundTrip.j1 kj2 a0 t166 t170 (t184 != (decide (t170 ≥ 7))))) else (capnplaw20_TagbyteRoundTrip.j1 kj2 a0 t166 t170 true)) else (capnplaw20_TagbyteRoundTrip.j1 kj2 a0 t166 t170 true)) else (capnplaw20_TagbyteRoundTrip.j1 kj2 a0 t166 t170 true)) else (capnplaw20_TagbyteRoundTrip.j1 kj2 a0 t166 t170 true))) else (none))) else (none)))) = some r := H
        have A13 := Aside0.mk A130
        clear A130
        replace H := Option.bind_eq_some_iff.mp H
        obtain ⟨t171, A140, H⟩ := H
        replace H : ((some (([] : List Int) : List Int)).bind fun y172 => (if y172.length + t166.length < 140737488355328 then ((some (y172 ++ t166 : List Int)).bind fun y175 => (if y175.length + l1.length < 140737488355328 then ((tagbyte_Expand.f kj2 t171 (y175 ++ l1)).bind fun bt181 => (if (t166.length : Int) = t170 then (if bt181.2.2 = true then (if bt181.1 = a0 then (if bt181.2.1 = t170 then ((tagbyte_Dense.f kj2 a0).bind fun t184 => (capnplaw20_TagbyteRoundTrip.j1 kj2 a0 t166 t170 (t184 != (decide (t170 ≥ 7))))) else (capnplaw20_TagbyteRoundTrip.j1 kj2 a0 t166 t170 true)) else (capnplaw20_TagbyteRoundTrip.j1 kj2 a0 t166 t170 true)) else (capnplaw20_TagbyteRoundTrip.j1 kj2 a0 t166 t170 true)) else (capnplaw20_TagbyteRoundTrip.j1 kj2 a0 t166 t170 true))) else (none))) else (none))) = some r := H
        have A14 := Aside0.mk A140
        clear A140
        obtain ⟨y172, hy172⟩ : ∃ y_ : List Int, y_ = (([] : List Int)) := ⟨_, rfl⟩
        replace H : (if y172.length + t166.length < 140737488355328 then ((some (y172 ++ t166 : List Int)).bind fun y175 => (if y175.length + l1.length < 140737488355328 then ((tagbyte_Expand.f kj2 t171 (y175 ++ l1)).bind fun bt181 => (if (t166.length : Int) = t170 then (if bt181.2.2 = true then (if bt181.1 = a0 then (if bt181.2.1 = t170 then ((tagbyte_Dense.f kj2 a0).bind fun t184 => (capnplaw20_TagbyteRoundTrip.j1 kj2 a0 t166 t170 (t184 != (decide (t170 ≥ 7))))) else (capnplaw20_TagbyteRoundTrip.j1 kj2 a0 t166 t170 true)) else (capnplaw20_TagbyteRoundTrip.j1 kj2 a0 t166 t170 true)) else (capnplaw20_TagbyteRoundTrip.j1 kj2 a0 t166 t170 true)) else (capnplaw20_TagbyteRoundTrip.j1 kj2 a0 t166 t170 true))) else (none))) else (none)) = some r := by first | (rw [hy172]; with_reducible exact H) | (have H2_ := (Option.bind_some _ _).symm.trans H; rw [hy172]; with_reducible exact H2_) | (have H2_ := (Option.bind_some _ _).symm.trans H; with_reducible exact H2_) | with_reducible exact H | (rw [hy172]; exact H) | exact H
        have Ny172 := Aside0.mk hy172
        clear hy172
        by_cases c15 : y172.length + t166.length < 140737488355328
        · rw [if_pos c15] at H
          have LMc15 := Aside0.mk c15
          clear c15
          obtain ⟨y175, hy175⟩ : ∃ y_ : List Int, y_ = (y172 ++ t166) := ⟨_, rfl⟩
          replace H : (if y175.length + l1.length < 140737488355328 then ((tagbyte_Expand.f kj2 t171 (y175 ++ l1)).bind fun bt181 => (if (t166.length : Int) = t170 then (if bt181.2.2 = true then (if bt181.1 = a0 then (if bt181.2.1 = t170 then ((tagbyte_Dense.f kj2 a0).bind fun t184 => (capnplaw20_TagbyteRoundTrip.j1 kj2 a0 t166 t170 (t184 != (decide (t170 ≥ 7))))) else (capnplaw20_TagbyteRoundTrip.j1 kj2 a0 t166 t170 true)) else (capnplaw20_TagbyteRoundTrip.j1 kj2 a0 t166 t170 true)) else (capnplaw20_TagbyteRoundTrip.j1 kj2 a0 t166 t170 true)) else (capnplaw20_TagbyteRoundTrip.j1 kj2 a0 t166 t170 true))) else (none)) = some r := by first | (rw [hy175]; with_reducible exact H) | (have H2_ := (Option.bind_some _ _).symm.trans H; rw [hy175]; with_reducible exact H2_) | (have H2_ := (Option.bind_some _ _).symm.trans H; with_reducible exact H2_) | with_reducible exact H | (rw [hy175]; exact H) | exact H
          have Ny175 := Aside0.mk hy175
          clear hy175
          by_cases c16 : y175.length + l1.length < 140737488355328
          · rw [if_pos c16] at H
            have LMc16 := Aside0.mk c16
            clear c16
            obtain ⟨y178, hy178⟩ : ∃ y_ : List Int, y_ = (y175 ++ l1) := ⟨_, rfl⟩
            replace H : ((tagbyte_Expand.f kj2 t171 y178).bind fun bt181 => (if (t166.length : Int) = t170 then (if bt181.2.2 = true then (if bt181.1 = a0 then (if bt181.2.1 = t170 then ((tagbyte_Dense.f kj2 a0).bind fun t184 => (capnplaw20_TagbyteRoundTrip.j1 kj2 a0 t166 t170 (t184 != (decide (t170 ≥ 7))))) else (capnplaw20_TagbyteRoundTrip.j1 kj2 a0 t166 t170 true)) else (capnplaw20_TagbyteRoundTrip.j1 kj2 a0 t166 t170 true)) else (capnplaw20_TagbyteRoundTrip.j1 kj2 a0 t166 t170 true)) else (capnplaw20_TagbyteRoundTrip.j1 kj2 a0 t166 t170 true))) = some r := by first | (rw [hy178]; with_reducible exact H) | (have H2_ := (Option.bind_some _ _).symm.trans H; rw [hy178]; with_reducible exact H2_) | (have H2_ := (Option.bind_some _ _).symm.trans H; with_reducible exact H2_) | with_reducible exact H | (rw [hy178]; exact H) | exact H
            have Ny178 := Aside0.mk hy178
            clear hy178
            replace H := Option.bind_eq_some_iff.mp H
            obtain ⟨⟨t181, t182, t183⟩, A170, H⟩ := H
            replace H : (if (t166.length : Int) = t170 then (if t183 = true then (if t181 = a0 then (if t182 = t170 then ((tagbyte_Dense.f kj2 a0).bind fun t184 => (capnplaw20_TagbyteRoundTrip.j1 kj2 a0 t166 t170 (t184 != (decide (t170 ≥ 7))))) else (capnplaw20_TagbyteRoundTrip.j1 kj2 a0 t166 t170 true)) else (capnplaw20_TagbyteRoundTrip.j1 kj2 a0 t166 t170 true)) else (capnplaw20_TagbyteRoundTrip.j1 kj2 a0 t166 t170 true)) else (capnplaw20_TagbyteRoundTrip.j1 kj2 a0 t166 t170 true)) = some r := H
            have A17 := Aside0.mk A170
            clear A170
            have HC18 := Aside0.mk H
            clear H
            go_upto_region 6 with (first | ((with_reducible refine gate_callee (f := 20) rfl ?_); refine goesL_ (some 22) rfl rfl Try.func20 (by kernel_rfl) rfl #[.int .u64 a0] rfl (by (try simp only [List.map_toArray, List.map_cons, List.map_nil]); first | done | rfl | (simp only [List.length_drop, List.length_take]; rfl)) ?_; (with_reducible refine (tagbyte_Bytes.calls kj2 a0 t166 _ A11.out).mono ?_); rintro e w19 ⟨v167, rfl, ho0, hb⟩; refine ⟨_, rfl, ?_⟩; have n0_ := Aside0.mk (Kd.R_lower ho0 (below_size (by repeat (first | (with_reducible first | exact HB.out | apply below_alloc | apply pw_below_drewN | apply below_drew1) | exact HB.out)))); have n1_ := Aside0.mk (below_step (by repeat (first | (with_reducible first | exact HB.out | apply below_alloc | apply pw_below_drewN | apply below_drew1) | exact HB.out)) hb); clear HB; have HO168 := n0_; have HB := n1_; clear n0_ n1_; (try clear hb); (try clear hb2); (try clear hk); (try clear hi); (try clear ho0)) | ((with_reducible refine gate_callee (f := 17) rfl ?_); refine goesL_ (some 24) rfl rfl Try.func17 (by kernel_rfl) rfl #[.int .u64 a0] rfl (by (try simp only [List.map_toArray, List.map_cons, List.map_nil]); first | done | rfl | (simp only [List.length_drop, List.length_take]; rfl)) ?_; (with_reducible refine (tagbyte_Of.calls kj2 a0 t169 _ A12.out).mono ?_); rintro e w20 ⟨rfl, hb⟩; refine ⟨_, rfl, ?_⟩; have n0_ := Aside0.mk (Kd.R_below (by (with_reducible repeat (first | apply Kd.R_alloc | apply Kd.R_drewN | apply Kd.R_drew)); exact HO168.out) hb); have n1_ := Aside0.mk (below_step (by repeat (first | (with_reducible first | exact HB.out | apply below_alloc | apply pw_below_drewN | apply below_drew1) | exact HB.out)) hb); clear HO168; clear HB; have HO168 := n0_; have HB := n1_; clear n0_ n1_; (try clear hb); (try clear hb2); (try clear hk); (try clear hi)) | ((with_reducible refine gate_callee (f := 22) rfl ?_); refine goesL_ (some 25) rfl rfl Try.func22 (by kernel_rfl) rfl #[.int .u8 t169] rfl (by (try simp only [List.map_toArray, List.map_cons, List.map_nil]); first | done | rfl | (simp only [List.length_drop, List.length_take]; rfl)) ?_; (with_reducible refine (tagbyte_Ones.calls t169 t170 _ A13.out).mono ?_); rintro e w' ⟨rfl, ⟨nd, rfl⟩⟩; refine ⟨_, rfl, ?_⟩) | ((with_reducible refine gate_callee (f := 17) rfl ?_); refine goesL_ (some 28) rfl rfl Try.func17 (by kernel_rfl) rfl #[.int .u64 a0] rfl (by (try simp only [List.map_toArray, List.map_cons, List.map_nil]); first | done | rfl | (simp only [List.length_drop, List.length_take]; rfl)) ?_; (with_reducible refine (tagbyte_Of.calls kj2 a0 t171 _ A14.out).mono ?_); rintro e w21 ⟨rfl, hb⟩; refine ⟨_, rfl, ?_⟩; have n0_ := Aside0.mk (Kd.R_below (by (with_reducible repeat (first | apply Kd.R_alloc | apply Kd.R_drewN | apply Kd.R_drew)); exact HO168.out) hb); have n1_ := Aside0.mk (below_step (by repeat (first | (with_reducible first | exact HB.out | apply below_alloc | apply pw_below_drewN | apply below_drew1) | exact HB.out)) hb); clear HO168; clear HB; have HO168 := n0_; have HB := n1_; clear n0_ n1_; (try clear hb); (try clear hb2); (try clear hk); (try clear hi)) | ((with_reducible refine gate_dst (N := 29) rfl ?_); (try (refine gate_guard (by rfl) ?_; dsimp only)); refine Kd.R_lit (Kd.int .u8) _ 5 ?hg (N := 29) ?hd (xs := ([] : List Int)) (inner := []) (ok := fun _ => True) (okp := fun _ => True) ?hr ?hp (fun _ hk => hk) trivial (Below.refl _ _) (Nat.le_refl _) (by simp) ?_; (case hd => rfl); (case hg => rfl); (case hr => first | (go_simp; done) | (go_simp; rfl)); (case hp => exact (Reps.none _ _)); intro v173 w22 ho23 hb hg_ hnew_; clear hg_ hnew_; (first | rw [← Ny172.out] at ho23 | (simp only [Int.reduceToNat] at ho23; rw [← Ny172.out] at ho23)); have n0_ := Aside0.mk (Kd.R_elder' (by (with_reducible repeat (first | apply Kd.R_alloc | apply Kd.R_drewN | apply Kd.R_drew)); exact HO168.out) (Kd.R_base ho23) hb); have n1_ := Aside0.mk (Kd.R_lower (Kd.R_new' ho23 (Kd.R_lt (by (with_reducible repeat (first | apply Kd.R_alloc | apply Kd.R_drewN | apply Kd.R_drew)); exact HO168.out))) (below_size (by repeat (first | (with_reducible first | exact HB.out | apply below_alloc | apply pw_below_drewN | apply below_drew1) | exact HB.out)))); have n2_ := Aside0.mk (below_step (by repeat (first | (with_reducible first | exact HB.out | apply below_alloc | apply pw_below_drewN | apply below_drew1) | exact HB.out)) hb); clear HO168; clear HB; have HO168 := n0_; have HO174 := n1_; have HB := n2_; clear n0_ n1_ n2_; clear hb ho23; obtain ⟨Ao25, co25, eo25⟩ := Kd.R_slice HO168.out; subst eo25) | ((with_reducible refine gate_builtin (b := .append) (xs := #[.tmp 29, .tmp 30]) rfl ?_); (try (refine gate_guard (by rfl) ?_; dsimp only)); at_builtin; refine Kd.R_append_rows (Kd.int .u8) (w0 := w) w.heap.size rfl (.tmp 29) (.tmp 30) 23 5 (.int .u8 0) 1 rfl Try.underlying23 info5 rfl (by decide) (by omega) v173 y172 t166 _ _ _ (fun k_ => some k_ ≠ (.slice Ao25 t166.length co25 : Value).ownBlock) (fun _ => False) rfl rfl ?aO ?aR (fun _ _ h => h) (fun _ h => h.elim) ?aF ?aB ?aS ?aL ?_; (case aR => repeat (first | exact (Kd.R_reads' HO168.out).2.2 | (with_reducible refine Kd.C_alloc ?_ _) | (with_reducible refine Kd.C_drewN ?_ _) | (with_reducible refine Kd.C_drew ?_))); (case aB => exact (by repeat (first | (with_reducible first | exact HB.out | apply below_alloc | apply pw_below_drewN | apply below_drew1) | exact HB.out))); (case aF => exact (fun k_ hk => Kd.fresh' (Kd.R_lt (by (with_reducible repeat (first | apply Kd.R_alloc | apply Kd.R_drewN | apply Kd.R_drew)); exact HO168.out)) k_ hk)); (case aO => exact (by (with_reducible repeat (first | apply Kd.R_alloc | apply Kd.R_drewN | apply Kd.R_drew)); exact Kd.R_mono HO174.out (fun _ hk => hk.2))); (case aS => exact (below_size (by repeat (first | (with_reducible first | exact HB.out | apply below_alloc | apply pw_below_drewN | apply below_drew1) | exact HB.out)))); (case aL => have := LMc15.out; omega); intro v176 w24 ho hb hg hat; rw [← Ny175.out] at ho; have n0_ := Aside0.mk (Kd.R_after (ok := (fun _ => True)) (by (with_reducible repeat (first | apply Kd.R_alloc | apply Kd.R_drewN | apply Kd.R_drew)); exact HO168.out) hg hat); have n1_ := Aside0.mk (hb); have n2_ := Aside0.mk (ho); clear HO168; clear HB; clear HO174; have HO168 := n0_; have HB := n1_; have HO177 := n2_; clear n0_ n1_ n2_; clear ho hb hg hat) | ((with_reducible refine gate_builtin (b := .append) (xs := #[.tmp 31, .tmp 32]) rfl ?_); (try (refine gate_guard (by rfl) ?_; dsimp only)); at_builtin; refine Kd.R_append_rows (Kd.int .u8) (w0 := w) w.heap.size rfl (.tmp 31) (.tmp 32) 23 5 (.int .u8 0) 1 rfl Try.underlying23 info5 rfl (by decide) (by omega) v176 y175 l1 _ _ _ (fun k_ => some k_ ≠ (.slice Ao25 t166.length co25 : Value).ownBlock) (fun _ => False) rfl rfl ?aO ?aR (fun _ _ h => h) (fun _ h => h.elim) ?aF ?aB ?aS ?aL ?_; (case aR => repeat (first | exact (Kd.C_below HR1.out HB.out) | (with_reducible refine Kd.C_alloc ?_ _) | (with_reducible refine Kd.C_drewN ?_ _) | (with_reducible refine Kd.C_drew ?_))); (case aB => exact (by repeat (first | (with_reducible first | exact HB.out | apply below_alloc | apply pw_below_drewN | apply below_drew1) | exact HB.out))); (case aF => exact (fun k_ hk => Kd.fresh' (Kd.R_lt (by (with_reducible repeat (first | apply Kd.R_alloc | apply Kd.R_drewN | apply Kd.R_drew)); exact HO168.out)) k_ hk)); (case aO => exact (by (with_reducible repeat (first | apply Kd.R_alloc | apply Kd.R_drewN | apply Kd.R_drew)); exact HO177.out)); (case aS => exact (below_size (by repeat (first | (with_reducible first | exact HB.out | apply below_alloc | apply pw_below_drewN | apply below_drew1) | exact HB.out)))); (case aL => have := LMc16.out; omega); intro v179 w26 ho hb hg hat; rw [← Ny178.out] at ho; have n0_ := Aside0.mk (Kd.R_after (ok := (fun _ => True)) (by (with_reducible repeat (first | apply Kd.R_alloc | apply Kd.R_drewN | apply Kd.R_drew)); exact HO168.out) hg hat); have n1_ := Aside0.mk (hb); have n2_ := Aside0.mk (ho); clear HO168; clear HB; clear HO177; have HO168 := n0_; have HB := n1_; have HO180 := n2_; clear n0_ n1_ n2_; clear ho hb hg hat; obtain ⟨Ao27, co27, eo27⟩ := Kd.R_slice HO180.out; subst eo27) | ((with_reducible refine gate_callee (f := 15) rfl ?_); refine goesL_ (some 34) rfl rfl Try.func15 (by kernel_rfl) rfl #[.int .u8 t171, .slice Ao27 y178.length co27] rfl (by (try simp only [List.map_toArray, List.map_cons, List.map_nil]); first | done | rfl | (simp only [List.length_drop, List.length_take]; rfl)) ?_; (with_reducible refine (tagbyte_Expand.calls kj2 t171 _ _ y178 t181 t182 t183 _ ?side1 ?side2 A17.out).mono ?_); (case side1 => repeat (first | exact (Kd.R_reads' HO180.out).2.2 | (with_reducible refine Kd.C_alloc ?_ _) | (with_reducible refine Kd.C_drewN ?_ _) | (with_reducible refine Kd.C_drew ?_))); (case side2 => exact (Kd.R_reads' HO180.out).2.1); rintro e w' ⟨rfl, ⟨nd, rfl⟩⟩; refine ⟨_, rfl, ?_⟩))
            (try simp only [Act.put, List.setIfInBounds_toArray, List.set_cons_zero, List.set_cons_succ])
            go_cut [62] (fun v62 wc => ∃ (kq : Nat) (x62_17 : Bool), v62 = .bool x62_17 ∧ Aside0 (capnplaw20_TagbyteRoundTrip.j1 kq a0 t166 t170 x62_17 = some r) ∧ Aside0 (kq ≤ kj2) ∧ Aside0 (Kd.R (Kd.int .u8) 5 wc w.heap.size (fun _ => True) (.slice Ao25 t166.length co25) t166) ∧ Aside0 (Below w.heap.size w wc))
            case first =>
              have H := HC18.out
              clear HC18
              by_cases c28 : (t166.length : Int) = t170
              · rw [if_pos c28] at H
                have c28b0 : ((t166.length : Int) == t170) = true := beq_iff_eq.mpr c28
                have c28b1 : ((t166.length : Int) != t170) = false := bne_eq_false_iff_eq.mpr c28
                clear c28
                (first | rw [c28b0] | (simp only [i64_w, i32_w]; rw [c28b0]) | skip)
                by_cases c29 : t183 = true
                · subst c29
                  have H1 : (if t181 = a0 then (if t182 = t170 then ((tagbyte_Dense.f kj2 a0).bind fun t184 => (capnplaw20_TagbyteRoundTrip.j1 kj2 a0 t166 t170 (t184 != (decide (t170 ≥ 7))))) else (capnplaw20_TagbyteRoundTrip.j1 kj2 a0 t166 t170 true)) else (capnplaw20_TagbyteRoundTrip.j1 kj2 a0 t166 t170 true)) = some r := by rw [if_pos rfl] at H; exact H
                  clear H
                  have H := H1
                  clear H1
                  by_cases c30 : t181 = a0
                  · rw [if_pos c30] at H
                    have c30b0 : (t181 == a0) = true := beq_iff_eq.mpr c30
                    have c30b1 : (t181 != a0) = false := bne_eq_false_iff_eq.mpr c30
                    clear c30
                    by_cases c31 : t182 = t170
                    · rw [if_pos c31] at H
                      have c31b0 : (t182 == t170) = true := beq_iff_eq.mpr c31
                      have c31b1 : (t182 != t170) = false := bne_eq_false_iff_eq.mpr c31
                      clear c31
                      replace H := Option.bind_eq_some_iff.mp H
                      obtain ⟨t184, A320, H⟩ := H
                      replace H : (capnplaw20_TagbyteRoundTrip.j1 kj2 a0 t166 t170 (t184 != (decide (t170 ≥ 7)))) = some r := H
                      have A32 := Aside0.mk A320
                      clear A320
                      have H' := Aside0.mk H
                      clear H
                      go_wp2_with (first | (go_at_call 24; (with_reducible refine (tagbyte_Dense.calls kj2 a0 t184 _ A32.out).mono ?_); rintro e w33 ⟨rfl, hb⟩; have n0_ := Aside0.mk (Kd.R_below (by (with_reducible repeat (first | apply Kd.R_alloc | apply Kd.R_drewN | apply Kd.R_drew)); exact HO168.out) hb); have n1_ := Aside0.mk (Kd.R_below (by (with_reducible repeat (first | apply Kd.R_alloc | apply Kd.R_drewN | apply Kd.R_drew)); exact HO180.out) hb); have n2_ := Aside0.mk (below_step (by repeat (first | (with_reducible first | exact HB.out | apply below_alloc | apply pw_below_drewN | apply below_drew1) | exact HB.out)) hb); clear HO168; clear HO180; clear HB; have HO168 := n0_; have HO180 := n1_; have HB := n2_; clear n0_ n1_ n2_; (try clear hb); (try clear hb2); (try clear hk); (try clear hi)))
                      go_meet
                      case rel => exact ⟨_, ((t184 != (decide (t170 ≥ 7)))), (by first | rfl | (simp; done) | (simp [*]; done)), H', ⟨by have := HJ2.out; first | omega | exact Nat.le_refl _⟩, ⟨by (with_reducible repeat (first | apply Kd.R_alloc | apply Kd.R_drewN | apply Kd.R_drew)); exact Kd.R_mono HO168.out (fun _ hk => trivial)⟩, ⟨by repeat (first | (with_reducible first | exact HB.out | apply below_alloc | apply pw_below_drewN | apply below_drew1) | exact HB.out)⟩⟩
                    · rw [if_neg c31] at H
                      have c31b0 : (t182 == t170) = false := beq_eq_false_iff_ne.mpr c31
                      have c31b1 : (t182 != t170) = true := bne_iff_ne.mpr c31
                      have H' := Aside0.mk H
                      clear H
                      go_wp2
                      go_meet
                      case rel => exact ⟨_, (true), (by first | rfl | (simp; done) | (simp [*]; done)), H', ⟨by have := HJ2.out; first | omega | exact Nat.le_refl _⟩, ⟨by (with_reducible repeat (first | apply Kd.R_alloc | apply Kd.R_drewN | apply Kd.R_drew)); exact Kd.R_mono HO168.out (fun _ hk => trivial)⟩, ⟨by repeat (first | (with_reducible first | exact HB.out | apply below_alloc | apply pw_below_drewN | apply below_drew1) | exact HB.out)⟩⟩
                  · rw [if_neg c30] at H
                    have c30b0 : (t181 == a0) = false := beq_eq_false_iff_ne.mpr c30
                    have c30b1 : (t181 != a0) = true := bne_iff_ne.mpr c30
                    have H' := Aside0.mk H
                    clear H
                    go_wp2
                    go_meet
                    case rel => exact ⟨_, (true), (by first | rfl | (simp; done) | (simp [*]; done)), H', ⟨by have := HJ2.out; first | omega | exact Nat.le_refl _⟩, ⟨by (with_reducible repeat (first | apply Kd.R_alloc | apply Kd.R_drewN | apply Kd.R_drew)); exact Kd.R_mono HO168.out (fun _ hk => trivial)⟩, ⟨by repeat (first | (with_reducible first | exact HB.out | apply below_alloc | apply pw_below_drewN | apply below_drew1) | exact HB.out)⟩⟩
                · replace c29 := Bool.eq_false_iff.mpr c29
                  subst c29
                  have H1 : (capnplaw20_TagbyteRoundTrip.j1 kj2 a0 t166 t170 true) = some r := by rw [if_neg (show ¬ (false = true) by decide)] at H; exact H
                  clear H
                  have H := H1
                  clear H1
                  have H' := Aside0.mk H
                  clear H
                  go_wp2
                  go_meet
                  case rel => exact ⟨_, (true), (by first | rfl | (simp; done) | (simp [*]; done)), H', ⟨by have := HJ2.out; first | omega | exact Nat.le_refl _⟩, ⟨by (with_reducible repeat (first | apply Kd.R_alloc | apply Kd.R_drewN | apply Kd.R_drew)); exact Kd.R_mono HO168.out (fun _ hk => trivial)⟩, ⟨by repeat (first | (with_reducible first | exact HB.out | apply below_alloc | apply pw_below_drewN | apply below_drew1) | exact HB.out)⟩⟩
              · rw [if_neg c28] at H
                have c28b0 : ((t166.length : Int) == t170) = false := beq_eq_false_iff_ne.mpr c28
                have c28b1 : ((t166.length : Int) != t170) = true := bne_iff_ne.mpr c28
                (first | rw [c28b0] | (simp only [i64_w, i32_w]; rw [c28b0]) | skip)
                have H' := Aside0.mk H
                clear H
                go_wp2
                go_meet
                case rel => exact ⟨_, (true), (by first | rfl | (simp; done) | (simp [*]; done)), H', ⟨by have := HJ2.out; first | omega | exact Nat.le_refl _⟩, ⟨by (with_reducible repeat (first | apply Kd.R_alloc | apply Kd.R_drewN | apply Kd.R_drew)); exact Kd.R_mono HO168.out (fun _ hk => trivial)⟩, ⟨by repeat (first | (with_reducible first | exact HB.out | apply below_alloc | apply pw_below_drewN | apply below_drew1) | exact HB.out)⟩⟩
            case rest =>
              clear HC18
              try clear c1
              try clear c2
              try clear p2
              try clear c3
              try clear c4
              try clear c5
              try clear c8
              try clear c14
              try clear c15
              try clear c16
              try clear c17
              try clear c20
              try clear c22
              try clear c28
              try clear c28b0
              try clear c28b1
              try clear c29
              try clear c30
              try clear c30b0
              try clear c30b1
              try clear c31
              try clear c31b0
              try clear c31b1
              try clear p2
              obtain ⟨kq, x62_17, rfl, HA, HJ17, HO_5, HB⟩ := hcut
              cases kq with
              | zero => exact absurd HA.out (by simp [capnplaw20_TagbyteRoundTrip.j1])
              | succ kj17 =>
                have H := HA.out
                clear HA
                simp only [capnplaw20_TagbyteRoundTrip.j1] at H
                by_cases c34 : x62_17 = true
                · subst c34
                  have H1 : (some false) = some r := by rw [if_pos rfl] at H; exact H
                  clear H
                  have H := H1
                  clear H1
                  obtain rfl := Option.some.inj H
                  go_wp2
                  go_ret
                  exact ⟨by first | rfl | (simp [errW_none, errW_some] <;> rfl) | (simp [*, errW_none, errW_some] <;> rfl), by repeat (first | (with_reducible first | exact HB.out | apply below_alloc | apply pw_below_drewN | apply below_drew1) | exact HB.out)⟩
                · replace c34 := Bool.eq_false_iff.mpr c34
                  subst c34
                  have H1 : (if t170 = 0 then (some (a0 == 0)) else ((tagbyte_Of.f kj17 a0).bind fun t185 => (if 0 ≤ (wrap64 (t170 - 1)) then (if (wrap64 (t170 - 1)) ≤ (t166.length : Int) then ((tagbyte_Expand.f kj17 t185 (t166.take ((wrap64 (t170 - 1)) : Int).toNat)).bind fun bt190 => (some (!bt190.2.2))) else (none)) else (none)))) = some r := by rw [if_neg (show ¬ (false = true) by decide)] at H; exact H
                  clear H
                  have H := H1
                  clear H1
                  by_cases c35 : t170 = 0
                  · rw [if_pos c35] at H
                    have c35b0 : (t170 == 0) = true := beq_iff_eq.mpr c35
                    have c35b1 : (t170 != 0) = false := bne_eq_false_iff_eq.mpr c35
                    clear c35
                    obtain rfl := Option.some.inj H
                    go_wp2
                    go_ret
                    exact ⟨by first | rfl | (simp [errW_none, errW_some] <;> rfl) | (simp [*, errW_none, errW_some] <;> rfl), by repeat (first | (with_reducible first | exact HB.out | apply below_alloc | apply pw_below_drewN | apply below_drew1) | exact HB.out)⟩
                  · rw [if_neg c35] at H
                    have c35b0 : (t170 == 0) = false := beq_eq_false_iff_ne.mpr c35
                    have c35b1 : (t170 != 0) = true := bne_iff_ne.mpr c35
                    replace H := Option.bind_eq_some_iff.mp H
                    obtain ⟨t185, A360, H⟩ := H
                    replace H : (if 0 ≤ (wrap64 (t170 - 1)) then (if (wrap64 (t170 - 1)) ≤ (t166.length : Int) then ((tagbyte_Expand.f kj17 t185 (t166.take ((wrap64 (t170 - 1)) : Int).toNat)).bind fun bt190 => (some (!bt190.2.2))) else (none)) else (none)) = some r := H
                    have A36 := Aside0.mk A360
                    clear A360
                    obtain ⟨ji37, hji37⟩ : ∃ j_ : Int, (wrap64 (t170 - 1)) = j_ := ⟨_, rfl⟩
                    replace H : (if 0 ≤ (ji37) then (if (ji37) ≤ (t166.length : Int) then ((tagbyte_Expand.f kj17 t185 (t166.take ((ji37) : Int).toNat)).bind fun bt190 => (some (!bt190.2.2))) else (none)) else (none)) = some r := by first | (rw [hji37] at H; exact H) | (simp only [hji37] at H ⊢; exact H)
                    (try rw [hji37] at A36)
                    have hji37w : (IntKind.i64.wrap (t170 - 1)) = ji37 := (i64_w _).trans hji37
                    by_cases c38 : 0 ≤ (ji37)
                    · rw [if_pos c38] at H
                      have c38b0 := eq_true c38
                      have c38b1 : decide (0 ≤ (ji37)) = true := decide_eq_true c38
                      clear c38
                      by_cases c39 : (ji37) ≤ (t166.length : Int)
                      · rw [if_pos c39] at H
                        have c39b0 := eq_true c39
                        have c39b1 : decide ((ji37) ≤ (t166.length : Int)) = true := decide_eq_true c39
                        clear c39
                        obtain ⟨y186, hy186⟩ : ∃ y_ : List Int, y_ = (t166.take ((ji37) : Int).toNat) := ⟨_, rfl⟩
                        replace H : ((tagbyte_Expand.f kj17 t185 y186).bind fun bt190 => (some (!bt190.2.2))) = some r := by first | (rw [hy186]; with_reducible exact H) | (have H2_ := (Option.bind_some _ _).symm.trans H; rw [hy186]; with_reducible exact H2_) | (have H2_ := (Option.bind_some _ _).symm.trans H; with_reducible exact H2_) | with_reducible exact H | (rw [hy186]; exact H) | exact H
                        have Ny186 := Aside0.mk hy186
                        clear hy186
                        replace H := Option.bind_eq_some_iff.mp H
                        obtain ⟨⟨t190, t191, t192⟩, A400, H⟩ := H
                        replace H : (some (!t192)) = some r := H
                        have A40 := Aside0.mk A400
                        clear A400
                        obtain rfl := Option.some.inj H
                        try go_wp2
                        have n0_ := Aside0.mk (Kd.R_drew HO_5.out)
                        have n1_ := Aside0.mk (below_drew1 HB.out)
                        clear HO_5
                        clear HB
                        have HO_5 := n0_
                        have HB := n1_
                        clear n0_ n1_
                        have q42 : ((ji37) : Int) ≤ ((t166.length : Int) : Int) := of_decide_eq_true (by first | (with_reducible assumption) | assumption)
                        obtain ⟨i042, hi042, _, hsz42, _⟩ := info_parts info5
                        have hroom42 : t166.length ≤ co25 := (Kd.R_reads' HO_5.out).2.1
                        have hC42 : Kd.C (Kd.int .u8) _ Ao25 t166.length t166 := (Kd.R_reads' HO_5.out).2.2
                        have hcut42 := cut_to (P := Try.prog) 23 5 .i64 Try.underlying23 hi042 Ao25 t166.length co25 (ji37) (of_decide_eq_true (by first | (with_reducible assumption) | assumption)) q42 hroom42
                        have hr42 := Kd.C_take (m := ((ji37) : Int).toNat) hC42 (by omega)
                        have hy42 : y186.length = ((ji37) : Int).toNat := (by rw [Ny186.out, List.length_take]; omega)
                        rw [← Ny186.out] at hr42
                        rw [← hy42] at hcut42
                        have HR189 := Aside0.mk hr42
                        have HC189 := Aside0.mk (show y186.length ≤ co25 from by omega)
                        clear hr42 hC42 hroom42 hi042 hsz42
                        have KY42 := Aside0.mk hy42
                        clear hy42
                        have KL42 := Aside0.mk (show ((ji37) : Int).toNat ≤ t166.length from by omega)
                        replace q42 := eq_true q42
                        refine start_ (n := 14) (S := fun w' => True) (ds := []) #[false, false, false, false, false, false, false, false, false, false, false, false, false, false] (by kernel_rfl) rfl rfl trivial (fun hHeld => ?_); refine with_tabW capnplaw20_TagbyteRoundTrip.tab10 capnplaw20_TagbyteRoundTrip.bits10 (fun HT_ HW_ => ?_)
                        generalize wc.drew = w41 at HO_5 HB HR189 hHeld ⊢
                        refine pure_ (i := 0) (N := some 68) (v := ?_) (a' := ?_) #[true, false, false, false, false, false, false, false, false, false, false, false, false, false] rfl rfl (any_of HT_.out (by kernel_rfl)) (fun _ _ _ h => h) (Or.inl ⟨by rfl, ?_⟩) ?_ ?_
                        rotate_left
                        · intro w'
                          go_simp
                          with_reducible rfl
                        rotate_left
                        · simp only [Act.put, List.setIfInBounds_toArray, List.set_cons_zero, List.set_cons_succ, i64_w, i32_w]
                          rfl
                        refine pure_ (i := 2) (N := some 70) (v := ?_) (a' := ?_) #[true, false, true, false, false, false, false, false, false, false, false, false, false, false] rfl rfl (any_of HT_.out (by kernel_rfl)) (fun _ _ _ h => h) (Or.inl ⟨by rfl, ?_⟩) ?_ ?_
                        rotate_left
                        · intro w'
                          go_simp
                          with_reducible rfl
                        rotate_left
                        · simp only [Act.put, List.setIfInBounds_toArray, List.set_cons_zero, List.set_cons_succ, i64_w, i32_w]
                          rfl
                        refine pure_ (i := 3) (N := some 71) (v := ?_) (a' := ?_) #[true, false, true, true, false, false, false, false, false, false, false, false, false, false] rfl rfl (any_of HT_.out (by kernel_rfl)) (fun _ _ _ h => h) (Or.inl ⟨by rfl, ?_⟩) ?_ ?_
                        rotate_left
                        · intro w'
                          go_simp
                          with_reducible rfl
                        rotate_left
                        · simp only [Act.put, List.setIfInBounds_toArray, List.set_cons_zero, List.set_cons_succ, i64_w, i32_w]
                          rfl
                        refine pure_ (i := 4) (N := some 72) (v := ?_) (a' := ?_) #[true, false, true, true, true, false, false, false, false, false, false, false, false, false] rfl rfl (any_of HT_.out (by kernel_rfl)) (fun _ _ _ h => h) (Or.inl ⟨by rfl, ?_⟩) ?_ ?_
                        rotate_left
                        · intro w'
                          go_simp
                          with_reducible rfl
                        rotate_left
                        · simp only [Act.put, List.setIfInBounds_toArray, List.set_cons_zero, List.set_cons_succ, i64_w, i32_w]
                          rfl
                        refine pure_ (i := 5) (N := some 73) (v := ?_) (a' := ?_) #[true, false, true, true, true, true, false, false, false, false, false, false, false, false] rfl rfl (any_of HT_.out (by kernel_rfl)) (fun _ _ _ h => h) (Or.inl ⟨by rfl, ?_⟩) ?_ ?_
                        rotate_left
                        · intro w'
                          go_simp
                          with_reducible rfl
                        rotate_left
                        · simp only [Act.put, List.setIfInBounds_toArray, List.set_cons_zero, List.set_cons_succ, i64_w, i32_w]
                          rfl
                        refine one_ (i := 1) (N := some 69) #[true, true, true, true, true, true, false, false, false, false, false, false, false, false] rfl rfl (one_of HT_.out (by kernel_rfl)) (by decide) (fun K hK => ?_)
                        refine goes_ Try.func17 (by kernel_rfl) rfl #[.int .u64 a0] (by rfl) rfl rfl (by (try simp only [List.map_toArray, List.map_cons, List.map_nil]); first | done | rfl | (simp only [List.length_drop, List.length_take]; rfl)) ?_
                        with_reducible refine (tagbyte_Of.calls kj17 a0 t185 _ A36.out).mono ?_
                        rintro e w43 ⟨rfl, hb⟩
                        refine ⟨_, rfl, ?_⟩
                        have n0_ := Aside0.mk (Kd.R_below (by (with_reducible repeat (first | apply Kd.R_alloc | apply Kd.R_drewN | apply Kd.R_drew)); exact HO_5.out) hb)
                        have n1_ := Aside0.mk (Kd.C_below (by repeat (first | (with_reducible exact HR189.out) | (with_reducible refine Kd.C_alloc ?_ _) | (with_reducible refine Kd.C_drewN ?_ _) | (with_reducible refine Kd.C_drew ?_) | exact HR189.out)) hb)
                        have n2_ := Aside0.mk (below_step (by repeat (first | (with_reducible first | exact HB.out | apply below_alloc | apply pw_below_drewN | apply below_drew1) | exact HB.out)) hb)
                        clear HO_5
                        clear HR189
                        clear HB
                        have HO_5 := n0_
                        have HR189 := n1_
                        have HB := n2_
                        clear n0_ n1_ n2_
                        (try clear hb)
                        (try clear hb2)
                        (try clear hk)
                        (try clear hi)
                        refine hK.out _ _ trivial (fun hHeld => ?_)
                        clear hK K
                        refine norm_ (a' := ?_) ?_ ?_
                        rotate_left
                        · show Act.put _ (some 69) _ = _
                          simp only [Act.put, List.setIfInBounds_toArray, List.set_cons_zero, List.set_cons_succ, i64_w, i32_w]
                          rfl
                        refine one_ (i := 6) (N := some 74) #[true, true, true, true, true, true, true, false, false, false, false, false, false, false] rfl rfl (one_of HT_.out (by kernel_rfl)) (by decide) (fun K hK => ?_)
                        refine goes_ Try.func15 (by kernel_rfl) rfl #[.int .u8 t185, .slice Ao25 y186.length co25] (by rfl) rfl rfl (by (try simp only [List.map_toArray, List.map_cons, List.map_nil]); first | done | rfl | (simp only [List.length_drop, List.length_take]; rfl)) ?_
                        with_reducible refine (tagbyte_Expand.calls kj17 t185 _ _ y186 t190 t191 t192 _ ?side1 ?side2 A40.out).mono ?_
                        (case side1 => repeat (first | exact (by repeat (first | (with_reducible exact HR189.out) | (with_reducible refine Kd.C_alloc ?_ _) | (with_reducible refine Kd.C_drewN ?_ _) | (with_reducible refine Kd.C_drew ?_) | exact HR189.out)) | (with_reducible refine Kd.C_alloc ?_ _) | (with_reducible refine Kd.C_drewN ?_ _) | (with_reducible refine Kd.C_drew ?_)))
                        (case side2 => exact HC189.out)
                        rintro e w' ⟨rfl, ⟨nd, rfl⟩⟩
                        refine ⟨_, rfl, ?_⟩
                        refine hK.out _ _ trivial (fun hHeld => ?_)
                        clear hK K
                        refine norm_ (a' := ?_) ?_ ?_
                        rotate_left
                        · show Act.put _ (some 74) _ = _
                          simp only [Act.put, List.setIfInBounds_toArray, List.set_cons_zero, List.set_cons_succ, i64_w, i32_w]
                          rfl
                        refine pure_ (i := 7) (N := some 67) (v := ?_) (a' := ?_) #[true, true, true, true, true, true, true, true, false, false, false, false, false, false] rfl rfl (any_of HT_.out (by kernel_rfl)) (fun _ _ _ h => h) (Or.inl ⟨by rfl, ?_⟩) ?_ ?_
                        rotate_left
                        · intro w'
                          go_simp
                          with_reducible rfl
                        rotate_left
                        · simp only [Act.put, List.setIfInBounds_toArray, List.set_cons_zero, List.set_cons_succ, i64_w, i32_w]
                          rfl
                        refine pure_ (i := 8) (N := some 75) (v := ?_) (a' := ?_) #[true, true, true, true, true, true, true, true, true, false, false, false, false, false] rfl rfl (any_of HT_.out (by kernel_rfl)) (fun _ _ _ h => h) (Or.inl ⟨by rfl, ?_⟩) ?_ ?_
                        rotate_left
                        · intro w'
                          go_simp
                          with_reducible rfl
                        rotate_left
                        · simp only [Act.put, List.setIfInBounds_toArray, List.set_cons_zero, List.set_cons_succ, i64_w, i32_w]
                          rfl
                        refine pure_ (i := 9) (N := some 76) (v := ?_) (a' := ?_) #[true, true, true, true, true, true, true, true, true, true, false, false, false, false] rfl rfl (any_of HT_.out (by kernel_rfl)) (fun _ _ _ h => h) (Or.inl ⟨by rfl, ?_⟩) ?_ ?_
                        rotate_left
                        · intro w'
                          go_simp
                          with_reducible rfl
                        rotate_left
                        · simp only [Act.put, List.setIfInBounds_toArray, List.set_cons_zero, List.set_cons_succ, i64_w, i32_w]
                          rfl
                        refine pure_ (i := 10) (N := some 77) (v := ?_) (a' := ?_) #[true, true, true, true, true, true, true, true, true, true, true, false, false, false] rfl rfl (any_of HT_.out (by kernel_rfl)) (fun _ _ _ h => h) (Or.inl ⟨by rfl, ?_⟩) ?_ ?_
                        rotate_left
                        · intro w'
                          go_simp
                          with_reducible rfl
                        rotate_left
                        · simp only [Act.put, List.setIfInBounds_toArray, List.set_cons_zero, List.set_cons_succ, i64_w, i32_w]
                          rfl
                        refine pure_ (i := 11) (N := some 10) (v := ?_) (a' := ?_) #[true, true, true, true, true, true, true, true, true, true, true, true, false, false] rfl rfl (any_of HT_.out (by kernel_rfl)) (fun _ _ _ h => h) (Or.inl ⟨by rfl, ?_⟩) ?_ ?_
                        rotate_left
                        · intro w'
                          go_simp
                          with_reducible rfl
                        rotate_left
                        · simp only [Act.put, List.setIfInBounds_toArray, List.set_cons_zero, List.set_cons_succ, i64_w, i32_w]
                          rfl
                        refine pure_ (i := 12) (N := some 11) (v := ?_) (a' := ?_) #[true, true, true, true, true, true, true, true, true, true, true, true, true, false] rfl rfl (any_of HT_.out (by kernel_rfl)) (fun _ _ _ h => h) (Or.inl ⟨by rfl, ?_⟩) ?_ ?_
                        rotate_left
                        · intro w'
                          go_simp
                          with_reducible rfl
                        rotate_left
                        · simp only [Act.put, List.setIfInBounds_toArray, List.set_cons_zero, List.set_cons_succ, i64_w, i32_w]
                          rfl
                        refine pure_ (i := 13) (N := some 12) (v := ?_) (a' := ?_) #[true, true, true, true, true, true, true, true, true, true, true, true, true, true] rfl rfl (any_of HT_.out (by kernel_rfl)) (fun _ _ _ h => h) (Or.inl ⟨by rfl, ?_⟩) ?_ ?_
                        rotate_left
                        · intro w'
                          go_simp
                          with_reducible rfl
                        rotate_left
                        · simp only [Act.put, List.setIfInBounds_toArray, List.set_cons_zero, List.set_cons_succ, i64_w, i32_w]
                          rfl
                        refine done_ (done_of HT_.out (by kernel_rfl)) ?_
                        try go_wp2
                        go_ret
                        exact ⟨by first | rfl | (simp [errW_none, errW_some] <;> rfl) | (simp only [← hji37]; first | rfl | (simp [errW_none, errW_some] <;> rfl)) | (simp [*, errW_none, errW_some] <;> rfl), by repeat (first | (with_reducible first | exact HB.out | apply below_alloc | apply pw_below_drewN | apply below_drew1) | exact HB.out)⟩
                      · rw [if_neg c39] at H
                        exact absurd H (by simp)
                    · rw [if_neg c38] at H
                      exact absurd H (by simp)
          · rw [if_neg c16] at H
            exact absurd H (by simp)
        · rw [if_neg c15] at H
          exact absurd H (by simp)

/-- THE ONE PURE STATEMENT of capnplaw20_TagbyteRoundTrip: yours. -/
def capnplaw20_TagbyteRoundTrip.Pure : Prop := ∀ (a0 : Int) (l1 : List Int), (Lit.int .u64 a0).wf = true → l1.length ≤ maxLen → l1.length * 1 ≤ 140737488351232 → (∀ x ∈ l1, (Lit.int .u8 x).wf = true) → ∃ k, capnplaw20_TagbyteRoundTrip.f k a0 l1 = some true
theorem capnplaw20_TagbyteRoundTrip.walk (P : capnplaw20_TagbyteRoundTrip.Pure) (a0 : Int) (a1 : Option Addr) (len1 cap1 : Nat) (z1 : List Int) (w : World) (w0 : (Lit.int .u64 a0).wf = true) (w1 : (a1 = none ∧ len1 = 0 ∧ cap1 = 0 ∧ z1 = []) ∨ ∃ x, a1 = some x ∧ len1 ≤ cap1 ∧ cap1 ≤ maxLen ∧ z1.length = cap1 ∧ (∀ i, i < z1.length → w.cell? (x.add i) = some (.int .u8 (z1.getD i 0))) ∧ ∀ n ∈ z1, (Lit.int .u8 n).wf = true) (y1 : len1 * 1 ≤ 140737488351232) :
    Calls Try.prog 4 #[.int .u64 a0, .slice a1 len1 cap1] w fun e w' => e = .returned (.bool true) ∧ Below w.heap.size w w' := by
  obtain ⟨l1, rfl, hr1, hm1, hw1, hc1⟩ := ReadsInt.ofRowC w1
  obtain ⟨k, h⟩ := P a0 l1 w0 hm1 y1 hw1
  refine (capnplaw20_TagbyteRoundTrip.calls k a0 _ _ l1 true w (Kd.C_of_reads (d := (0 : Int)) (h1 := fun _ => rfl) hr1) hc1 h).mono ?_
  rintro e w' ⟨rfl, hd⟩
  exact ⟨rfl, hd⟩

end Go.Proofs.Ytamcadegencfbaa.PTagbyteRoundTrip
