/- Written by myprint.py, a program of this session: printed functions of a law, and the proofs that the Go code comes to them. -/
import Derived.Test.YtcdkgccmmfjnhaaPFrameBijectionx0
import Derived.Test.YtcdkgccmmfjnhaaPFrameBijectionx1
import Derived.Test.YtcdkgccmmfjnhaaPFrameBijectionx2
import Derived.Test.YtcdkgccmmfjnhaaPFrameBijectionx3
namespace Go.Proofs.Ytcdkgccmmfjnhaa.PFrameBijection
open Go.RowKit Go.Proofs.YtcdkgccmmfjnhaaW.PrintWords Go.Proofs.YtcdkgccmmfjnhaaW.PrintLast Go.Proofs.YtcdkgccmmfjnhaaW.PrintMore
open Go.Proofs.Ytcdkgccmmfjnhaa.PFrBase
attribute [local go_sem] max2_int min2_int max_two min_two max_three min_three max_four min_four   -- for this text's walks alone
set_option linter.unusedVariables false
set_option linter.unusedSimpArgs false

/-! ### capnplaw04_FrameBijection: function 4 -/
mutual
def capnplaw04_FrameBijection.j0 : Nat → List Int → List (List Int) → Bool → Option (Bool)
  | 0, _, _, _ => none
  | k + 1, x0, x1, x24 => if x24 = true then ((capnplaw04_awake.f k).bind fun t239 => (some t239)) else ((frame_Serialize.f k x1).bind fun bt240 => (if ((bt240.2 == 0) != (decide ((x1.length : Int) > 0))) = true then (capnplaw04_FrameBijection.j1 k x0 x1 bt240.1 bt240.2 true) else (if bt240.2 = 0 then (capnplaw04_FrameBijection.j1 k x0 x1 bt240.1 bt240.2 false) else (capnplaw04_FrameBijection.j1 k x0 x1 bt240.1 bt240.2 ((bt240.1.length : Int) != 0)))))
def capnplaw04_FrameBijection.j1 : Nat → List Int → List (List Int) → List Int → Int → Bool → Option (Bool)
  | 0, _, _, _, _, _ => none
  | k + 1, x0, x1, x5, x6, x45 => if x45 = true then (some false) else (if x6 = 0 then ((frame_Parse.f x5).bind fun bt244 => (if bt244.2 = 0 then ((capnpref04_Same.f k bt244.1 x1).bind fun t248 => (if t248 = true then (capnplaw04_FrameBijection.j2 k x0) else (some false))) else (some false))) else (capnplaw04_FrameBijection.j2 k x0))
def capnplaw04_FrameBijection.j2 : Nat → List Int → Option (Bool)
  | 0, _ => none
  | k + 1, x0 => (frame_Parse.f x0).bind fun bt249 => (if bt249.2 = 0 then ((frame_Serialize.f k bt249.1).bind fun bt253 => (if bt253.2 = 0 then ((capnpref01_Same.f k bt253.1 x0).bind fun t257 => (if t257 = true then (some (((x0.length : Int) % 8) == 0)) else (none))) else (none))) else (if bt249.2 = 1 then (some ((bt249.1.length : Int) == 0)) else (none)))
end
def capnplaw04_FrameBijection.f (k : Nat) (l0 : List Int) (l1 : List (List Int)) : Option (Bool) := (capnplaw04_awake.f k).bind fun t237 => (if t237 = true then (if (l0.length : Int) > 3000 then (capnplaw04_FrameBijection.j0 k l0 l1 true) else ((capnpref04_Few.f k l1).bind fun t238 => (capnplaw04_FrameBijection.j0 k l0 l1 (!t238)))) else (capnplaw04_FrameBijection.j0 k l0 l1 true))
theorem capnplaw04_FrameBijection.mono_l : ∀ k, (∀ y0 y1 y2, LeO (capnplaw04_FrameBijection.j0 k y0 y1 y2) (capnplaw04_FrameBijection.j0 (k + 1) y0 y1 y2)) ∧ (∀ y0 y1 y2 y3 y4, LeO (capnplaw04_FrameBijection.j1 k y0 y1 y2 y3 y4) (capnplaw04_FrameBijection.j1 (k + 1) y0 y1 y2 y3 y4)) ∧ (∀ y0, LeO (capnplaw04_FrameBijection.j2 k y0) (capnplaw04_FrameBijection.j2 (k + 1) y0))
  | 0 => ⟨fun _ _ _ r h => by simp [capnplaw04_FrameBijection.j0] at h, fun _ _ _ _ _ r h => by simp [capnplaw04_FrameBijection.j1] at h, fun _ r h => by simp [capnplaw04_FrameBijection.j2] at h⟩
  | k + 1 => by
    obtain ⟨ih0, ih1, ih2⟩ := capnplaw04_FrameBijection.mono_l k
    refine ⟨?_, ?_, ?_⟩
    · intro y0 y1 y2
      unfold capnplaw04_FrameBijection.j0
      repeat' first
      | (with_reducible exact ih0 _ _ _)
      | (with_reducible exact ih1 _ _ _ _ _)
      | (with_reducible exact ih2 _)
      | (with_reducible exact capnplaw04_awake.mono _)
      | (with_reducible exact capnpref01_Same.mono _ _ _)
      | (with_reducible exact capnpref04_Few.mono _ _)
      | (with_reducible exact capnpref04_Same.mono _ _ _)
      | (with_reducible exact frame_Serialize.mono _ _)
      | (with_reducible exact LeO.refl _)
      | (with_reducible exact LeO.none _)
      | (with_reducible refine LeO.ite ?_ ?_)
      | (with_reducible refine LeO.bind ?_ (fun _ => ?_))
      | exact ih0 _ _ _
      | exact ih1 _ _ _ _ _
      | exact ih2 _
      | exact capnplaw04_awake.mono _
      | exact capnpref01_Same.mono _ _ _
      | exact capnpref04_Few.mono _ _
      | exact capnpref04_Same.mono _ _ _
      | exact frame_Serialize.mono _ _
      | exact LeO.none _
      | refine LeO.ite ?_ ?_
      | refine LeO.bind ?_ (fun _ => ?_)
    · intro y0 y1 y2 y3 y4
      unfold capnplaw04_FrameBijection.j1
      repeat' first
      | (with_reducible exact ih0 _ _ _)
      | (with_reducible exact ih1 _ _ _ _ _)
      | (with_reducible exact ih2 _)
      | (with_reducible exact capnplaw04_awake.mono _)
      | (with_reducible exact capnpref01_Same.mono _ _ _)
      | (with_reducible exact capnpref04_Few.mono _ _)
      | (with_reducible exact capnpref04_Same.mono _ _ _)
      | (with_reducible exact frame_Serialize.mono _ _)
      | (with_reducible exact LeO.refl _)
      | (with_reducible exact LeO.none _)
      | (with_reducible refine LeO.ite ?_ ?_)
      | (with_reducible refine LeO.bind ?_ (fun _ => ?_))
      | exact ih0 _ _ _
      | exact ih1 _ _ _ _ _
      | exact ih2 _
      | exact capnplaw04_awake.mono _
      | exact capnpref01_Same.mono _ _ _
      | exact capnpref04_Few.mono _ _
      | exact capnpref04_Same.mono _ _ _
      | exact frame_Serialize.mono _ _
      | exact LeO.none _
      | refine LeO.ite ?_ ?_
      | refine LeO.bind ?_ (fun _ => ?_)
    · intro y0
      unfold capnplaw04_FrameBijection.j2
      repeat' first
      | (with_reducible exact ih0 _ _ _)
      | (with_reducible exact ih1 _ _ _ _ _)
      | (with_reducible exact ih2 _)
      | (with_reducible exact capnplaw04_awake.mono _)
      | (with_reducible exact capnpref01_Same.mono _ _ _)
      | (with_reducible exact capnpref04_Few.mono _ _)
      | (with_reducible exact capnpref04_Same.mono _ _ _)
      | (with_reducible exact frame_Serialize.mono _ _)
      | (with_reducible exact LeO.refl _)
      | (with_reducible exact LeO.none _)
      | (with_reducible refine LeO.ite ?_ ?_)
      | (with_reducible refine LeO.bind ?_ (fun _ => ?_))
      | exact ih0 _ _ _
      | exact ih1 _ _ _ _ _
      | exact ih2 _
      | exact capnplaw04_awake.mono _
      | exact capnpref01_Same.mono _ _ _
      | exact capnpref04_Few.mono _ _
      | exact capnpref04_Same.mono _ _ _
      | exact frame_Serialize.mono _ _
      | exact LeO.none _
      | refine LeO.ite ?_ ?_
      | refine LeO.bind ?_ (fun _ => ?_)
theorem capnplaw04_FrameBijection.mono : ∀ a0 a1 k, LeO (capnplaw04_FrameBijection.f k a0 a1) (capnplaw04_FrameBijection.f (k + 1) a0 a1) := by
  intro a0 a1 k
  obtain ⟨ih0, ih1, ih2⟩ := capnplaw04_FrameBijection.mono_l k
  unfold capnplaw04_FrameBijection.f
  repeat' first
      | (with_reducible exact ih0 _ _ _)
      | (with_reducible exact ih1 _ _ _ _ _)
      | (with_reducible exact ih2 _)
      | (with_reducible exact capnplaw04_awake.mono _)
      | (with_reducible exact capnpref01_Same.mono _ _ _)
      | (with_reducible exact capnpref04_Few.mono _ _)
      | (with_reducible exact capnpref04_Same.mono _ _ _)
      | (with_reducible exact frame_Serialize.mono _ _)
      | (with_reducible exact LeO.refl _)
      | (with_reducible exact LeO.none _)
      | (with_reducible refine LeO.ite ?_ ?_)
      | (with_reducible refine LeO.bind ?_ (fun _ => ?_))
      | exact ih0 _ _ _
      | exact ih1 _ _ _ _ _
      | exact ih2 _
      | exact capnplaw04_awake.mono _
      | exact capnpref01_Same.mono _ _ _
      | exact capnpref04_Few.mono _ _
      | exact capnpref04_Same.mono _ _ _
      | exact frame_Serialize.mono _ _
      | exact LeO.none _
      | refine LeO.ite ?_ ?_
      | refine LeO.bind ?_ (fun _ => ?_)
set_option maxHeartbeats 8000000 in
set_option maxRecDepth 100000 in
theorem capnplaw04_FrameBijection.calls (k : Nat) (A0 : Option Addr) (c0 : Nat) (l0 : List Int) (A1 : Option Addr) (c1 : Nat) (l1 : List (List Int)) (r : Bool) (w : World) (hr0 : Kd.C (Kd.int .u8) w A0 l0.length l0) (hc0 : l0.length ≤ c0) (hr1 : Kd.C (Kd.slice 43 (Kd.int .u64)) w A1 l1.length l1) (hc1 : l1.length ≤ c1) (h : capnplaw04_FrameBijection.f k l0 l1 = some r) :
    Calls Try.prog 4 #[.slice A0 l0.length c0, .slice A1 l1.length c1] w fun e w' => e = .returned (.bool r) ∧ Below w.heap.size w w' := by
  have HR0 := Aside0.mk hr0
  have HC0 := Aside0.mk hc0
  clear hr0 hc0
  have HR1 := Aside0.mk hr1
  have HC1 := Aside0.mk hc1
  clear hr1 hc1
  have HB := Aside0.mk (Below.refl w.heap.size w)
  have H : ((capnplaw04_awake.f k).bind fun t237 => (if t237 = true then (if (l0.length : Int) > 3000 then (capnplaw04_FrameBijection.j0 k l0 l1 true) else ((capnpref04_Few.f k l1).bind fun t238 => (capnplaw04_FrameBijection.j0 k l0 l1 (!t238)))) else (capnplaw04_FrameBijection.j0 k l0 l1 true))) = some r := h
  clear h
  have HC3 := Aside0.mk H
  clear H
  go_enter Try.func4, Try.ntmps4
  try simp only [List.append_eq, List.cons_append, List.nil_append]
  go_upto_region 1 with (fail)
  go_cut [24] (fun v24 wc => ∃ (kq : Nat) (x24_2 : Bool), v24 = .bool x24_2 ∧ Aside0 (capnplaw04_FrameBijection.j0 kq l0 l1 x24_2 = some r) ∧ Aside0 (kq ≤ k) ∧ Aside0 (Below w.heap.size w wc))
  case first =>
    have H := HC3.out
    clear HC3
    replace H := Option.bind_eq_some_iff.mp H
    obtain ⟨t237, A40, H⟩ := H
    replace H : (if t237 = true then (if (l0.length : Int) > 3000 then (capnplaw04_FrameBijection.j0 k l0 l1 true) else ((capnpref04_Few.f k l1).bind fun t238 => (capnplaw04_FrameBijection.j0 k l0 l1 (!t238)))) else (capnplaw04_FrameBijection.j0 k l0 l1 true)) = some r := H
    have A4 := Aside0.mk A40
    clear A40
    by_cases c5 : t237 = true
    · subst c5
      have H1 : (if (l0.length : Int) > 3000 then (capnplaw04_FrameBijection.j0 k l0 l1 true) else ((capnpref04_Few.f k l1).bind fun t238 => (capnplaw04_FrameBijection.j0 k l0 l1 (!t238)))) = some r := by rw [if_pos rfl] at H; exact H
      clear H
      have H := H1
      clear H1
      by_cases c6 : (l0.length : Int) > 3000
      · rw [if_pos c6] at H
        have c6b0 : decide (3000 < (l0.length : Int)) = true := decide_eq_true c6
        have c6b1 : decide (3000 < l0.length) = true := decide_eq_true (by omega)
        clear c6
        (first | rw [c6b0] | (simp only [i64_w, i32_w]; rw [c6b0]) | skip)
        have H' := Aside0.mk H
        clear H
        go_wp2_with (first | ((with_reducible refine gate_callee (f := 8) rfl ?_); refine goesL_ (some 13) rfl rfl Try.func8 (by kernel_rfl) rfl #[] rfl (by (try simp only [List.map_toArray, List.map_cons, List.map_nil]); first | done | rfl | (simp only [List.length_drop, List.length_take]; rfl)) ?_; (with_reducible refine (capnplaw04_awake.calls k  true _ A4.out).mono ?_); rintro e w7 ⟨rfl, hb⟩; refine ⟨_, rfl, ?_⟩; have n0_ := Aside0.mk (below_step (by repeat (first | (with_reducible first | exact HB.out | apply below_alloc | apply pw_below_drewN | apply below_drew1) | exact HB.out)) hb); clear HB; have HB := n0_; clear n0_; (try clear hb); (try clear hb2); (try clear hk); (try clear hi)))
        go_meet
        case rel => exact ⟨_, (true), (by first | rfl | (simp; done) | (simp [*]; done)), H', ⟨by first | omega | exact Nat.le_refl _⟩, ⟨by repeat (first | (with_reducible first | exact HB.out | apply below_alloc | apply pw_below_drewN | apply below_drew1) | exact HB.out)⟩⟩
      · rw [if_neg c6] at H
        have c6b0 : decide (3000 < (l0.length : Int)) = false := decide_eq_false c6
        have c6b1 : decide (3000 < l0.length) = false := decide_eq_false (by omega)
        clear c6
        (first | rw [c6b0] | (simp only [i64_w, i32_w]; rw [c6b0]) | skip)
        replace H := Option.bind_eq_some_iff.mp H
        obtain ⟨t238, A80, H⟩ := H
        replace H : (capnplaw04_FrameBijection.j0 k l0 l1 (!t238)) = some r := H
        have A8 := Aside0.mk A80
        clear A80
        have H' := Aside0.mk H
        clear H
        go_wp2_with (first | ((with_reducible refine gate_callee (f := 8) rfl ?_); refine goesL_ (some 13) rfl rfl Try.func8 (by kernel_rfl) rfl #[] rfl (by (try simp only [List.map_toArray, List.map_cons, List.map_nil]); first | done | rfl | (simp only [List.length_drop, List.length_take]; rfl)) ?_; (with_reducible refine (capnplaw04_awake.calls k  true _ A4.out).mono ?_); rintro e w9 ⟨rfl, hb⟩; refine ⟨_, rfl, ?_⟩; have n0_ := Aside0.mk (below_step (by repeat (first | (with_reducible first | exact HB.out | apply below_alloc | apply pw_below_drewN | apply below_drew1) | exact HB.out)) hb); clear HB; have HB := n0_; clear n0_; (try clear hb); (try clear hb2); (try clear hk); (try clear hi)) | (go_at_call 9; (with_reducible refine (capnpref04_Few.calls k _ _ l1 t238 _ ?side1 ?side2 A8.out).mono ?_); (case side1 => repeat (first | exact (Kd.C_below HR1.out HB.out) | (with_reducible refine Kd.C_alloc ?_ _) | (with_reducible refine Kd.C_drewN ?_ _) | (with_reducible refine Kd.C_drew ?_))); (case side2 => exact HC1.out); rintro e w' ⟨rfl, ⟨nd, rfl⟩⟩))
        go_meet
        case rel => exact ⟨_, (!t238), (by first | rfl | (simp; done) | (simp [*]; done)), H', ⟨by first | omega | exact Nat.le_refl _⟩, ⟨by repeat (first | (with_reducible first | exact HB.out | apply below_alloc | apply pw_below_drewN | apply below_drew1) | exact HB.out)⟩⟩
    · replace c5 := Bool.eq_false_iff.mpr c5
      subst c5
      have H1 : (capnplaw04_FrameBijection.j0 k l0 l1 true) = some r := by rw [if_neg (show ¬ (false = true) by decide)] at H; exact H
      clear H
      have H := H1
      clear H1
      have H' := Aside0.mk H
      clear H
      go_wp2_with (first | ((with_reducible refine gate_callee (f := 8) rfl ?_); refine goesL_ (some 13) rfl rfl Try.func8 (by kernel_rfl) rfl #[] rfl (by (try simp only [List.map_toArray, List.map_cons, List.map_nil]); first | done | rfl | (simp only [List.length_drop, List.length_take]; rfl)) ?_; (with_reducible refine (capnplaw04_awake.calls k  false _ A4.out).mono ?_); rintro e w10 ⟨rfl, hb⟩; refine ⟨_, rfl, ?_⟩; have n0_ := Aside0.mk (below_step (by repeat (first | (with_reducible first | exact HB.out | apply below_alloc | apply pw_below_drewN | apply below_drew1) | exact HB.out)) hb); clear HB; have HB := n0_; clear n0_; (try clear hb); (try clear hb2); (try clear hk); (try clear hi)))
      go_meet
      case rel => exact ⟨_, (true), (by first | rfl | (simp; done) | (simp [*]; done)), H', ⟨by first | omega | exact Nat.le_refl _⟩, ⟨by repeat (first | (with_reducible first | exact HB.out | apply below_alloc | apply pw_below_drewN | apply below_drew1) | exact HB.out)⟩⟩
  case rest =>
    clear HC3
    try clear c1
    try clear p2
    try clear c4
    try clear c5
    try clear c6
    try clear c6b0
    try clear c6b1
    try clear c8
    obtain ⟨kq, x24_2, rfl, HA, HJ2, HB⟩ := hcut
    cases kq with
    | zero => exact absurd HA.out (by simp [capnplaw04_FrameBijection.j0])
    | succ kj2 =>
      have H := HA.out
      clear HA
      simp only [capnplaw04_FrameBijection.j0] at H
      by_cases c11 : x24_2 = true
      · subst c11
        have H1 : ((capnplaw04_awake.f kj2).bind fun t239 => (some t239)) = some r := by rw [if_pos rfl] at H; exact H
        clear H
        have H := H1
        clear H1
        replace H := Option.bind_eq_some_iff.mp H
        obtain ⟨t239, A120, H⟩ := H
        replace H : (some t239) = some r := H
        have A12 := Aside0.mk A120
        clear A120
        obtain rfl := Option.some.inj H
        go_wp2_with (first | ((with_reducible refine gate_callee (f := 8) rfl ?_); refine goesL_ (some 25) rfl rfl Try.func8 (by kernel_rfl) rfl #[] rfl (by (try simp only [List.map_toArray, List.map_cons, List.map_nil]); first | done | rfl | (simp only [List.length_drop, List.length_take]; rfl)) ?_; (with_reducible refine (capnplaw04_awake.calls kj2  t239 _ A12.out).mono ?_); rintro e w13 ⟨rfl, hb⟩; refine ⟨_, rfl, ?_⟩; have n0_ := Aside0.mk (below_step (by repeat (first | (with_reducible first | exact HB.out | apply below_alloc | apply pw_below_drewN | apply below_drew1) | exact HB.out)) hb); clear HB; have HB := n0_; clear n0_; (try clear hb); (try clear hb2); (try clear hk); (try clear hi)))
        go_ret
        exact ⟨by first | rfl | (simp [errW_none, errW_some] <;> rfl) | (simp [*, errW_none, errW_some] <;> rfl), by repeat (first | (with_reducible first | exact HB.out | apply below_alloc | apply pw_below_drewN | apply below_drew1) | exact HB.out)⟩
      · replace c11 := Bool.eq_false_iff.mpr c11
        subst c11
        have H1 : ((frame_Serialize.f kj2 l1).bind fun bt240 => (if ((bt240.2 == 0) != (decide ((l1.length : Int) > 0))) = true then (capnplaw04_FrameBijection.j1 kj2 l0 l1 bt240.1 bt240.2 true) else (if bt240.2 = 0 then (capnplaw04_FrameBijection.j1 kj2 l0 l1 bt240.1 bt240.2 false) else (capnplaw04_FrameBijection.j1 kj2 l0 l1 bt240.1 bt240.2 ((bt240.1.length : Int) != 0))))) = some r := by rw [if_neg (show ¬ (false = true) by decide)] at H; exact H
        clear H
        have H := H1
        clear H1
        replace H := Option.bind_eq_some_iff.mp H
        obtain ⟨⟨t240, t241⟩, A140, H⟩ := H
        replace H : (if ((t241 == 0) != (decide ((l1.length : Int) > 0))) = true then (capnplaw04_FrameBijection.j1 kj2 l0 l1 t240 t241 true) else (if t241 = 0 then (capnplaw04_FrameBijection.j1 kj2 l0 l1 t240 t241 false) else (capnplaw04_FrameBijection.j1 kj2 l0 l1 t240 t241 ((t240.length : Int) != 0)))) = some r := H
        have A14 := Aside0.mk A140
        clear A140
        have HC15 := Aside0.mk H
        clear H
        go_upto_region 4 with (first | ((with_reducible refine gate_callee (f := 12) rfl ?_); refine goesL_ (some 28) rfl rfl Try.func12 (by kernel_rfl) rfl #[.slice A1 l1.length c1] rfl (by (try simp only [List.map_toArray, List.map_cons, List.map_nil]); first | done | rfl | (simp only [List.length_drop, List.length_take]; rfl)) ?_; (with_reducible refine (frame_Serialize.calls kj2 _ _ l1 t240 t241 _ ?side1 ?side2 A14.out).mono ?_); (case side1 => repeat (first | exact (Kd.C_below HR1.out HB.out) | (with_reducible refine Kd.C_alloc ?_ _) | (with_reducible refine Kd.C_drewN ?_ _) | (with_reducible refine Kd.C_drew ?_))); (case side2 => exact HC1.out); rintro e w16 ⟨v242, rfl, ho0, hb⟩; refine ⟨_, rfl, ?_⟩; have n0_ := Aside0.mk (Kd.R_lower ho0 (below_size (by repeat (first | (with_reducible first | exact HB.out | apply below_alloc | apply pw_below_drewN | apply below_drew1) | exact HB.out)))); have n1_ := Aside0.mk (below_step (by repeat (first | (with_reducible first | exact HB.out | apply below_alloc | apply pw_below_drewN | apply below_drew1) | exact HB.out)) hb); clear HB; have HO243 := n0_; have HB := n1_; clear n0_ n1_; (try clear hb); (try clear hb2); (try clear hk); (try clear hi); (try clear ho0)))
        (try simp only [Act.put, List.setIfInBounds_toArray, List.set_cons_zero, List.set_cons_succ])
        go_cut [45] (fun v45 wc => ∃ (kq : Nat) (x45_14 : Bool), v45 = .bool x45_14 ∧ Aside0 (capnplaw04_FrameBijection.j1 kq l0 l1 t240 t241 x45_14 = some r) ∧ Aside0 (kq ≤ kj2) ∧ Aside0 (Kd.R (Kd.int .u8) 5 wc w.heap.size (fun _ => True) v242 t240) ∧ Aside0 (Below w.heap.size w wc))
        case first =>
          have H := HC15.out
          clear HC15
          by_cases cz : t241 = 0
          · subst cz
            by_cases cn : 0 < l1.length
            · have cn0 : decide (0 < l1.length) = true := decide_eq_true cn
              have cn1 : decide ((l1.length : Int) > 0) = true := decide_eq_true (by omega)
              rw [cn1, if_neg (by decide), if_pos rfl] at H
              have H' := Aside0.mk H
              clear H
              go_wp2
              go_meet
              case rel => exact ⟨_, (false), (by first | rfl | (simp; done) | (simp [*]; done)), H', ⟨by have := HJ2.out; first | omega | exact Nat.le_refl _⟩, ⟨by (with_reducible repeat (first | apply Kd.R_alloc | apply Kd.R_drewN | apply Kd.R_drew)); exact HO243.out⟩, ⟨by repeat (first | (with_reducible first | exact HB.out | apply below_alloc | apply pw_below_drewN | apply below_drew1) | exact HB.out)⟩⟩
            · have cn0 : decide (0 < l1.length) = false := decide_eq_false cn
              have cn1 : decide ((l1.length : Int) > 0) = false := decide_eq_false (by omega)
              rw [cn1, if_pos (by decide)] at H
              have H' := Aside0.mk H
              clear H
              go_wp2
              go_meet
              case rel => exact ⟨_, (true), (by first | rfl | (simp; done) | (simp [*]; done)), H', ⟨by have := HJ2.out; first | omega | exact Nat.le_refl _⟩, ⟨by (with_reducible repeat (first | apply Kd.R_alloc | apply Kd.R_drewN | apply Kd.R_drew)); exact HO243.out⟩, ⟨by repeat (first | (with_reducible first | exact HB.out | apply below_alloc | apply pw_below_drewN | apply below_drew1) | exact HB.out)⟩⟩
          · have cz0 : (t241 == 0) = false := beq_eq_false_iff_ne.mpr cz
            have cz1 : (t241 != 0) = true := bne_iff_ne.mpr cz
            by_cases cn : 0 < l1.length
            · have cn0 : decide (0 < l1.length) = true := decide_eq_true cn
              have cn1 : decide ((l1.length : Int) > 0) = true := decide_eq_true (by omega)
              rw [cn1, cz0, if_pos (by decide)] at H
              have H' := Aside0.mk H
              clear H
              go_wp2
              go_meet
              case rel => exact ⟨_, (true), (by first | rfl | (simp; done) | (simp [*]; done)), H', ⟨by have := HJ2.out; first | omega | exact Nat.le_refl _⟩, ⟨by (with_reducible repeat (first | apply Kd.R_alloc | apply Kd.R_drewN | apply Kd.R_drew)); exact HO243.out⟩, ⟨by repeat (first | (with_reducible first | exact HB.out | apply below_alloc | apply pw_below_drewN | apply below_drew1) | exact HB.out)⟩⟩
            · have cn0 : decide (0 < l1.length) = false := decide_eq_false cn
              have cn1 : decide ((l1.length : Int) > 0) = false := decide_eq_false (by omega)
              rw [cn1, cz0, if_neg (by decide), if_neg cz] at H
              have H' := Aside0.mk H
              clear H
              obtain ⟨Ao19, co19, eo19⟩ := Kd.R_slice HO243.out
              subst eo19
              go_wp2
              go_meet
              case rel => exact ⟨_, (((t240.length : Int) != 0)), (by first | rfl | (simp; done) | (simp [*]; done)), H', ⟨by have := HJ2.out; first | omega | exact Nat.le_refl _⟩, ⟨by (with_reducible repeat (first | apply Kd.R_alloc | apply Kd.R_drewN | apply Kd.R_drew)); exact HO243.out⟩, ⟨by repeat (first | (with_reducible first | exact HB.out | apply below_alloc | apply pw_below_drewN | apply below_drew1) | exact HB.out)⟩⟩
        case rest =>
          clear HC15
          try clear c1
          try clear p2
          try clear c4
          try clear c5
          try clear c6
          try clear c6b0
          try clear c6b1
          try clear c8
          try clear c11
          try clear c12
          try clear c17
          try clear c17b0
          try clear c17b1
          try clear c17b2
          try clear c18
          try clear c18b0
          try clear c18b1
          try clear p2
          obtain ⟨kq, x45_14, rfl, HA, HJ14, HO_5, HB⟩ := hcut
          cases kq with
          | zero => exact absurd HA.out (by simp [capnplaw04_FrameBijection.j1])
          | succ kj14 =>
            have H := HA.out
            clear HA
            simp only [capnplaw04_FrameBijection.j1] at H
            by_cases c20 : x45_14 = true
            · subst c20
              have H1 : (some false) = some r := by rw [if_pos rfl] at H; exact H
              clear H
              have H := H1
              clear H1
              obtain rfl := Option.some.inj H
              go_wp2
              go_ret
              exact ⟨by first | rfl | (simp [errW_none, errW_some] <;> rfl) | (simp [*, errW_none, errW_some] <;> rfl), by repeat (first | (with_reducible first | exact HB.out | apply below_alloc | apply pw_below_drewN | apply below_drew1) | exact HB.out)⟩
            · replace c20 := Bool.eq_false_iff.mpr c20
              subst c20
              have H1 : (if t241 = 0 then ((frame_Parse.f t240).bind fun bt244 => (if bt244.2 = 0 then ((capnpref04_Same.f kj14 bt244.1 l1).bind fun t248 => (if t248 = true then (capnplaw04_FrameBijection.j2 kj14 l0) else (some false))) else (some false))) else (capnplaw04_FrameBijection.j2 kj14 l0)) = some r := by rw [if_neg (show ¬ (false = true) by decide)] at H; exact H
              clear H
              have H := H1
              clear H1
              have HC21 := Aside0.mk H
              clear H
              go_upto_if 47 with (fail)
              go_cut [] (fun wc => ∃ (kq : Nat), Aside0 (capnplaw04_FrameBijection.j2 kq l0 = some r) ∧ Aside0 (kq ≤ kj14) ∧ Aside0 (Below w.heap.size w wc))
              case first =>
                have H := HC21.out
                clear HC21
                by_cases c22 : t241 = 0
                · rw [if_pos c22] at H
                  have c22b0 : (t241 == 0) = true := beq_iff_eq.mpr c22
                  have c22b1 : (t241 != 0) = false := bne_eq_false_iff_eq.mpr c22
                  clear c22
                  (first | rw [c22b0] | (simp only [i64_w, i32_w]; rw [c22b0]) | skip)
                  replace H := Option.bind_eq_some_iff.mp H
                  obtain ⟨⟨t244, t245⟩, A230, H⟩ := H
                  replace H : (if t245 = 0 then ((capnpref04_Same.f kj14 t244 l1).bind fun t248 => (if t248 = true then (capnplaw04_FrameBijection.j2 kj14 l0) else (some false))) else (some false)) = some r := H
                  have A23 := Aside0.mk A230
                  clear A230
                  by_cases c24 : t245 = 0
                  · rw [if_pos c24] at H
                    have c24b0 : (t245 == 0) = true := beq_iff_eq.mpr c24
                    have c24b1 : (t245 != 0) = false := bne_eq_false_iff_eq.mpr c24
                    clear c24
                    replace H := Option.bind_eq_some_iff.mp H
                    obtain ⟨t248, A250, H⟩ := H
                    replace H : (if t248 = true then (capnplaw04_FrameBijection.j2 kj14 l0) else (some false)) = some r := H
                    have A25 := Aside0.mk A250
                    clear A250
                    by_cases c26 : t248 = true
                    · subst c26
                      have H1 : (capnplaw04_FrameBijection.j2 kj14 l0) = some r := by rw [if_pos rfl] at H; exact H
                      clear H
                      have H := H1
                      clear H1
                      have H' := Aside0.mk H
                      clear H
                      obtain ⟨Ao27, co27, eo27⟩ := Kd.R_slice HO_5.out
                      subst eo27
                      go_wp2_with (first | ((with_reducible refine gate_callee (f := 10) rfl ?_); refine goesL_ (some 50) rfl rfl Try.func10 (by kernel_rfl) rfl #[.slice Ao27 t240.length co27] rfl (by (try simp only [List.map_toArray, List.map_cons, List.map_nil]); first | done | rfl | (simp only [List.length_drop, List.length_take]; rfl)) ?_; (with_reducible refine (frame_Parse.calls _ _ t240 t244 t245 _ ?side1 ?side2 A23.out).mono ?_); (case side1 => repeat (first | exact (Kd.R_reads' HO_5.out).2.2 | (with_reducible refine Kd.C_alloc ?_ _) | (with_reducible refine Kd.C_drewN ?_ _) | (with_reducible refine Kd.C_drew ?_))); (case side2 => exact (Kd.R_reads' HO_5.out).2.1); rintro e w28 ⟨v246, rfl, ho0, hb⟩; refine ⟨_, rfl, ?_⟩; have n0_ := Aside0.mk (Kd.R_below (by (with_reducible repeat (first | apply Kd.R_alloc | apply Kd.R_drewN | apply Kd.R_drew)); exact HO_5.out) hb); have n1_ := Aside0.mk (Kd.S_lower ho0 (below_size (by repeat (first | (with_reducible first | exact HB.out | apply below_alloc | apply pw_below_drewN | apply below_drew1) | exact HB.out)))); have n2_ := Aside0.mk (below_step (by repeat (first | (with_reducible first | exact HB.out | apply below_alloc | apply pw_below_drewN | apply below_drew1) | exact HB.out)) hb); clear HO_5; clear HB; have HO_5 := n0_; have HO247 := n1_; have HB := n2_; clear n0_ n1_ n2_; (try clear hb); (try clear hb2); (try clear hk); (try clear hi); (try clear ho0); obtain ⟨Ao29, co29, eo29⟩ := Kd.S_slice HO247.out; subst eo29) | (go_at_call 14; (with_reducible refine (capnpref04_Same.calls kj14 _ _ t244 _ _ l1 true _ ?side1 ?side2 ?side3 ?side4 A25.out).mono ?_); (case side1 => repeat (first | exact (Kd.S_reads' HO247.out).2.2 | (with_reducible refine Kd.C_alloc ?_ _) | (with_reducible refine Kd.C_drewN ?_ _) | (with_reducible refine Kd.C_drew ?_))); (case side2 => exact (Kd.S_reads' HO247.out).2.1); (case side3 => repeat (first | exact (Kd.C_below HR1.out HB.out) | (with_reducible refine Kd.C_alloc ?_ _) | (with_reducible refine Kd.C_drewN ?_ _) | (with_reducible refine Kd.C_drew ?_))); (case side4 => exact HC1.out); rintro e w' ⟨rfl, ⟨nd, rfl⟩⟩))
                      go_meet
                      case rel => exact ⟨_, H', ⟨by have := HJ2.out; have := HJ14.out; first | omega | exact Nat.le_refl _⟩, ⟨by repeat (first | (with_reducible first | exact HB.out | apply below_alloc | apply pw_below_drewN | apply below_drew1) | exact HB.out)⟩⟩
                    · replace c26 := Bool.eq_false_iff.mpr c26
                      subst c26
                      have H1 : (some false) = some r := by rw [if_neg (show ¬ (false = true) by decide)] at H; exact H
                      clear H
                      have H := H1
                      clear H1
                      obtain rfl := Option.some.inj H
                      obtain ⟨Ao30, co30, eo30⟩ := Kd.R_slice HO_5.out
                      subst eo30
                      go_wp2_with (first | ((with_reducible refine gate_callee (f := 10) rfl ?_); refine goesL_ (some 50) rfl rfl Try.func10 (by kernel_rfl) rfl #[.slice Ao30 t240.length co30] rfl (by (try simp only [List.map_toArray, List.map_cons, List.map_nil]); first | done | rfl | (simp only [List.length_drop, List.length_take]; rfl)) ?_; (with_reducible refine (frame_Parse.calls _ _ t240 t244 t245 _ ?side1 ?side2 A23.out).mono ?_); (case side1 => repeat (first | exact (Kd.R_reads' HO_5.out).2.2 | (with_reducible refine Kd.C_alloc ?_ _) | (with_reducible refine Kd.C_drewN ?_ _) | (with_reducible refine Kd.C_drew ?_))); (case side2 => exact (Kd.R_reads' HO_5.out).2.1); rintro e w31 ⟨v246, rfl, ho0, hb⟩; refine ⟨_, rfl, ?_⟩; have n0_ := Aside0.mk (Kd.R_below (by (with_reducible repeat (first | apply Kd.R_alloc | apply Kd.R_drewN | apply Kd.R_drew)); exact HO_5.out) hb); have n1_ := Aside0.mk (Kd.S_lower ho0 (below_size (by repeat (first | (with_reducible first | exact HB.out | apply below_alloc | apply pw_below_drewN | apply below_drew1) | exact HB.out)))); have n2_ := Aside0.mk (below_step (by repeat (first | (with_reducible first | exact HB.out | apply below_alloc | apply pw_below_drewN | apply below_drew1) | exact HB.out)) hb); clear HO_5; clear HB; have HO_5 := n0_; have HO247 := n1_; have HB := n2_; clear n0_ n1_ n2_; (try clear hb); (try clear hb2); (try clear hk); (try clear hi); (try clear ho0); obtain ⟨Ao32, co32, eo32⟩ := Kd.S_slice HO247.out; subst eo32) | (go_at_call 14; (with_reducible refine (capnpref04_Same.calls kj14 _ _ t244 _ _ l1 false _ ?side1 ?side2 ?side3 ?side4 A25.out).mono ?_); (case side1 => repeat (first | exact (Kd.S_reads' HO247.out).2.2 | (with_reducible refine Kd.C_alloc ?_ _) | (with_reducible refine Kd.C_drewN ?_ _) | (with_reducible refine Kd.C_drew ?_))); (case side2 => exact (Kd.S_reads' HO247.out).2.1); (case side3 => repeat (first | exact (Kd.C_below HR1.out HB.out) | (with_reducible refine Kd.C_alloc ?_ _) | (with_reducible refine Kd.C_drewN ?_ _) | (with_reducible refine Kd.C_drew ?_))); (case side4 => exact HC1.out); rintro e w' ⟨rfl, ⟨nd, rfl⟩⟩))
                      go_ret
                      exact ⟨by first | rfl | (simp [errW_none, errW_some] <;> rfl) | (simp [*, errW_none, errW_some] <;> rfl), by repeat (first | (with_reducible first | exact HB.out | apply below_alloc | apply pw_below_drewN | apply below_drew1) | exact HB.out)⟩
                  · rw [if_neg c24] at H
                    have c24b0 : (t245 == 0) = false := beq_eq_false_iff_ne.mpr c24
                    have c24b1 : (t245 != 0) = true := bne_iff_ne.mpr c24
                    obtain rfl := Option.some.inj H
                    obtain ⟨Ao33, co33, eo33⟩ := Kd.R_slice HO_5.out
                    subst eo33
                    go_wp2_with (first | ((with_reducible refine gate_callee (f := 10) rfl ?_); refine goesL_ (some 50) rfl rfl Try.func10 (by kernel_rfl) rfl #[.slice Ao33 t240.length co33] rfl (by (try simp only [List.map_toArray, List.map_cons, List.map_nil]); first | done | rfl | (simp only [List.length_drop, List.length_take]; rfl)) ?_; (with_reducible refine (frame_Parse.calls _ _ t240 t244 t245 _ ?side1 ?side2 A23.out).mono ?_); (case side1 => repeat (first | exact (Kd.R_reads' HO_5.out).2.2 | (with_reducible refine Kd.C_alloc ?_ _) | (with_reducible refine Kd.C_drewN ?_ _) | (with_reducible refine Kd.C_drew ?_))); (case side2 => exact (Kd.R_reads' HO_5.out).2.1); rintro e w34 ⟨v246, rfl, ho0, hb⟩; refine ⟨_, rfl, ?_⟩; have n0_ := Aside0.mk (Kd.R_below (by (with_reducible repeat (first | apply Kd.R_alloc | apply Kd.R_drewN | apply Kd.R_drew)); exact HO_5.out) hb); have n1_ := Aside0.mk (Kd.S_lower ho0 (below_size (by repeat (first | (with_reducible first | exact HB.out | apply below_alloc | apply pw_below_drewN | apply below_drew1) | exact HB.out)))); have n2_ := Aside0.mk (below_step (by repeat (first | (with_reducible first | exact HB.out | apply below_alloc | apply pw_below_drewN | apply below_drew1) | exact HB.out)) hb); clear HO_5; clear HB; have HO_5 := n0_; have HO247 := n1_; have HB := n2_; clear n0_ n1_ n2_; (try clear hb); (try clear hb2); (try clear hk); (try clear hi); (try clear ho0)))
                    go_ret
                    exact ⟨by first | rfl | (simp [errW_none, errW_some] <;> rfl) | (simp [*, errW_none, errW_some] <;> rfl), by repeat (first | (with_reducible first | exact HB.out | apply below_alloc | apply pw_below_drewN | apply below_drew1) | exact HB.out)⟩
                · rw [if_neg c22] at H
                  have c22b0 : (t241 == 0) = false := beq_eq_false_iff_ne.mpr c22
                  have c22b1 : (t241 != 0) = true := bne_iff_ne.mpr c22
                  (first | rw [c22b0] | (simp only [i64_w, i32_w]; rw [c22b0]) | skip)
                  have H' := Aside0.mk H
                  clear H
                  go_wp2
                  go_meet
                  case rel => exact ⟨_, H', ⟨by have := HJ2.out; have := HJ14.out; first | omega | exact Nat.le_refl _⟩, ⟨by repeat (first | (with_reducible first | exact HB.out | apply below_alloc | apply pw_below_drewN | apply below_drew1) | exact HB.out)⟩⟩
              case rest =>
                clear HC21
                try clear c1
                try clear c2
                try clear p2
                try clear c4
                try clear c5
                try clear c6
                try clear c6b0
                try clear c6b1
                try clear c8
                try clear c10
                try clear c11
                try clear c12
                try clear c17
                try clear c17b0
                try clear c17b1
                try clear c17b2
                try clear c18
                try clear c18b0
                try clear c18b1
                try clear c20
                try clear c22
                try clear c22b0
                try clear c22b1
                try clear c24
                try clear c24b0
                try clear c24b1
                try clear c26
                try clear p2
                obtain ⟨kq, HA, HJ20, HB⟩ := hcut
                cases kq with
                | zero => exact absurd HA.out (by simp [capnplaw04_FrameBijection.j2])
                | succ kj20 =>
                  have H := HA.out
                  clear HA
                  simp only [capnplaw04_FrameBijection.j2] at H
                  replace H := Option.bind_eq_some_iff.mp H
                  obtain ⟨⟨t249, t250⟩, A350, H⟩ := H
                  replace H : (if t250 = 0 then ((frame_Serialize.f kj20 t249).bind fun bt253 => (if bt253.2 = 0 then ((capnpref01_Same.f kj20 bt253.1 l0).bind fun t257 => (if t257 = true then (some (((l0.length : Int) % 8) == 0)) else (none))) else (none))) else (if t250 = 1 then (some ((t249.length : Int) == 0)) else (none))) = some r := H
                  have A35 := Aside0.mk A350
                  clear A350
                  by_cases c36 : t250 = 0
                  · rw [if_pos c36] at H
                    have c36b0 : (t250 == 0) = true := beq_iff_eq.mpr c36
                    have c36b1 : (t250 != 0) = false := bne_eq_false_iff_eq.mpr c36
                    clear c36
                    replace H := Option.bind_eq_some_iff.mp H
                    obtain ⟨⟨t253, t254⟩, A370, H⟩ := H
                    replace H : (if t254 = 0 then ((capnpref01_Same.f kj20 t253 l0).bind fun t257 => (if t257 = true then (some (((l0.length : Int) % 8) == 0)) else (none))) else (none)) = some r := H
                    have A37 := Aside0.mk A370
                    clear A370
                    by_cases c38 : t254 = 0
                    · rw [if_pos c38] at H
                      have c38b0 : (t254 == 0) = true := beq_iff_eq.mpr c38
                      have c38b1 : (t254 != 0) = false := bne_eq_false_iff_eq.mpr c38
                      clear c38
                      replace H := Option.bind_eq_some_iff.mp H
                      obtain ⟨t257, A390, H⟩ := H
                      replace H : (if t257 = true then (some (((l0.length : Int) % 8) == 0)) else (none)) = some r := H
                      have A39 := Aside0.mk A390
                      clear A390
                      by_cases c40 : t257 = true
                      · subst c40
                        have H1 : (some (((l0.length : Int) % 8) == 0)) = some r := by rw [if_pos rfl] at H; exact H
                        clear H
                        have H := H1
                        clear H1
                        obtain rfl := Option.some.inj H
                        go_wp2_with (first | ((with_reducible refine gate_callee (f := 10) rfl ?_); refine goesL_ (some 63) rfl rfl Try.func10 (by kernel_rfl) rfl #[.slice A0 l0.length c0] rfl (by (try simp only [List.map_toArray, List.map_cons, List.map_nil]); first | done | rfl | (simp only [List.length_drop, List.length_take]; rfl)) ?_; (with_reducible refine (frame_Parse.calls _ _ l0 t249 t250 _ ?side1 ?side2 A35.out).mono ?_); (case side1 => repeat (first | exact (Kd.C_below HR0.out HB.out) | (with_reducible refine Kd.C_alloc ?_ _) | (with_reducible refine Kd.C_drewN ?_ _) | (with_reducible refine Kd.C_drew ?_))); (case side2 => exact HC0.out); rintro e w41 ⟨v251, rfl, ho0, hb⟩; refine ⟨_, rfl, ?_⟩; have n0_ := Aside0.mk (Kd.S_lower ho0 (below_size (by repeat (first | (with_reducible first | exact HB.out | apply below_alloc | apply pw_below_drewN | apply below_drew1) | exact HB.out)))); have n1_ := Aside0.mk (below_step (by repeat (first | (with_reducible first | exact HB.out | apply below_alloc | apply pw_below_drewN | apply below_drew1) | exact HB.out)) hb); clear HB; have HO252 := n0_; have HB := n1_; clear n0_ n1_; (try clear hb); (try clear hb2); (try clear hk); (try clear hi); (try clear ho0); obtain ⟨Ao42, co42, eo42⟩ := Kd.S_slice HO252.out; subst eo42) | ((with_reducible refine gate_callee (f := 12) rfl ?_); refine goesL_ (some 77) rfl rfl Try.func12 (by kernel_rfl) rfl #[.slice Ao42 t249.length co42] rfl (by (try simp only [List.map_toArray, List.map_cons, List.map_nil]); first | done | rfl | (simp only [List.length_drop, List.length_take]; rfl)) ?_; (with_reducible refine (frame_Serialize.calls kj20 _ _ t249 t253 t254 _ ?side1 ?side2 A37.out).mono ?_); (case side1 => repeat (first | exact (Kd.S_reads' HO252.out).2.2 | (with_reducible refine Kd.C_alloc ?_ _) | (with_reducible refine Kd.C_drewN ?_ _) | (with_reducible refine Kd.C_drew ?_))); (case side2 => exact (Kd.S_reads' HO252.out).2.1); rintro e w43 ⟨v255, rfl, ho0, hb⟩; refine ⟨_, rfl, ?_⟩; have n0_ := Aside0.mk (Kd.S_below (by (with_reducible repeat (first | apply Kd.S_alloc | apply Kd.S_drewN | apply Kd.S_drew)); exact HO252.out) hb); have n1_ := Aside0.mk (Kd.R_lower ho0 (below_size (by repeat (first | (with_reducible first | exact HB.out | apply below_alloc | apply pw_below_drewN | apply below_drew1) | exact HB.out)))); have n2_ := Aside0.mk (below_step (by repeat (first | (with_reducible first | exact HB.out | apply below_alloc | apply pw_below_drewN | apply below_drew1) | exact HB.out)) hb); clear HO252; clear HB; have HO252 := n0_; have HO256 := n1_; have HB := n2_; clear n0_ n1_ n2_; (try clear hb); (try clear hb2); (try clear hk); (try clear hi); (try clear ho0); obtain ⟨Ao44, co44, eo44⟩ := Kd.R_slice HO256.out; subst eo44) | (go_at_call 15; (with_reducible refine (capnpref01_Same.calls kj20 _ _ t253 _ _ l0 true _ ?side1 ?side2 ?side3 ?side4 A39.out).mono ?_); (case side1 => repeat (first | exact (Kd.R_reads' HO256.out).2.2 | (with_reducible refine Kd.C_alloc ?_ _) | (with_reducible refine Kd.C_drewN ?_ _) | (with_reducible refine Kd.C_drew ?_))); (case side2 => exact (Kd.R_reads' HO256.out).2.1); (case side3 => repeat (first | exact (Kd.C_below HR0.out HB.out) | (with_reducible refine Kd.C_alloc ?_ _) | (with_reducible refine Kd.C_drewN ?_ _) | (with_reducible refine Kd.C_drew ?_))); (case side4 => exact HC0.out); rintro e w' ⟨rfl, ⟨nd, rfl⟩⟩))
                        go_ret
                        exact ⟨by first | rfl | (simp [errW_none, errW_some] <;> rfl) | (simp [*, errW_none, errW_some] <;> rfl), by repeat (first | (with_reducible first | exact HB.out | apply below_alloc | apply pw_below_drewN | apply below_drew1) | exact HB.out)⟩
                      · replace c40 := Bool.eq_false_iff.mpr c40
                        subst c40
                        have H1 : (none) = some r := by rw [if_neg (show ¬ (false = true) by decide)] at H; exact H
                        clear H
                        have H := H1
                        clear H1
                        exact absurd H (by simp)
                    · rw [if_neg c38] at H
                      exact absurd H (by simp)
                  · rw [if_neg c36] at H
                    have c36b0 : (t250 == 0) = false := beq_eq_false_iff_ne.mpr c36
                    have c36b1 : (t250 != 0) = true := bne_iff_ne.mpr c36
                    by_cases c45 : t250 = 1
                    · rw [if_pos c45] at H
                      have c45b0 : (t250 == 1) = true := beq_iff_eq.mpr c45
                      have c45b1 : (t250 != 1) = false := bne_eq_false_iff_eq.mpr c45
                      clear c45
                      obtain rfl := Option.some.inj H
                      go_wp2_with (first | ((with_reducible refine gate_callee (f := 10) rfl ?_); refine goesL_ (some 63) rfl rfl Try.func10 (by kernel_rfl) rfl #[.slice A0 l0.length c0] rfl (by (try simp only [List.map_toArray, List.map_cons, List.map_nil]); first | done | rfl | (simp only [List.length_drop, List.length_take]; rfl)) ?_; (with_reducible refine (frame_Parse.calls _ _ l0 t249 t250 _ ?side1 ?side2 A35.out).mono ?_); (case side1 => repeat (first | exact (Kd.C_below HR0.out HB.out) | (with_reducible refine Kd.C_alloc ?_ _) | (with_reducible refine Kd.C_drewN ?_ _) | (with_reducible refine Kd.C_drew ?_))); (case side2 => exact HC0.out); rintro e w46 ⟨v251, rfl, ho0, hb⟩; refine ⟨_, rfl, ?_⟩; have n0_ := Aside0.mk (Kd.S_lower ho0 (below_size (by repeat (first | (with_reducible first | exact HB.out | apply below_alloc | apply pw_below_drewN | apply below_drew1) | exact HB.out)))); have n1_ := Aside0.mk (below_step (by repeat (first | (with_reducible first | exact HB.out | apply below_alloc | apply pw_below_drewN | apply below_drew1) | exact HB.out)) hb); clear HB; have HO252 := n0_; have HB := n1_; clear n0_ n1_; (try clear hb); (try clear hb2); (try clear hk); (try clear hi); (try clear ho0); obtain ⟨Ao47, co47, eo47⟩ := Kd.S_slice HO252.out; subst eo47))
                      go_ret
                      exact ⟨by first | rfl | (simp [errW_none, errW_some] <;> rfl) | (simp [*, errW_none, errW_some] <;> rfl), by repeat (first | (with_reducible first | exact HB.out | apply below_alloc | apply pw_below_drewN | apply below_drew1) | exact HB.out)⟩
                    · rw [if_neg c45] at H
                      exact absurd H (by simp)

end Go.Proofs.Ytcdkgccmmfjnhaa.PFrameBijection
