/- Written by myprint.py, a program of this session: printed functions of a law, and the proofs that the Go code comes to them. -/
import Derived.Test.YtcdkgccmmfjnhaaDoorPUnpackTruncationx0
import Derived.Test.YtcdkgccmmfjnhaaDoorPUnpackTruncationx1
import Derived.Test.YtcdkgccmmfjnhaaDoorPUnpackTruncationx2
import Derived.Test.YtcdkgccmmfjnhaaDoorPUnpackTruncationx3
namespace Go.Proofs.YtcdkgccmmfjnhaaDoor.PUnpackTruncation
open Go.RowKit Go.Proofs.YtcdkgccmmfjnhaaDoorW.PrintWords Go.Proofs.YtcdkgccmmfjnhaaDoorW.PrintLast Go.Proofs.YtcdkgccmmfjnhaaDoorW.PrintMore
attribute [local go_sem] max2_int min2_int max_two min_two max_three min_three max_four min_four   -- for this text's walks alone
set_option linter.unusedVariables false
set_option linter.unusedSimpArgs false

/-! ### capnplaw22_UnpackTruncation: function 6 -/
mutual
def capnplaw22_UnpackTruncation.j0 : Nat → List Int → List Int → Int → Bool → Option (Bool)
  | 0, _, _, _, _ => none
  | k + 1, x0, x1, x2, x26 => if x26 = true then ((capnplaw22_awake.f k).bind fun t271 => (some t271)) else ((capnpref21_Words.f k x0).bind fun t272 => ((capnpref21_Words.f k x1).bind fun t275 => (if (wrap64 ((t272.length : Int) + 1)) = 0 then (none) else (if 0 ≤ (Int.tmod (wrap64 (x2)) (wrap64 ((t272.length : Int) + 1))) then (if (Int.tmod (wrap64 (x2)) (wrap64 ((t272.length : Int) + 1))) ≤ (t272.length : Int) then ((unpack_Prefix.f (t272.take ((Int.tmod (wrap64 (x2)) (wrap64 ((t272.length : Int) + 1))) : Int).toNat) 1073741824).bind fun bt282 => ((capnpref01_Bytes.f k x0).bind fun t286 => (if (bt282.1.length : Int) > (t286.length : Int) then (capnplaw22_UnpackTruncation.j1 k x1 t272 t275 t286 true) else (if 0 ≤ (bt282.1.length : Int) then (if (bt282.1.length : Int) ≤ (t286.length : Int) then ((capnpref01_Same.f k bt282.1 (t286.take ((bt282.1.length : Int) : Int).toNat)).bind fun t293 => (if t293 = true then (if bt282.2 = 11 then (capnplaw22_UnpackTruncation.j1 k x1 t272 t275 t286 true) else (if (Int.tmod (wrap64 (x2)) (wrap64 ((t272.length : Int) + 1))) = (t272.length : Int) then (capnplaw22_UnpackTruncation.j1 k x1 t272 t275 t286 (bt282.2 != 0)) else (capnplaw22_UnpackTruncation.j1 k x1 t272 t275 t286 false))) else (capnplaw22_UnpackTruncation.j1 k x1 t272 t275 t286 true))) else (none)) else (none))))) else (none)) else (none)))))
def capnplaw22_UnpackTruncation.j1 : Nat → List Int → List Int → List Int → List Int → Bool → Option (Bool)
  | 0, _, _, _, _, _ => none
  | k + 1, x1, x7, x8, x12, x74 => if x74 = true then (some false) else ((some (([] : List Int) : List Int)).bind fun y294 => (if y294.length + x7.length < 140737488355328 then ((some (y294 ++ x7 : List Int)).bind fun y297 => (if y297.length + x8.length < 140737488355328 then ((unpack_Bytes.f (y297 ++ x8) 1073741824).bind fun bt303 => (if bt303.2 = 0 then ((some (([] : List Int) : List Int)).bind fun y307 => (if y307.length + x12.length < 140737488355328 then ((some (y307 ++ x12 : List Int)).bind fun y310 => ((capnpref01_Bytes.f k x1).bind fun t313 => (if y310.length + t313.length < 140737488355328 then ((capnpref01_Same.f k bt303.1 (y310 ++ t313)).bind fun t319 => (some t319)) else (none)))) else (none))) else (none))) else (none))) else (none)))
end
def capnplaw22_UnpackTruncation.f (k : Nat) (l0 : List Int) (l1 : List Int) (a2 : Int) : Option (Bool) := (capnplaw22_awake.f k).bind fun t270 => (if t270 = true then (if (l0.length : Int) > 600 then (capnplaw22_UnpackTruncation.j0 k l0 l1 a2 true) else (capnplaw22_UnpackTruncation.j0 k l0 l1 a2 (decide ((l1.length : Int) > 600)))) else (capnplaw22_UnpackTruncation.j0 k l0 l1 a2 true))
theorem capnplaw22_UnpackTruncation.mono_l : ∀ k, (∀ y0 y1 y2 y3, LeO (capnplaw22_UnpackTruncation.j0 k y0 y1 y2 y3) (capnplaw22_UnpackTruncation.j0 (k + 1) y0 y1 y2 y3)) ∧ (∀ y0 y1 y2 y3 y4, LeO (capnplaw22_UnpackTruncation.j1 k y0 y1 y2 y3 y4) (capnplaw22_UnpackTruncation.j1 (k + 1) y0 y1 y2 y3 y4))
  | 0 => ⟨fun _ _ _ _ r h => by simp [capnplaw22_UnpackTruncation.j0] at h, fun _ _ _ _ _ r h => by simp [capnplaw22_UnpackTruncation.j1] at h⟩
  | k + 1 => by
    obtain ⟨ih0, ih1⟩ := capnplaw22_UnpackTruncation.mono_l k
    refine ⟨?_, ?_⟩
    · intro y0 y1 y2 y3
      unfold capnplaw22_UnpackTruncation.j0
      repeat' first
      | (with_reducible exact ih0 _ _ _ _)
      | (with_reducible exact ih1 _ _ _ _ _)
      | (with_reducible exact capnplaw22_awake.mono _)
      | (with_reducible exact capnpref01_Bytes.mono _ _)
      | (with_reducible exact capnpref01_Same.mono _ _ _)
      | (with_reducible exact capnpref21_Words.mono _ _)
      | (with_reducible exact LeO.refl _)
      | (with_reducible exact LeO.none _)
      | (with_reducible refine LeO.ite ?_ ?_)
      | (with_reducible refine LeO.bind ?_ (fun _ => ?_))
      | exact ih0 _ _ _ _
      | exact ih1 _ _ _ _ _
      | exact capnplaw22_awake.mono _
      | exact capnpref01_Bytes.mono _ _
      | exact capnpref01_Same.mono _ _ _
      | exact capnpref21_Words.mono _ _
      | exact LeO.none _
      | refine LeO.ite ?_ ?_
      | refine LeO.bind ?_ (fun _ => ?_)
    · intro y0 y1 y2 y3 y4
      unfold capnplaw22_UnpackTruncation.j1
      repeat' first
      | (with_reducible exact ih0 _ _ _ _)
      | (with_reducible exact ih1 _ _ _ _ _)
      | (with_reducible exact capnplaw22_awake.mono _)
      | (with_reducible exact capnpref01_Bytes.mono _ _)
      | (with_reducible exact capnpref01_Same.mono _ _ _)
      | (with_reducible exact capnpref21_Words.mono _ _)
      | (with_reducible exact LeO.refl _)
      | (with_reducible exact LeO.none _)
      | (with_reducible refine LeO.ite ?_ ?_)
      | (with_reducible refine LeO.bind ?_ (fun _ => ?_))
      | exact ih0 _ _ _ _
      | exact ih1 _ _ _ _ _
      | exact capnplaw22_awake.mono _
      | exact capnpref01_Bytes.mono _ _
      | exact capnpref01_Same.mono _ _ _
      | exact capnpref21_Words.mono _ _
      | exact LeO.none _
      | refine LeO.ite ?_ ?_
      | refine LeO.bind ?_ (fun _ => ?_)
theorem capnplaw22_UnpackTruncation.mono : ∀ a0 a1 a2 k, LeO (capnplaw22_UnpackTruncation.f k a0 a1 a2) (capnplaw22_UnpackTruncation.f (k + 1) a0 a1 a2) := by
  intro a0 a1 a2 k
  obtain ⟨ih0, ih1⟩ := capnplaw22_UnpackTruncation.mono_l k
  unfold capnplaw22_UnpackTruncation.f
  repeat' first
      | (with_reducible exact ih0 _ _ _ _)
      | (with_reducible exact ih1 _ _ _ _ _)
      | (with_reducible exact capnplaw22_awake.mono _)
      | (with_reducible exact capnpref01_Bytes.mono _ _)
      | (with_reducible exact capnpref01_Same.mono _ _ _)
      | (with_reducible exact capnpref21_Words.mono _ _)
      | (with_reducible exact LeO.refl _)
      | (with_reducible exact LeO.none _)
      | (with_reducible refine LeO.ite ?_ ?_)
      | (with_reducible refine LeO.bind ?_ (fun _ => ?_))
      | exact ih0 _ _ _ _
      | exact ih1 _ _ _ _ _
      | exact capnplaw22_awake.mono _
      | exact capnpref01_Bytes.mono _ _
      | exact capnpref01_Same.mono _ _ _
      | exact capnpref21_Words.mono _ _
      | exact LeO.none _
      | refine LeO.ite ?_ ?_
      | refine LeO.bind ?_ (fun _ => ?_)
set_option maxHeartbeats 8000000 in
set_option maxRecDepth 100000 in
theorem capnplaw22_UnpackTruncation.calls (k : Nat) (A0 : Option Addr) (c0 : Nat) (l0 : List Int) (A1 : Option Addr) (c1 : Nat) (l1 : List Int) (a2 : Int) (r : Bool) (w : World) (hr0 : Kd.C (Kd.int .u64) w A0 l0.length l0) (hc0 : l0.length ≤ c0) (hr1 : Kd.C (Kd.int .u64) w A1 l1.length l1) (hc1 : l1.length ≤ c1) (h : capnplaw22_UnpackTruncation.f k l0 l1 a2 = some r) {aL aT : Addr} (hL : Go.Proofs.YtcdkgccmmfjnhaaDoor.Un.LaidU w aL aT) :
    Calls Tryd.prog 6 #[.slice A0 l0.length c0, .slice A1 l1.length c1, .int .u16 a2] w fun e w' => e = .returned (.bool r) ∧ Below w.heap.size w w' := by
  have HL := Aside0.mk hL
  clear hL
  have HR0 := Aside0.mk hr0
  have HC0 := Aside0.mk hc0
  clear hr0 hc0
  have HR1 := Aside0.mk hr1
  have HC1 := Aside0.mk hc1
  clear hr1 hc1
  have HB := Aside0.mk (Below.refl w.heap.size w)
  have H : ((capnplaw22_awake.f k).bind fun t270 => (if t270 = true then (if (l0.length : Int) > 600 then (capnplaw22_UnpackTruncation.j0 k l0 l1 a2 true) else (capnplaw22_UnpackTruncation.j0 k l0 l1 a2 (decide ((l1.length : Int) > 600)))) else (capnplaw22_UnpackTruncation.j0 k l0 l1 a2 true))) = some r := h
  clear h
  have HC4 := Aside0.mk H
  clear H
  go_enter Tryd.func6, Tryd.ntmps6
  go_upto_region 1 with (fail)
  go_cut [26] (fun v26 wc => ∃ (kq : Nat) (x26_3 : Bool), v26 = .bool x26_3 ∧ Aside0 (capnplaw22_UnpackTruncation.j0 kq l0 l1 a2 x26_3 = some r) ∧ Aside0 (kq ≤ k) ∧ Aside0 (Below w.heap.size w wc))
  case first =>
    have H := HC4.out
    clear HC4
    replace H := Option.bind_eq_some_iff.mp H
    obtain ⟨t270, A50, H⟩ := H
    replace H : (if t270 = true then (if (l0.length : Int) > 600 then (capnplaw22_UnpackTruncation.j0 k l0 l1 a2 true) else (capnplaw22_UnpackTruncation.j0 k l0 l1 a2 (decide ((l1.length : Int) > 600)))) else (capnplaw22_UnpackTruncation.j0 k l0 l1 a2 true)) = some r := H
    have A5 := Aside0.mk A50
    clear A50
    by_cases c6 : t270 = true
    · subst c6
      have H1 : (if (l0.length : Int) > 600 then (capnplaw22_UnpackTruncation.j0 k l0 l1 a2 true) else (capnplaw22_UnpackTruncation.j0 k l0 l1 a2 (decide ((l1.length : Int) > 600)))) = some r := by rw [if_pos rfl] at H; exact H
      clear H
      have H := H1
      clear H1
      by_cases c7 : (l0.length : Int) > 600
      · rw [if_pos c7] at H
        have c7b0 : decide (600 < (l0.length : Int)) = true := decide_eq_true c7
        have c7b1 : decide (600 < l0.length) = true := decide_eq_true (by omega)
        clear c7
        (first | rw [c7b0] | (simp only [i64_w, i32_w]; rw [c7b0]) | skip)
        have H' := Aside0.mk H
        clear H
        go_wp2_with (first | ((with_reducible refine gate_callee (f := 8) rfl ?_); refine goesL_ (some 15) rfl rfl Tryd.func8 (by kernel_rfl) rfl #[] rfl (by (try simp only [List.map_toArray, List.map_cons, List.map_nil]); first | done | rfl | (simp only [List.length_drop, List.length_take]; rfl)) ?_; (with_reducible refine (capnplaw22_awake.calls k  true _ A5.out (Go.Proofs.YtcdkgccmmfjnhaaDoor.Un.LaidU.below HL.out (by repeat (first | (with_reducible first | exact HB.out | apply below_alloc | apply pw_below_drewN | apply below_drew1) | exact HB.out)))).mono ?_); rintro e w8 ⟨rfl, hb⟩; refine ⟨_, rfl, ?_⟩; have n0_ := Aside0.mk (below_step (by repeat (first | (with_reducible first | exact HB.out | apply below_alloc | apply pw_below_drewN | apply below_drew1) | exact HB.out)) hb); clear HB; have HB := n0_; clear n0_; (try clear hb); (try clear hb2); (try clear hk); (try clear hi)))
        go_meet
        case rel => exact ⟨_, (true), (by first | rfl | (simp; done) | (simp [*]; done)), H', ⟨by first | omega | exact Nat.le_refl _⟩, ⟨by repeat (first | (with_reducible first | exact HB.out | apply below_alloc | apply pw_below_drewN | apply below_drew1) | exact HB.out)⟩⟩
      · rw [if_neg c7] at H
        have c7b0 : decide (600 < (l0.length : Int)) = false := decide_eq_false c7
        have c7b1 : decide (600 < l0.length) = false := decide_eq_false (by omega)
        clear c7
        (first | rw [c7b0] | (simp only [i64_w, i32_w]; rw [c7b0]) | skip)
        have H' := Aside0.mk H
        clear H
        go_wp2_with (first | ((with_reducible refine gate_callee (f := 8) rfl ?_); refine goesL_ (some 15) rfl rfl Tryd.func8 (by kernel_rfl) rfl #[] rfl (by (try simp only [List.map_toArray, List.map_cons, List.map_nil]); first | done | rfl | (simp only [List.length_drop, List.length_take]; rfl)) ?_; (with_reducible refine (capnplaw22_awake.calls k  true _ A5.out (Go.Proofs.YtcdkgccmmfjnhaaDoor.Un.LaidU.below HL.out (by repeat (first | (with_reducible first | exact HB.out | apply below_alloc | apply pw_below_drewN | apply below_drew1) | exact HB.out)))).mono ?_); rintro e w9 ⟨rfl, hb⟩; refine ⟨_, rfl, ?_⟩; have n0_ := Aside0.mk (below_step (by repeat (first | (with_reducible first | exact HB.out | apply below_alloc | apply pw_below_drewN | apply below_drew1) | exact HB.out)) hb); clear HB; have HB := n0_; clear n0_; (try clear hb); (try clear hb2); (try clear hk); (try clear hi)))
        go_meet
        case rel => exact ⟨_, (decide ((l1.length : Int) > 600)), (by first | rfl | (simp; done) | (simp [*]; done)), H', ⟨by first | omega | exact Nat.le_refl _⟩, ⟨by repeat (first | (with_reducible first | exact HB.out | apply below_alloc | apply pw_below_drewN | apply below_drew1) | exact HB.out)⟩⟩
    · replace c6 := Bool.eq_false_iff.mpr c6
      subst c6
      have H1 : (capnplaw22_UnpackTruncation.j0 k l0 l1 a2 true) = some r := by rw [if_neg (show ¬ (false = true) by decide)] at H; exact H
      clear H
      have H := H1
      clear H1
      have H' := Aside0.mk H
      clear H
      go_wp2_with (first | ((with_reducible refine gate_callee (f := 8) rfl ?_); refine goesL_ (some 15) rfl rfl Tryd.func8 (by kernel_rfl) rfl #[] rfl (by (try simp only [List.map_toArray, List.map_cons, List.map_nil]); first | done | rfl | (simp only [List.length_drop, List.length_take]; rfl)) ?_; (with_reducible refine (capnplaw22_awake.calls k  false _ A5.out (Go.Proofs.YtcdkgccmmfjnhaaDoor.Un.LaidU.below HL.out (by repeat (first | (with_reducible first | exact HB.out | apply below_alloc | apply pw_below_drewN | apply below_drew1) | exact HB.out)))).mono ?_); rintro e w10 ⟨rfl, hb⟩; refine ⟨_, rfl, ?_⟩; have n0_ := Aside0.mk (below_step (by repeat (first | (with_reducible first | exact HB.out | apply below_alloc | apply pw_below_drewN | apply below_drew1) | exact HB.out)) hb); clear HB; have HB := n0_; clear n0_; (try clear hb); (try clear hb2); (try clear hk); (try clear hi)))
      go_meet
      case rel => exact ⟨_, (true), (by first | rfl | (simp; done) | (simp [*]; done)), H', ⟨by first | omega | exact Nat.le_refl _⟩, ⟨by repeat (first | (with_reducible first | exact HB.out | apply below_alloc | apply pw_below_drewN | apply below_drew1) | exact HB.out)⟩⟩
  case rest =>
    clear HC4
    try clear c1
    try clear p2
    try clear c6
    try clear c7
    try clear c7b0
    try clear c7b1
    try clear c8
    obtain ⟨kq, x26_3, rfl, HA, HJ3, HB⟩ := hcut
    cases kq with
    | zero => exact absurd HA.out (by simp [capnplaw22_UnpackTruncation.j0])
    | succ kj3 =>
      have H := HA.out
      clear HA
      simp only [capnplaw22_UnpackTruncation.j0] at H
      by_cases c11 : x26_3 = true
      · subst c11
        have H1 : ((capnplaw22_awake.f kj3).bind fun t271 => (some t271)) = some r := by rw [if_pos rfl] at H; exact H
        clear H
        have H := H1
        clear H1
        replace H := Option.bind_eq_some_iff.mp H
        obtain ⟨t271, A120, H⟩ := H
        replace H : (some t271) = some r := H
        have A12 := Aside0.mk A120
        clear A120
        obtain rfl := Option.some.inj H
        go_wp2_with (first | ((with_reducible refine gate_callee (f := 8) rfl ?_); refine goesL_ (some 27) rfl rfl Tryd.func8 (by kernel_rfl) rfl #[] rfl (by (try simp only [List.map_toArray, List.map_cons, List.map_nil]); first | done | rfl | (simp only [List.length_drop, List.length_take]; rfl)) ?_; (with_reducible refine (capnplaw22_awake.calls kj3  t271 _ A12.out (Go.Proofs.YtcdkgccmmfjnhaaDoor.Un.LaidU.below HL.out (by repeat (first | (with_reducible first | exact HB.out | apply below_alloc | apply pw_below_drewN | apply below_drew1) | exact HB.out)))).mono ?_); rintro e w13 ⟨rfl, hb⟩; refine ⟨_, rfl, ?_⟩; have n0_ := Aside0.mk (below_step (by repeat (first | (with_reducible first | exact HB.out | apply below_alloc | apply pw_below_drewN | apply below_drew1) | exact HB.out)) hb); clear HB; have HB := n0_; clear n0_; (try clear hb); (try clear hb2); (try clear hk); (try clear hi)))
        go_ret
        exact ⟨by first | rfl | (simp [errW_none, errW_some] <;> rfl) | (simp [*, errW_none, errW_some] <;> rfl), by repeat (first | (with_reducible first | exact HB.out | apply below_alloc | apply pw_below_drewN | apply below_drew1) | exact HB.out)⟩
      · replace c11 := Bool.eq_false_iff.mpr c11
        subst c11
        have H1 : ((capnpref21_Words.f kj3 l0).bind fun t272 => ((capnpref21_Words.f kj3 l1).bind fun t275 => (if (wrap64 ((t272.length : Int) + 1)) = 0 then (none) else (if 0 ≤ (Int.tmod (wrap64 (a2)) (wrap64 ((t272.length : Int) + 1))) then (if (Int.tmod (wrap64 (a2)) (wrap64 ((t272.length : Int) + 1))) ≤ (t272.length : Int) then ((unpack_Prefix.f (t272.take ((Int.tmod (wrap64 (a2)) (wrap64 ((t272.length : Int) + 1))) : Int).toNat) 1073741824).bind fun bt282 => ((capnpref01_Bytes.f kj3 l0).bind fun t286 => (if (bt282.1.length : Int) > (t286.length : Int) then (capnplaw22_UnpackTruncation.j1 kj3 l1 t272 t275 t286 true) else (if 0 ≤ (bt282.1.length : Int) then (if (bt282.1.length : Int) ≤ (t286.length : Int) then ((capnpref01_Same.f kj3 bt282.1 (t286.take ((bt282.1.length : Int) : Int).toNat)).bind fun t293 => (if t293 = true then (if bt282.2 = 11 then (capnplaw22_UnpackTruncation.j1 kj3 l1 t272 t275 t286 true) else (if (Int.tmod (wrap64 (a2)) (wrap64 ((t272.length : Int) + 1))) = (t272.length : Int) then (capnplaw22_UnpackTruncation.j1 kj3 l1 t272 t275 t286 (bt282.2 != 0)) else (capnplaw22_UnpackTruncation.j1 kj3 l1 t272 t275 t286 false))) else (capnplaw22_UnpackTruncation.j1 kj3 l1 t272 t275 t286 true))) else (none)) else (none))))) else (none)) else (none))))) = some r := by rw [if_neg (show ¬ (false = true) by decide)] at H; exact H
        clear H
        have H := H1
        clear H1
        replace H := Option.bind_eq_some_iff.mp H
        obtain ⟨t272, A140, H⟩ := H
        replace H : ((capnpref21_Words.f kj3 l1).bind fun t275 => (if (wrap64 ((t272.length : Int) + 1)) = 0 then (none) else (if 0 ≤ (Int.tmod (wrap64 (a2)) (wrap64 ((t272.length : Int) + 1))) then (if (Int.tmod (wrap64 (a2)) (wrap64 ((t272.length : Int) + 1))) ≤ (t272.length : Int) then ((unpack_Prefix.f (t272.take ((Int.tmod (wrap64 (a2)) (wrap64 ((t272.length : Int) + 1))) : Int).toNat) 1073741824).bind fun bt282 => ((capnpref01_Bytes.f kj3 l0).bind fun t286 => (if (bt282.1.length : Int) > (t286.length : Int) then (capnplaw22_UnpackTruncation.j1 kj3 l1 t272 t275 t286 true) else (if 0 ≤ (bt282.1.length : Int) then (if (bt282.1.length : Int) ≤ (t286.length : Int) then ((capnpref01_Same.f kj3 bt282.1 (t286.take ((bt282.1.length : Int) : Int).toNat)).bind fun t293 => (if t293 = true then (if bt282.2 = 11 then (capnplaw22_UnpackTruncation.j1 kj3 l1 t272 t275 t286 true) else (if (Int.tmod (wrap64 (a2)) (wrap64 ((t272.length : Int) + 1))) = (t272.length : Int) then (capnplaw22_UnpackTruncation.j1 kj3 l1 t272 t275 t286 (bt282.2 != 0)) else (capnplaw22_UnpackTruncation.j1 kj3 l1 t272 t275 t286 false))) else (capnplaw22_UnpackTruncation.j1 kj3 l1 t272 t275 t286 true))) else (none)) else (none))))) else (none)) else (none)))) = some r := H
        have A14 := Aside0.mk A140
        clear A140
        replace H := Option.bind_eq_some_iff.mp H
        obtain ⟨t275, A150, H⟩ := H
        replace H : (if (wrap64 ((t272.length : Int) + 1)) = 0 then (none) else (if 0 ≤ (Int.tmod (wrap64 (a2)) (wrap64 ((t272.length : Int) + 1))) then (if (Int.tmod (wrap64 (a2)) (wrap64 ((t272.length : Int) + 1))) ≤ (t272.length : Int) then ((unpack_Prefix.f (t272.take ((Int.tmod (wrap64 (a2)) (wrap64 ((t272.length : Int) + 1))) : Int).toNat) 1073741824).bind fun bt282 => ((capnpref01_Bytes.f kj3 l0).bind fun t286 => (if (bt282.1.length : Int) > (t286.length : Int) then (capnplaw22_UnpackTruncation.j1 kj3 l1 t272 t275 t286 true) else (if 0 ≤ (bt282.1.length : Int) then (if (bt282.1.length : Int) ≤ (t286.length : Int) then ((capnpref01_Same.f kj3 bt282.1 (t286.take ((bt282.1.length : Int) : Int).toNat)).bind fun t293 => (if t293 = true then (if bt282.2 = 11 then (capnplaw22_UnpackTruncation.j1 kj3 l1 t272 t275 t286 true) else (if (Int.tmod (wrap64 (a2)) (wrap64 ((t272.length : Int) + 1))) = (t272.length : Int) then (capnplaw22_UnpackTruncation.j1 kj3 l1 t272 t275 t286 (bt282.2 != 0)) else (capnplaw22_UnpackTruncation.j1 kj3 l1 t272 t275 t286 false))) else (capnplaw22_UnpackTruncation.j1 kj3 l1 t272 t275 t286 true))) else (none)) else (none))))) else (none)) else (none))) = some r := H
        have A15 := Aside0.mk A150
        clear A150
        by_cases c16 : (wrap64 ((t272.length : Int) + 1)) = 0
        · rw [if_pos c16] at H
          exact absurd H (by simp)
        · rw [if_neg c16] at H
          have c16b0 : ((wrap64 ((t272.length : Int) + 1)) == 0) = false := beq_eq_false_iff_ne.mpr c16
          have c16b1 : ((wrap64 ((t272.length : Int) + 1)) != 0) = true := bne_iff_ne.mpr c16
          obtain ⟨ji17, hji17⟩ : ∃ j_ : Int, (Int.tmod (wrap64 (a2)) (wrap64 ((t272.length : Int) + 1))) = j_ := ⟨_, rfl⟩
          replace H : (if 0 ≤ (ji17) then (if (ji17) ≤ (t272.length : Int) then ((unpack_Prefix.f (t272.take ((ji17) : Int).toNat) 1073741824).bind fun bt282 => ((capnpref01_Bytes.f kj3 l0).bind fun t286 => (if (bt282.1.length : Int) > (t286.length : Int) then (capnplaw22_UnpackTruncation.j1 kj3 l1 t272 t275 t286 true) else (if 0 ≤ (bt282.1.length : Int) then (if (bt282.1.length : Int) ≤ (t286.length : Int) then ((capnpref01_Same.f kj3 bt282.1 (t286.take ((bt282.1.length : Int) : Int).toNat)).bind fun t293 => (if t293 = true then (if bt282.2 = 11 then (capnplaw22_UnpackTruncation.j1 kj3 l1 t272 t275 t286 true) else (if (ji17) = (t272.length : Int) then (capnplaw22_UnpackTruncation.j1 kj3 l1 t272 t275 t286 (bt282.2 != 0)) else (capnplaw22_UnpackTruncation.j1 kj3 l1 t272 t275 t286 false))) else (capnplaw22_UnpackTruncation.j1 kj3 l1 t272 t275 t286 true))) else (none)) else (none))))) else (none)) else (none)) = some r := by first | (rw [hji17] at H; exact H) | (simp only [hji17] at H ⊢; exact H)
          (try rw [hji17] at A14)
          (try rw [hji17] at A15)
          by_cases c18 : 0 ≤ (ji17)
          · rw [if_pos c18] at H
            have c18b0 := eq_true c18
            have c18b1 : decide (0 ≤ (ji17)) = true := decide_eq_true c18
            clear c18
            by_cases c19 : (ji17) ≤ (t272.length : Int)
            · rw [if_pos c19] at H
              have c19b0 := eq_true c19
              have c19b1 : decide ((ji17) ≤ (t272.length : Int)) = true := decide_eq_true c19
              clear c19
              obtain ⟨y278, hy278⟩ : ∃ y_ : List Int, y_ = (t272.take ((ji17) : Int).toNat) := ⟨_, rfl⟩
              replace H : ((unpack_Prefix.f y278 1073741824).bind fun bt282 => ((capnpref01_Bytes.f kj3 l0).bind fun t286 => (if (bt282.1.length : Int) > (t286.length : Int) then (capnplaw22_UnpackTruncation.j1 kj3 l1 t272 t275 t286 true) else (if 0 ≤ (bt282.1.length : Int) then (if (bt282.1.length : Int) ≤ (t286.length : Int) then ((capnpref01_Same.f kj3 bt282.1 (t286.take ((bt282.1.length : Int) : Int).toNat)).bind fun t293 => (if t293 = true then (if bt282.2 = 11 then (capnplaw22_UnpackTruncation.j1 kj3 l1 t272 t275 t286 true) else (if (ji17) = (t272.length : Int) then (capnplaw22_UnpackTruncation.j1 kj3 l1 t272 t275 t286 (bt282.2 != 0)) else (capnplaw22_UnpackTruncation.j1 kj3 l1 t272 t275 t286 false))) else (capnplaw22_UnpackTruncation.j1 kj3 l1 t272 t275 t286 true))) else (none)) else (none))))) = some r := by first | (rw [hy278]; with_reducible exact H) | (have H2_ := (Option.bind_some _ _).symm.trans H; rw [hy278]; with_reducible exact H2_) | (have H2_ := (Option.bind_some _ _).symm.trans H; with_reducible exact H2_) | with_reducible exact H | (rw [hy278]; exact H) | exact H
              have Ny278 := Aside0.mk hy278
              clear hy278
              replace H := Option.bind_eq_some_iff.mp H
              obtain ⟨⟨t282, t283⟩, A200, H⟩ := H
              replace H : ((capnpref01_Bytes.f kj3 l0).bind fun t286 => (if (t282.length : Int) > (t286.length : Int) then (capnplaw22_UnpackTruncation.j1 kj3 l1 t272 t275 t286 true) else (if 0 ≤ (t282.length : Int) then (if (t282.length : Int) ≤ (t286.length : Int) then ((capnpref01_Same.f kj3 t282 (t286.take ((t282.length : Int) : Int).toNat)).bind fun t293 => (if t293 = true then (if t283 = 11 then (capnplaw22_UnpackTruncation.j1 kj3 l1 t272 t275 t286 true) else (if (ji17) = (t272.length : Int) then (capnplaw22_UnpackTruncation.j1 kj3 l1 t272 t275 t286 (t283 != 0)) else (capnplaw22_UnpackTruncation.j1 kj3 l1 t272 t275 t286 false))) else (capnplaw22_UnpackTruncation.j1 kj3 l1 t272 t275 t286 true))) else (none)) else (none)))) = some r := H
              have A20 := Aside0.mk A200
              clear A200
              replace H := Option.bind_eq_some_iff.mp H
              obtain ⟨t286, A210, H⟩ := H
              replace H : (if (t282.length : Int) > (t286.length : Int) then (capnplaw22_UnpackTruncation.j1 kj3 l1 t272 t275 t286 true) else (if 0 ≤ (t282.length : Int) then (if (t282.length : Int) ≤ (t286.length : Int) then ((capnpref01_Same.f kj3 t282 (t286.take ((t282.length : Int) : Int).toNat)).bind fun t293 => (if t293 = true then (if t283 = 11 then (capnplaw22_UnpackTruncation.j1 kj3 l1 t272 t275 t286 true) else (if (ji17) = (t272.length : Int) then (capnplaw22_UnpackTruncation.j1 kj3 l1 t272 t275 t286 (t283 != 0)) else (capnplaw22_UnpackTruncation.j1 kj3 l1 t272 t275 t286 false))) else (capnplaw22_UnpackTruncation.j1 kj3 l1 t272 t275 t286 true))) else (none)) else (none))) = some r := H
              have A21 := Aside0.mk A210
              clear A210
              have HC22 := Aside0.mk H
              clear H
              go_upto_region 8 with (first | ((with_reducible refine gate_callee (f := 16) rfl ?_); refine goesL_ (some 29) rfl rfl Tryd.func16 (by kernel_rfl) rfl #[.slice A0 l0.length c0] rfl (by (try simp only [List.map_toArray, List.map_cons, List.map_nil]); first | done | rfl | (simp only [List.length_drop, List.length_take]; rfl)) ?_; (with_reducible refine (capnpref21_Words.calls kj3 _ _ l0 t272 _ ?side1 ?side2 A14.out).mono ?_); (case side1 => repeat (first | exact (Kd.C_below HR0.out HB.out) | (with_reducible refine Kd.C_alloc ?_ _) | (with_reducible refine Kd.C_drewN ?_ _) | (with_reducible refine Kd.C_drew ?_))); (case side2 => exact HC0.out); rintro e w23 ⟨v273, rfl, ho0, hb⟩; refine ⟨_, rfl, ?_⟩; have n0_ := Aside0.mk (Kd.R_lower ho0 (below_size (by repeat (first | (with_reducible first | exact HB.out | apply below_alloc | apply pw_below_drewN | apply below_drew1) | exact HB.out)))); have n1_ := Aside0.mk (below_step (by repeat (first | (with_reducible first | exact HB.out | apply below_alloc | apply pw_below_drewN | apply below_drew1) | exact HB.out)) hb); clear HB; have HO274 := n0_; have HB := n1_; clear n0_ n1_; (try clear hb); (try clear hb2); (try clear hk); (try clear hi); (try clear ho0)) | ((with_reducible refine gate_callee (f := 16) rfl ?_); refine goesL_ (some 31) rfl rfl Tryd.func16 (by kernel_rfl) rfl #[.slice A1 l1.length c1] rfl (by (try simp only [List.map_toArray, List.map_cons, List.map_nil]); first | done | rfl | (simp only [List.length_drop, List.length_take]; rfl)) ?_; (with_reducible refine (capnpref21_Words.calls kj3 _ _ l1 t275 _ ?side1 ?side2 A15.out).mono ?_); (case side1 => repeat (first | exact (Kd.C_below HR1.out HB.out) | (with_reducible refine Kd.C_alloc ?_ _) | (with_reducible refine Kd.C_drewN ?_ _) | (with_reducible refine Kd.C_drew ?_))); (case side2 => exact HC1.out); rintro e w24 ⟨v276, rfl, ho0, hb⟩; refine ⟨_, rfl, ?_⟩; have n0_ := Aside0.mk (Kd.R_elder' (by (with_reducible repeat (first | apply Kd.R_alloc | apply Kd.R_drewN | apply Kd.R_drew)); exact HO274.out) (Kd.R_base ho0) hb); have n1_ := Aside0.mk (Kd.R_lower (Kd.R_new' ho0 (Kd.R_lt (by (with_reducible repeat (first | apply Kd.R_alloc | apply Kd.R_drewN | apply Kd.R_drew)); exact HO274.out))) (below_size (by repeat (first | (with_reducible first | exact HB.out | apply below_alloc | apply pw_below_drewN | apply below_drew1) | exact HB.out)))); have n2_ := Aside0.mk (below_step (by repeat (first | (with_reducible first | exact HB.out | apply below_alloc | apply pw_below_drewN | apply below_drew1) | exact HB.out)) hb); clear HO274; clear HB; have HO274 := n0_; have HO277 := n1_; have HB := n2_; clear n0_ n1_ n2_; (try clear hb); (try clear hb2); (try clear hk); (try clear hi); (try clear ho0); obtain ⟨Ao25, co25, eo25⟩ := Kd.R_slice HO274.out; subst eo25; have q26 : ((ji17) : Int) ≤ ((t272.length : Int) : Int) := of_decide_eq_true (by first | (with_reducible assumption) | assumption); obtain ⟨i026, hi026, _, hsz26, _⟩ := info_parts info5; have hroom26 : t272.length ≤ co25 := (Kd.R_reads' HO274.out).2.1; have hC26 : Kd.C (Kd.int .u8) _ Ao25 t272.length t272 := (Kd.R_reads' HO274.out).2.2; have hcut26 := cut_to (P := Tryd.prog) 22 5 .i64 Tryd.underlying22 hi026 Ao25 t272.length co25 (ji17) (of_decide_eq_true (by first | (with_reducible assumption) | assumption)) q26 hroom26; have hr26 := Kd.C_take (m := ((ji17) : Int).toNat) hC26 (by omega); have hy26 : y278.length = ((ji17) : Int).toNat := (by rw [Ny278.out, List.length_take]; omega); rw [← Ny278.out] at hr26; rw [← hy26] at hcut26; have HR281 := Aside0.mk hr26; have HC281 := Aside0.mk (show y278.length ≤ co25 from by omega); clear hr26 hC26 hroom26 hi026 hsz26; have KY26 := Aside0.mk hy26; clear hy26; have KL26 := Aside0.mk (show ((ji17) : Int).toNat ≤ t272.length from by omega); replace q26 := eq_true q26) | ((with_reducible refine gate_callee (f := 11) rfl ?_); refine goesL_ (some 42) rfl rfl Tryd.func11 (by kernel_rfl) rfl #[.slice Ao25 y278.length co25, .int .i64 1073741824] rfl (by (try simp only [List.map_toArray, List.map_cons, List.map_nil]); first | done | rfl | (simp only [List.length_drop, List.length_take]; rfl)) ?_; (with_reducible refine (unpack_Prefix.calls _ _ y278 1073741824 t282 t283 _ ?side1 ?side2 A20.out (Go.Proofs.YtcdkgccmmfjnhaaDoor.Un.LaidU.below HL.out (by repeat (first | (with_reducible first | exact HB.out | apply below_alloc | apply pw_below_drewN | apply below_drew1) | exact HB.out)))).mono ?_); (case side1 => repeat (first | exact (by repeat (first | (with_reducible exact HR281.out) | (with_reducible refine Kd.C_alloc ?_ _) | (with_reducible refine Kd.C_drewN ?_ _) | (with_reducible refine Kd.C_drew ?_) | exact HR281.out)) | (with_reducible refine Kd.C_alloc ?_ _) | (with_reducible refine Kd.C_drewN ?_ _) | (with_reducible refine Kd.C_drew ?_))); (case side2 => exact HC281.out); rintro e w27 ⟨v284, rfl, ho0, hb⟩; refine ⟨_, rfl, ?_⟩; have n0_ := Aside0.mk (Kd.R_elder' (by (with_reducible repeat (first | apply Kd.R_alloc | apply Kd.R_drewN | apply Kd.R_drew)); exact HO274.out) (Kd.R_base ho0) hb); have n1_ := Aside0.mk (Kd.R_elder' (by (with_reducible repeat (first | apply Kd.R_alloc | apply Kd.R_drewN | apply Kd.R_drew)); exact HO277.out) (Kd.R_base ho0) hb); have n2_ := Aside0.mk (Kd.R_lower (Kd.R_new' (Kd.R_new' ho0 (Kd.R_lt (by (with_reducible repeat (first | apply Kd.R_alloc | apply Kd.R_drewN | apply Kd.R_drew)); exact HO274.out))) (Kd.R_lt (by (with_reducible repeat (first | apply Kd.R_alloc | apply Kd.R_drewN | apply Kd.R_drew)); exact HO277.out))) (below_size (by repeat (first | (with_reducible first | exact HB.out | apply below_alloc | apply pw_below_drewN | apply below_drew1) | exact HB.out)))); have n3_ := Aside0.mk (Kd.C_below (by repeat (first | (with_reducible exact HR281.out) | (with_reducible refine Kd.C_alloc ?_ _) | (with_reducible refine Kd.C_drewN ?_ _) | (with_reducible refine Kd.C_drew ?_) | exact HR281.out)) hb); have n4_ := Aside0.mk (below_step (by repeat (first | (with_reducible first | exact HB.out | apply below_alloc | apply pw_below_drewN | apply below_drew1) | exact HB.out)) hb); clear HO274; clear HO277; clear HR281; clear HB; have HO274 := n0_; have HO277 := n1_; have HO285 := n2_; have HR281 := n3_; have HB := n4_; clear n0_ n1_ n2_ n3_ n4_; (try clear hb); (try clear hb2); (try clear hk); (try clear hi); (try clear ho0)) | ((with_reducible refine gate_callee (f := 17) rfl ?_); refine goesL_ (some 46) rfl rfl Tryd.func17 (by kernel_rfl) rfl #[.slice A0 l0.length c0] rfl (by (try simp only [List.map_toArray, List.map_cons, List.map_nil]); first | done | rfl | (simp only [List.length_drop, List.length_take]; rfl)) ?_; (with_reducible refine (capnpref01_Bytes.calls kj3 _ _ l0 t286 _ ?side1 ?side2 A21.out).mono ?_); (case side1 => repeat (first | exact (Kd.C_below HR0.out HB.out) | (with_reducible refine Kd.C_alloc ?_ _) | (with_reducible refine Kd.C_drewN ?_ _) | (with_reducible refine Kd.C_drew ?_))); (case side2 => exact HC0.out); rintro e w28 ⟨v287, rfl, ho0, hb⟩; refine ⟨_, rfl, ?_⟩; have n0_ := Aside0.mk (Kd.R_elder' (by (with_reducible repeat (first | apply Kd.R_alloc | apply Kd.R_drewN | apply Kd.R_drew)); exact HO274.out) (Kd.R_base ho0) hb); have n1_ := Aside0.mk (Kd.R_elder' (by (with_reducible repeat (first | apply Kd.R_alloc | apply Kd.R_drewN | apply Kd.R_drew)); exact HO277.out) (Kd.R_base ho0) hb); have n2_ := Aside0.mk (Kd.R_elder' (by (with_reducible repeat (first | apply Kd.R_alloc | apply Kd.R_drewN | apply Kd.R_drew)); exact HO285.out) (Kd.R_base ho0) hb); have n3_ := Aside0.mk (Kd.R_lower (Kd.R_new' (Kd.R_new' (Kd.R_new' ho0 (Kd.R_lt (by (with_reducible repeat (first | apply Kd.R_alloc | apply Kd.R_drewN | apply Kd.R_drew)); exact HO274.out))) (Kd.R_lt (by (with_reducible repeat (first | apply Kd.R_alloc | apply Kd.R_drewN | apply Kd.R_drew)); exact HO277.out))) (Kd.R_lt (by (with_reducible repeat (first | apply Kd.R_alloc | apply Kd.R_drewN | apply Kd.R_drew)); exact HO285.out))) (below_size (by repeat (first | (with_reducible first | exact HB.out | apply below_alloc | apply pw_below_drewN | apply below_drew1) | exact HB.out)))); have n4_ := Aside0.mk (Kd.C_below (by repeat (first | (with_reducible exact HR281.out) | (with_reducible refine Kd.C_alloc ?_ _) | (with_reducible refine Kd.C_drewN ?_ _) | (with_reducible refine Kd.C_drew ?_) | exact HR281.out)) hb); have n5_ := Aside0.mk (below_step (by repeat (first | (with_reducible first | exact HB.out | apply below_alloc | apply pw_below_drewN | apply below_drew1) | exact HB.out)) hb); clear HO274; clear HO277; clear HO285; clear HR281; clear HB; have HO274 := n0_; have HO277 := n1_; have HO285 := n2_; have HO288 := n3_; have HR281 := n4_; have HB := n5_; clear n0_ n1_ n2_ n3_ n4_ n5_; (try clear hb); (try clear hb2); (try clear hk); (try clear hi); (try clear ho0)))
              (try simp only [Act.put, List.setIfInBounds_toArray, List.set_cons_zero, List.set_cons_succ])
              go_cut [74] (fun v74 wc => ∃ (kq : Nat) (x74_21 : Bool), v74 = .bool x74_21 ∧ Aside0 (capnplaw22_UnpackTruncation.j1 kq l1 t272 t275 t286 x74_21 = some r) ∧ Aside0 (kq ≤ kj3) ∧ Aside0 (Kd.R (Kd.int .u8) 5 wc w.heap.size (fun k_ => some k_ ≠ (v276 : Value).ownBlock ∧ some k_ ≠ (v287 : Value).ownBlock) (.slice Ao25 t272.length co25) t272) ∧ Aside0 (Kd.R (Kd.int .u8) 5 wc w.heap.size (fun k_ => some k_ ≠ ((.slice Ao25 t272.length co25) : Value).ownBlock ∧ some k_ ≠ (v287 : Value).ownBlock) v276 t275) ∧ Aside0 (Kd.R (Kd.int .u8) 5 wc w.heap.size (fun k_ => some k_ ≠ ((.slice Ao25 t272.length co25) : Value).ownBlock ∧ some k_ ≠ (v276 : Value).ownBlock) v287 t286) ∧ Aside0 (Kd.C (Kd.int .u8) wc Ao25 y278.length y278) ∧ Aside0 (Below w.heap.size w wc))
              case first =>
                have H := HC22.out
                clear HC22
                by_cases c29 : (t282.length : Int) > (t286.length : Int)
                · rw [if_pos c29] at H
                  have c29b0 : decide ((t286.length : Int) < (t282.length : Int)) = true := decide_eq_true c29
                  have c29b1 : decide (t286.length < t282.length) = true := decide_eq_true (Int.ofNat_lt.mp c29)
                  clear c29
                  (first | rw [c29b0] | (simp only [i64_w, i32_w]; rw [c29b0]) | skip)
                  have H' := Aside0.mk H
                  clear H
                  obtain ⟨Ao30, co30, eo30⟩ := Kd.R_slice HO285.out
                  subst eo30
                  obtain ⟨Ao31, co31, eo31⟩ := Kd.R_slice HO288.out
                  subst eo31
                  go_wp2
                  go_meet
                  case rel => exact ⟨_, (true), (by first | rfl | (simp; done) | (simp [*]; done)), H', ⟨by have := HJ3.out; first | omega | exact Nat.le_refl _⟩, ⟨by (with_reducible repeat (first | apply Kd.R_alloc | apply Kd.R_drewN | apply Kd.R_drew)); exact Kd.R_mono HO274.out (fun _ hk => ⟨hk.1.1.2, hk.2⟩)⟩, ⟨by (with_reducible repeat (first | apply Kd.R_alloc | apply Kd.R_drewN | apply Kd.R_drew)); exact Kd.R_mono HO277.out (fun _ hk => ⟨hk.1.1.2, hk.2⟩)⟩, ⟨by (with_reducible repeat (first | apply Kd.R_alloc | apply Kd.R_drewN | apply Kd.R_drew)); exact Kd.R_mono HO288.out (fun _ hk => ⟨hk.1.1.2, hk.1.2⟩)⟩, ⟨by repeat (first | (with_reducible exact HR281.out) | (with_reducible refine Kd.C_alloc ?_ _) | (with_reducible refine Kd.C_drewN ?_ _) | (with_reducible refine Kd.C_drew ?_) | exact HR281.out)⟩, ⟨by repeat (first | (with_reducible first | exact HB.out | apply below_alloc | apply pw_below_drewN | apply below_drew1) | exact HB.out)⟩⟩
                · rw [if_neg c29] at H
                  have c29b0 : decide ((t286.length : Int) < (t282.length : Int)) = false := decide_eq_false c29
                  have c29b1 : decide (t286.length < t282.length) = false := decide_eq_false (fun h => c29 (Int.ofNat_lt.mpr h))
                  clear c29
                  (first | rw [c29b0] | (simp only [i64_w, i32_w]; rw [c29b0]) | skip)
                  by_cases c32 : 0 ≤ (t282.length : Int)
                  · rw [if_pos c32] at H
                    have c32b0 := eq_true c32
                    have c32b1 : decide (0 ≤ (t282.length : Int)) = true := decide_eq_true c32
                    clear c32
                    by_cases c33 : (t282.length : Int) ≤ (t286.length : Int)
                    · rw [if_pos c33] at H
                      have c33b0 := eq_true c33
                      have c33b1 : decide ((t282.length : Int) ≤ (t286.length : Int)) = true := decide_eq_true c33
                      clear c33
                      obtain ⟨y289, hy289⟩ : ∃ y_ : List Int, y_ = (t286.take ((t282.length : Int) : Int).toNat) := ⟨_, rfl⟩
                      replace H : ((capnpref01_Same.f kj3 t282 y289).bind fun t293 => (if t293 = true then (if t283 = 11 then (capnplaw22_UnpackTruncation.j1 kj3 l1 t272 t275 t286 true) else (if (ji17) = (t272.length : Int) then (capnplaw22_UnpackTruncation.j1 kj3 l1 t272 t275 t286 (t283 != 0)) else (capnplaw22_UnpackTruncation.j1 kj3 l1 t272 t275 t286 false))) else (capnplaw22_UnpackTruncation.j1 kj3 l1 t272 t275 t286 true))) = some r := by first | (rw [hy289]; with_reducible exact H) | (have H2_ := (Option.bind_some _ _).symm.trans H; rw [hy289]; with_reducible exact H2_) | (have H2_ := (Option.bind_some _ _).symm.trans H; with_reducible exact H2_) | with_reducible exact H | (rw [hy289]; exact H) | exact H
                      have Ny289 := Aside0.mk hy289
                      clear hy289
                      replace H := Option.bind_eq_some_iff.mp H
                      obtain ⟨t293, A340, H⟩ := H
                      replace H : (if t293 = true then (if t283 = 11 then (capnplaw22_UnpackTruncation.j1 kj3 l1 t272 t275 t286 true) else (if (ji17) = (t272.length : Int) then (capnplaw22_UnpackTruncation.j1 kj3 l1 t272 t275 t286 (t283 != 0)) else (capnplaw22_UnpackTruncation.j1 kj3 l1 t272 t275 t286 false))) else (capnplaw22_UnpackTruncation.j1 kj3 l1 t272 t275 t286 true)) = some r := H
                      have A34 := Aside0.mk A340
                      clear A340
                      by_cases c35 : t293 = true
                      · subst c35
                        have H1 : (if t283 = 11 then (capnplaw22_UnpackTruncation.j1 kj3 l1 t272 t275 t286 true) else (if (ji17) = (t272.length : Int) then (capnplaw22_UnpackTruncation.j1 kj3 l1 t272 t275 t286 (t283 != 0)) else (capnplaw22_UnpackTruncation.j1 kj3 l1 t272 t275 t286 false))) = some r := by rw [if_pos rfl] at H; exact H
                        clear H
                        have H := H1
                        clear H1
                        by_cases c36 : t283 = 11
                        · rw [if_pos c36] at H
                          have c36b0 : (t283 == 11) = true := beq_iff_eq.mpr c36
                          have c36b1 : (t283 != 11) = false := bne_eq_false_iff_eq.mpr c36
                          clear c36
                          have H' := Aside0.mk H
                          clear H
                          obtain ⟨Ao37, co37, eo37⟩ := Kd.R_slice HO285.out
                          subst eo37
                          obtain ⟨Ao38, co38, eo38⟩ := Kd.R_slice HO288.out
                          subst eo38
                          have q39 : ((t282.length : Int) : Int) ≤ ((t286.length : Int) : Int) := of_decide_eq_true (by first | (with_reducible assumption) | assumption)
                          obtain ⟨i039, hi039, _, hsz39, _⟩ := info_parts info5
                          have hroom39 : t286.length ≤ co38 := (Kd.R_reads' HO288.out).2.1
                          have hC39 : Kd.C (Kd.int .u8) _ Ao38 t286.length t286 := (Kd.R_reads' HO288.out).2.2
                          have hcut39 := cut_to (P := Tryd.prog) 22 5 .i64 Tryd.underlying22 hi039 Ao38 t286.length co38 (t282.length : Int) (of_decide_eq_true (by first | (with_reducible assumption) | assumption)) q39 hroom39
                          have hr39 := Kd.C_take (m := ((t282.length : Int) : Int).toNat) hC39 (by omega)
                          have hy39 : y289.length = ((t282.length : Int) : Int).toNat := (by rw [Ny289.out, List.length_take]; omega)
                          rw [← Ny289.out] at hr39
                          rw [← hy39] at hcut39
                          have HR292 := Aside0.mk hr39
                          have HC292 := Aside0.mk (show y289.length ≤ co38 from by omega)
                          clear hr39 hC39 hroom39 hi039 hsz39
                          have KY39 := Aside0.mk hy39
                          clear hy39
                          have KL39 := Aside0.mk (show ((t282.length : Int) : Int).toNat ≤ t286.length from by omega)
                          replace q39 := eq_true q39
                          go_wp2_with (first | (go_at_call 13; (with_reducible refine (capnpref01_Same.calls kj3 _ _ t282 _ _ y289 true _ ?side1 ?side2 ?side3 ?side4 A34.out).mono ?_); (case side1 => repeat (first | exact (Kd.R_reads' HO285.out).2.2 | (with_reducible refine Kd.C_alloc ?_ _) | (with_reducible refine Kd.C_drewN ?_ _) | (with_reducible refine Kd.C_drew ?_))); (case side2 => exact (Kd.R_reads' HO285.out).2.1); (case side3 => repeat (first | exact (by repeat (first | (with_reducible exact HR292.out) | (with_reducible refine Kd.C_alloc ?_ _) | (with_reducible refine Kd.C_drewN ?_ _) | (with_reducible refine Kd.C_drew ?_) | exact HR292.out)) | (with_reducible refine Kd.C_alloc ?_ _) | (with_reducible refine Kd.C_drewN ?_ _) | (with_reducible refine Kd.C_drew ?_))); (case side4 => exact HC292.out); rintro e w' ⟨rfl, ⟨nd, rfl⟩⟩))
                          go_meet
                          case rel => exact ⟨_, (true), (by first | rfl | (simp; done) | (simp [*]; done)), H', ⟨by have := HJ3.out; first | omega | exact Nat.le_refl _⟩, ⟨by (with_reducible repeat (first | apply Kd.R_alloc | apply Kd.R_drewN | apply Kd.R_drew)); exact Kd.R_mono HO274.out (fun _ hk => ⟨hk.1.1.2, hk.2⟩)⟩, ⟨by (with_reducible repeat (first | apply Kd.R_alloc | apply Kd.R_drewN | apply Kd.R_drew)); exact Kd.R_mono HO277.out (fun _ hk => ⟨hk.1.1.2, hk.2⟩)⟩, ⟨by (with_reducible repeat (first | apply Kd.R_alloc | apply Kd.R_drewN | apply Kd.R_drew)); exact Kd.R_mono HO288.out (fun _ hk => ⟨hk.1.1.2, hk.1.2⟩)⟩, ⟨by repeat (first | (with_reducible exact HR281.out) | (with_reducible refine Kd.C_alloc ?_ _) | (with_reducible refine Kd.C_drewN ?_ _) | (with_reducible refine Kd.C_drew ?_) | exact HR281.out)⟩, ⟨by repeat (first | (with_reducible first | exact HB.out | apply below_alloc | apply pw_below_drewN | apply below_drew1) | exact HB.out)⟩⟩
                        · rw [if_neg c36] at H
                          have c36b0 : (t283 == 11) = false := beq_eq_false_iff_ne.mpr c36
                          have c36b1 : (t283 != 11) = true := bne_iff_ne.mpr c36
                          by_cases c40 : (ji17) = (t272.length : Int)
                          · rw [if_pos c40] at H
                            have c40b0 : ((ji17) == (t272.length : Int)) = true := beq_iff_eq.mpr c40
                            have c40b1 : ((ji17) != (t272.length : Int)) = false := bne_eq_false_iff_eq.mpr c40
                            clear c40
                            have H' := Aside0.mk H
                            clear H
                            obtain ⟨Ao41, co41, eo41⟩ := Kd.R_slice HO285.out
                            subst eo41
                            obtain ⟨Ao42, co42, eo42⟩ := Kd.R_slice HO288.out
                            subst eo42
                            have q43 : ((t282.length : Int) : Int) ≤ ((t286.length : Int) : Int) := of_decide_eq_true (by first | (with_reducible assumption) | assumption)
                            obtain ⟨i043, hi043, _, hsz43, _⟩ := info_parts info5
                            have hroom43 : t286.length ≤ co42 := (Kd.R_reads' HO288.out).2.1
                            have hC43 : Kd.C (Kd.int .u8) _ Ao42 t286.length t286 := (Kd.R_reads' HO288.out).2.2
                            have hcut43 := cut_to (P := Tryd.prog) 22 5 .i64 Tryd.underlying22 hi043 Ao42 t286.length co42 (t282.length : Int) (of_decide_eq_true (by first | (with_reducible assumption) | assumption)) q43 hroom43
                            have hr43 := Kd.C_take (m := ((t282.length : Int) : Int).toNat) hC43 (by omega)
                            have hy43 : y289.length = ((t282.length : Int) : Int).toNat := (by rw [Ny289.out, List.length_take]; omega)
                            rw [← Ny289.out] at hr43
                            rw [← hy43] at hcut43
                            have HR292 := Aside0.mk hr43
                            have HC292 := Aside0.mk (show y289.length ≤ co42 from by omega)
                            clear hr43 hC43 hroom43 hi043 hsz43
                            have KY43 := Aside0.mk hy43
                            clear hy43
                            have KL43 := Aside0.mk (show ((t282.length : Int) : Int).toNat ≤ t286.length from by omega)
                            replace q43 := eq_true q43
                            go_wp2_with (first | (go_at_call 13; (with_reducible refine (capnpref01_Same.calls kj3 _ _ t282 _ _ y289 true _ ?side1 ?side2 ?side3 ?side4 A34.out).mono ?_); (case side1 => repeat (first | exact (Kd.R_reads' HO285.out).2.2 | (with_reducible refine Kd.C_alloc ?_ _) | (with_reducible refine Kd.C_drewN ?_ _) | (with_reducible refine Kd.C_drew ?_))); (case side2 => exact (Kd.R_reads' HO285.out).2.1); (case side3 => repeat (first | exact (by repeat (first | (with_reducible exact HR292.out) | (with_reducible refine Kd.C_alloc ?_ _) | (with_reducible refine Kd.C_drewN ?_ _) | (with_reducible refine Kd.C_drew ?_) | exact HR292.out)) | (with_reducible refine Kd.C_alloc ?_ _) | (with_reducible refine Kd.C_drewN ?_ _) | (with_reducible refine Kd.C_drew ?_))); (case side4 => exact HC292.out); rintro e w' ⟨rfl, ⟨nd, rfl⟩⟩))
                            go_meet
                            case rel => exact ⟨_, ((t283 != 0)), (by first | rfl | (simp; done) | (simp [*]; done)), H', ⟨by have := HJ3.out; first | omega | exact Nat.le_refl _⟩, ⟨by (with_reducible repeat (first | apply Kd.R_alloc | apply Kd.R_drewN | apply Kd.R_drew)); exact Kd.R_mono HO274.out (fun _ hk => ⟨hk.1.1.2, hk.2⟩)⟩, ⟨by (with_reducible repeat (first | apply Kd.R_alloc | apply Kd.R_drewN | apply Kd.R_drew)); exact Kd.R_mono HO277.out (fun _ hk => ⟨hk.1.1.2, hk.2⟩)⟩, ⟨by (with_reducible repeat (first | apply Kd.R_alloc | apply Kd.R_drewN | apply Kd.R_drew)); exact Kd.R_mono HO288.out (fun _ hk => ⟨hk.1.1.2, hk.1.2⟩)⟩, ⟨by repeat (first | (with_reducible exact HR281.out) | (with_reducible refine Kd.C_alloc ?_ _) | (with_reducible refine Kd.C_drewN ?_ _) | (with_reducible refine Kd.C_drew ?_) | exact HR281.out)⟩, ⟨by repeat (first | (with_reducible first | exact HB.out | apply below_alloc | apply pw_below_drewN | apply below_drew1) | exact HB.out)⟩⟩
                          · rw [if_neg c40] at H
                            have c40b0 : ((ji17) == (t272.length : Int)) = false := beq_eq_false_iff_ne.mpr c40
                            have c40b1 : ((ji17) != (t272.length : Int)) = true := bne_iff_ne.mpr c40
                            have H' := Aside0.mk H
                            clear H
                            obtain ⟨Ao44, co44, eo44⟩ := Kd.R_slice HO285.out
                            subst eo44
                            obtain ⟨Ao45, co45, eo45⟩ := Kd.R_slice HO288.out
                            subst eo45
                            have q46 : ((t282.length : Int) : Int) ≤ ((t286.length : Int) : Int) := of_decide_eq_true (by first | (with_reducible assumption) | assumption)
                            obtain ⟨i046, hi046, _, hsz46, _⟩ := info_parts info5
                            have hroom46 : t286.length ≤ co45 := (Kd.R_reads' HO288.out).2.1
                            have hC46 : Kd.C (Kd.int .u8) _ Ao45 t286.length t286 := (Kd.R_reads' HO288.out).2.2
                            have hcut46 := cut_to (P := Tryd.prog) 22 5 .i64 Tryd.underlying22 hi046 Ao45 t286.length co45 (t282.length : Int) (of_decide_eq_true (by first | (with_reducible assumption) | assumption)) q46 hroom46
                            have hr46 := Kd.C_take (m := ((t282.length : Int) : Int).toNat) hC46 (by omega)
                            have hy46 : y289.length = ((t282.length : Int) : Int).toNat := (by rw [Ny289.out, List.length_take]; omega)
                            rw [← Ny289.out] at hr46
                            rw [← hy46] at hcut46
                            have HR292 := Aside0.mk hr46
                            have HC292 := Aside0.mk (show y289.length ≤ co45 from by omega)
                            clear hr46 hC46 hroom46 hi046 hsz46
                            have KY46 := Aside0.mk hy46
                            clear hy46
                            have KL46 := Aside0.mk (show ((t282.length : Int) : Int).toNat ≤ t286.length from by omega)
                            replace q46 := eq_true q46
                            go_wp2_with (first | (go_at_call 13; (with_reducible refine (capnpref01_Same.calls kj3 _ _ t282 _ _ y289 true _ ?side1 ?side2 ?side3 ?side4 A34.out).mono ?_); (case side1 => repeat (first | exact (Kd.R_reads' HO285.out).2.2 | (with_reducible refine Kd.C_alloc ?_ _) | (with_reducible refine Kd.C_drewN ?_ _) | (with_reducible refine Kd.C_drew ?_))); (case side2 => exact (Kd.R_reads' HO285.out).2.1); (case side3 => repeat (first | exact (by repeat (first | (with_reducible exact HR292.out) | (with_reducible refine Kd.C_alloc ?_ _) | (with_reducible refine Kd.C_drewN ?_ _) | (with_reducible refine Kd.C_drew ?_) | exact HR292.out)) | (with_reducible refine Kd.C_alloc ?_ _) | (with_reducible refine Kd.C_drewN ?_ _) | (with_reducible refine Kd.C_drew ?_))); (case side4 => exact HC292.out); rintro e w' ⟨rfl, ⟨nd, rfl⟩⟩))
                            go_meet
                            case rel => exact ⟨_, (false), (by first | rfl | (simp; done) | (simp [*]; done)), H', ⟨by have := HJ3.out; first | omega | exact Nat.le_refl _⟩, ⟨by (with_reducible repeat (first | apply Kd.R_alloc | apply Kd.R_drewN | apply Kd.R_drew)); exact Kd.R_mono HO274.out (fun _ hk => ⟨hk.1.1.2, hk.2⟩)⟩, ⟨by (with_reducible repeat (first | apply Kd.R_alloc | apply Kd.R_drewN | apply Kd.R_drew)); exact Kd.R_mono HO277.out (fun _ hk => ⟨hk.1.1.2, hk.2⟩)⟩, ⟨by (with_reducible repeat (first | apply Kd.R_alloc | apply Kd.R_drewN | apply Kd.R_drew)); exact Kd.R_mono HO288.out (fun _ hk => ⟨hk.1.1.2, hk.1.2⟩)⟩, ⟨by repeat (first | (with_reducible exact HR281.out) | (with_reducible refine Kd.C_alloc ?_ _) | (with_reducible refine Kd.C_drewN ?_ _) | (with_reducible refine Kd.C_drew ?_) | exact HR281.out)⟩, ⟨by repeat (first | (with_reducible first | exact HB.out | apply below_alloc | apply pw_below_drewN | apply below_drew1) | exact HB.out)⟩⟩
                      · replace c35 := Bool.eq_false_iff.mpr c35
                        subst c35
                        have H1 : (capnplaw22_UnpackTruncation.j1 kj3 l1 t272 t275 t286 true) = some r := by rw [if_neg (show ¬ (false = true) by decide)] at H; exact H
                        clear H
                        have H := H1
                        clear H1
                        have H' := Aside0.mk H
                        clear H
                        obtain ⟨Ao47, co47, eo47⟩ := Kd.R_slice HO285.out
                        subst eo47
                        obtain ⟨Ao48, co48, eo48⟩ := Kd.R_slice HO288.out
                        subst eo48
                        have q49 : ((t282.length : Int) : Int) ≤ ((t286.length : Int) : Int) := of_decide_eq_true (by first | (with_reducible assumption) | assumption)
                        obtain ⟨i049, hi049, _, hsz49, _⟩ := info_parts info5
                        have hroom49 : t286.length ≤ co48 := (Kd.R_reads' HO288.out).2.1
                        have hC49 : Kd.C (Kd.int .u8) _ Ao48 t286.length t286 := (Kd.R_reads' HO288.out).2.2
                        have hcut49 := cut_to (P := Tryd.prog) 22 5 .i64 Tryd.underlying22 hi049 Ao48 t286.length co48 (t282.length : Int) (of_decide_eq_true (by first | (with_reducible assumption) | assumption)) q49 hroom49
                        have hr49 := Kd.C_take (m := ((t282.length : Int) : Int).toNat) hC49 (by omega)
                        have hy49 : y289.length = ((t282.length : Int) : Int).toNat := (by rw [Ny289.out, List.length_take]; omega)
                        rw [← Ny289.out] at hr49
                        rw [← hy49] at hcut49
                        have HR292 := Aside0.mk hr49
                        have HC292 := Aside0.mk (show y289.length ≤ co48 from by omega)
                        clear hr49 hC49 hroom49 hi049 hsz49
                        have KY49 := Aside0.mk hy49
                        clear hy49
                        have KL49 := Aside0.mk (show ((t282.length : Int) : Int).toNat ≤ t286.length from by omega)
                        replace q49 := eq_true q49
                        go_wp2_with (first | (go_at_call 13; (with_reducible refine (capnpref01_Same.calls kj3 _ _ t282 _ _ y289 false _ ?side1 ?side2 ?side3 ?side4 A34.out).mono ?_); (case side1 => repeat (first | exact (Kd.R_reads' HO285.out).2.2 | (with_reducible refine Kd.C_alloc ?_ _) | (with_reducible refine Kd.C_drewN ?_ _) | (with_reducible refine Kd.C_drew ?_))); (case side2 => exact (Kd.R_reads' HO285.out).2.1); (case side3 => repeat (first | exact (by repeat (first | (with_reducible exact HR292.out) | (with_reducible refine Kd.C_alloc ?_ _) | (with_reducible refine Kd.C_drewN ?_ _) | (with_reducible refine Kd.C_drew ?_) | exact HR292.out)) | (with_reducible refine Kd.C_alloc ?_ _) | (with_reducible refine Kd.C_drewN ?_ _) | (with_reducible refine Kd.C_drew ?_))); (case side4 => exact HC292.out); rintro e w' ⟨rfl, ⟨nd, rfl⟩⟩))
                        go_meet
                        case rel => exact ⟨_, (true), (by first | rfl | (simp; done) | (simp [*]; done)), H', ⟨by have := HJ3.out; first | omega | exact Nat.le_refl _⟩, ⟨by (with_reducible repeat (first | apply Kd.R_alloc | apply Kd.R_drewN | apply Kd.R_drew)); exact Kd.R_mono HO274.out (fun _ hk => ⟨hk.1.1.2, hk.2⟩)⟩, ⟨by (with_reducible repeat (first | apply Kd.R_alloc | apply Kd.R_drewN | apply Kd.R_drew)); exact Kd.R_mono HO277.out (fun _ hk => ⟨hk.1.1.2, hk.2⟩)⟩, ⟨by (with_reducible repeat (first | apply Kd.R_alloc | apply Kd.R_drewN | apply Kd.R_drew)); exact Kd.R_mono HO288.out (fun _ hk => ⟨hk.1.1.2, hk.1.2⟩)⟩, ⟨by repeat (first | (with_reducible exact HR281.out) | (with_reducible refine Kd.C_alloc ?_ _) | (with_reducible refine Kd.C_drewN ?_ _) | (with_reducible refine Kd.C_drew ?_) | exact HR281.out)⟩, ⟨by repeat (first | (with_reducible first | exact HB.out | apply below_alloc | apply pw_below_drewN | apply below_drew1) | exact HB.out)⟩⟩
                    · rw [if_neg c33] at H
                      exact absurd H (by simp)
                  · rw [if_neg c32] at H
                    exact absurd H (by simp)
              case rest =>
                clear HC22
                try clear c1
                try clear c2
                try clear p2
                try clear q2
                try clear c3
                try clear q3
                try clear c4
                try clear q4
                try clear c6
                try clear p6
                try clear c7
                try clear c7b0
                try clear c7b1
                try clear c8
                try clear c11
                try clear c16
                try clear c16b0
                try clear c16b1
                try clear c17
                try clear c18
                try clear c18b0
                try clear c18b1
                try clear c19
                try clear c19b0
                try clear c19b1
                try clear q26
                try clear c29
                try clear c29b0
                try clear c29b1
                try clear c32
                try clear c32b0
                try clear c32b1
                try clear c33
                try clear c33b0
                try clear c33b1
                try clear c35
                try clear c36
                try clear c36b0
                try clear c36b1
                try clear q39
                try clear c40
                try clear c40b0
                try clear c40b1
                try clear q43
                try clear q46
                try clear q49
                try clear p2
                try clear q26
                try clear q39
                try clear q43
                try clear q46
                try clear q49
                obtain ⟨kq, x74_21, rfl, HA, HJ21, HO_7, HO_8, HO_12, HR281, HB⟩ := hcut
                cases kq with
                | zero => exact absurd HA.out (by simp [capnplaw22_UnpackTruncation.j1])
                | succ kj21 =>
                  have H := HA.out
                  clear HA
                  simp only [capnplaw22_UnpackTruncation.j1] at H
                  by_cases c50 : x74_21 = true
                  · subst c50
                    have H1 : (some false) = some r := by rw [if_pos rfl] at H; exact H
                    clear H
                    have H := H1
                    clear H1
                    obtain rfl := Option.some.inj H
                    go_wp2
                    go_ret
                    exact ⟨by first | rfl | (simp [errW_none, errW_some] <;> rfl) | (simp only [← hji17]; first | rfl | (simp [errW_none, errW_some] <;> rfl)) | (simp [*, errW_none, errW_some] <;> rfl), by repeat (first | (with_reducible first | exact HB.out | apply below_alloc | apply pw_below_drewN | apply below_drew1) | exact HB.out)⟩
                  · replace c50 := Bool.eq_false_iff.mpr c50
                    subst c50
                    have H1 : ((some (([] : List Int) : List Int)).bind fun y294 => (if y294.length + t272.length < 140737488355328 then ((some (y294 ++ t272 : List Int)).bind fun y297 => (if y297.length + t275.length < 140737488355328 then ((unpack_Bytes.f (y297 ++ t275) 1073741824).bind fun bt303 => (if bt303.2 = 0 then ((some (([] : List Int) : List Int)).bind fun y307 => (if y307.length + t286.length < 140737488355328 then ((some (y307 ++ t286 : List Int)).bind fun y310 => ((capnpref01_Bytes.f kj21 l1).bind fun t313 => (if y310.length + t313.length < 140737488355328 then ((capnpref01_Same.f kj21 bt303.1 (y310 ++ t313)).bind fun t319 => (some t319)) else (none)))) else (none))) else (none))) else (none))) else (none))) = some r := by rw [if_neg (show ¬ (false = true) by decide)] at H; exact H
                    clear H
                    have H := H1
                    clear H1
                    obtain ⟨y294, hy294⟩ : ∃ y_ : List Int, y_ = (([] : List Int)) := ⟨_, rfl⟩
                    replace H : (if y294.length + t272.length < 140737488355328 then ((some (y294 ++ t272 : List Int)).bind fun y297 => (if y297.length + t275.length < 140737488355328 then ((unpack_Bytes.f (y297 ++ t275) 1073741824).bind fun bt303 => (if bt303.2 = 0 then ((some (([] : List Int) : List Int)).bind fun y307 => (if y307.length + t286.length < 140737488355328 then ((some (y307 ++ t286 : List Int)).bind fun y310 => ((capnpref01_Bytes.f kj21 l1).bind fun t313 => (if y310.length + t313.length < 140737488355328 then ((capnpref01_Same.f kj21 bt303.1 (y310 ++ t313)).bind fun t319 => (some t319)) else (none)))) else (none))) else (none))) else (none))) else (none)) = some r := by first | (rw [hy294]; with_reducible exact H) | (have H2_ := (Option.bind_some _ _).symm.trans H; rw [hy294]; with_reducible exact H2_) | (have H2_ := (Option.bind_some _ _).symm.trans H; with_reducible exact H2_) | with_reducible exact H | (rw [hy294]; exact H) | exact H
                    have Ny294 := Aside0.mk hy294
                    clear hy294
                    by_cases c51 : y294.length + t272.length < 140737488355328
                    · rw [if_pos c51] at H
                      have LMc51 := Aside0.mk c51
                      clear c51
                      obtain ⟨y297, hy297⟩ : ∃ y_ : List Int, y_ = (y294 ++ t272) := ⟨_, rfl⟩
                      replace H : (if y297.length + t275.length < 140737488355328 then ((unpack_Bytes.f (y297 ++ t275) 1073741824).bind fun bt303 => (if bt303.2 = 0 then ((some (([] : List Int) : List Int)).bind fun y307 => (if y307.length + t286.length < 140737488355328 then ((some (y307 ++ t286 : List Int)).bind fun y310 => ((capnpref01_Bytes.f kj21 l1).bind fun t313 => (if y310.length + t313.length < 140737488355328 then ((capnpref01_Same.f kj21 bt303.1 (y310 ++ t313)).bind fun t319 => (some t319)) else (none)))) else (none))) else (none))) else (none)) = some r := by first | (rw [hy297]; with_reducible exact H) | (have H2_ := (Option.bind_some _ _).symm.trans H; rw [hy297]; with_reducible exact H2_) | (have H2_ := (Option.bind_some _ _).symm.trans H; with_reducible exact H2_) | with_reducible exact H | (rw [hy297]; exact H) | exact H
                      have Ny297 := Aside0.mk hy297
                      clear hy297
                      by_cases c52 : y297.length + t275.length < 140737488355328
                      · rw [if_pos c52] at H
                        have LMc52 := Aside0.mk c52
                        clear c52
                        obtain ⟨y300, hy300⟩ : ∃ y_ : List Int, y_ = (y297 ++ t275) := ⟨_, rfl⟩
                        replace H : ((unpack_Bytes.f y300 1073741824).bind fun bt303 => (if bt303.2 = 0 then ((some (([] : List Int) : List Int)).bind fun y307 => (if y307.length + t286.length < 140737488355328 then ((some (y307 ++ t286 : List Int)).bind fun y310 => ((capnpref01_Bytes.f kj21 l1).bind fun t313 => (if y310.length + t313.length < 140737488355328 then ((capnpref01_Same.f kj21 bt303.1 (y310 ++ t313)).bind fun t319 => (some t319)) else (none)))) else (none))) else (none))) = some r := by first | (rw [hy300]; with_reducible exact H) | (have H2_ := (Option.bind_some _ _).symm.trans H; rw [hy300]; with_reducible exact H2_) | (have H2_ := (Option.bind_some _ _).symm.trans H; with_reducible exact H2_) | with_reducible exact H | (rw [hy300]; exact H) | exact H
                        have Ny300 := Aside0.mk hy300
                        clear hy300
                        replace H := Option.bind_eq_some_iff.mp H
                        obtain ⟨⟨t303, t304⟩, A530, H⟩ := H
                        replace H : (if t304 = 0 then ((some (([] : List Int) : List Int)).bind fun y307 => (if y307.length + t286.length < 140737488355328 then ((some (y307 ++ t286 : List Int)).bind fun y310 => ((capnpref01_Bytes.f kj21 l1).bind fun t313 => (if y310.length + t313.length < 140737488355328 then ((capnpref01_Same.f kj21 t303 (y310 ++ t313)).bind fun t319 => (some t319)) else (none)))) else (none))) else (none)) = some r := H
                        have A53 := Aside0.mk A530
                        clear A530
                        by_cases c54 : t304 = 0
                        · rw [if_pos c54] at H
                          have c54b0 : (t304 == 0) = true := beq_iff_eq.mpr c54
                          have c54b1 : (t304 != 0) = false := bne_eq_false_iff_eq.mpr c54
                          clear c54
                          obtain ⟨y307, hy307⟩ : ∃ y_ : List Int, y_ = (([] : List Int)) := ⟨_, rfl⟩
                          replace H : (if y307.length + t286.length < 140737488355328 then ((some (y307 ++ t286 : List Int)).bind fun y310 => ((capnpref01_Bytes.f kj21 l1).bind fun t313 => (if y310.length + t313.length < 140737488355328 then ((capnpref01_Same.f kj21 t303 (y310 ++ t313)).bind fun t319 => (some t319)) else (none)))) else (none)) = some r := by first | (rw [hy307]; with_reducible exact H) | (have H2_ := (Option.bind_some _ _).symm.trans H; rw [hy307]; with_reducible exact H2_) | (have H2_ := (Option.bind_some _ _).symm.trans H; with_reducible exact H2_) | with_reducible exact H | (rw [hy307]; exact H) | exact H
                          have Ny307 := Aside0.mk hy307
                          clear hy307
                          by_cases c55 : y307.length + t286.length < 140737488355328
                          · rw [if_pos c55] at H
                            have LMc55 := Aside0.mk c55
                            clear c55
                            obtain ⟨y310, hy310⟩ : ∃ y_ : List Int, y_ = (y307 ++ t286) := ⟨_, rfl⟩
                            replace H : ((capnpref01_Bytes.f kj21 l1).bind fun t313 => (if y310.length + t313.length < 140737488355328 then ((capnpref01_Same.f kj21 t303 (y310 ++ t313)).bind fun t319 => (some t319)) else (none))) = some r := by first | (rw [hy310]; with_reducible exact H) | (have H2_ := (Option.bind_some _ _).symm.trans H; rw [hy310]; with_reducible exact H2_) | (have H2_ := (Option.bind_some _ _).symm.trans H; with_reducible exact H2_) | with_reducible exact H | (rw [hy310]; exact H) | exact H
                            have Ny310 := Aside0.mk hy310
                            clear hy310
                            replace H := Option.bind_eq_some_iff.mp H
                            obtain ⟨t313, A560, H⟩ := H
                            replace H : (if y310.length + t313.length < 140737488355328 then ((capnpref01_Same.f kj21 t303 (y310 ++ t313)).bind fun t319 => (some t319)) else (none)) = some r := H
                            have A56 := Aside0.mk A560
                            clear A560
                            by_cases c57 : y310.length + t313.length < 140737488355328
                            · rw [if_pos c57] at H
                              have LMc57 := Aside0.mk c57
                              clear c57
                              obtain ⟨y316, hy316⟩ : ∃ y_ : List Int, y_ = (y310 ++ t313) := ⟨_, rfl⟩
                              replace H : ((capnpref01_Same.f kj21 t303 y316).bind fun t319 => (some t319)) = some r := by first | (rw [hy316]; with_reducible exact H) | (have H2_ := (Option.bind_some _ _).symm.trans H; rw [hy316]; with_reducible exact H2_) | (have H2_ := (Option.bind_some _ _).symm.trans H; with_reducible exact H2_) | with_reducible exact H | (rw [hy316]; exact H) | exact H
                              have Ny316 := Aside0.mk hy316
                              clear hy316
                              replace H := Option.bind_eq_some_iff.mp H
                              obtain ⟨t319, A580, H⟩ := H
                              replace H : (some t319) = some r := H
                              have A58 := Aside0.mk A580
                              clear A580
                              obtain rfl := Option.some.inj H
                              go_wp2_with (first | ((with_reducible refine gate_dst (N := 76) rfl ?_); (try (refine gate_guard (by rfl) ?_; dsimp only)); refine Kd.R_lit (Kd.int .u8) _ 5 ?hg (N := 76) ?hd (xs := ([] : List Int)) (inner := []) (ok := fun _ => True) (okp := fun _ => True) ?hr ?hp (fun _ hk => hk) trivial (Below.refl _ _) (Nat.le_refl _) (by simp) ?_; (case hd => rfl); (case hg => rfl); (case hr => first | (go_simp; done) | (go_simp; rfl)); (case hp => exact (Reps.none _ _)); intro v295 w59 ho60 hb hg_ hnew_; clear hg_ hnew_; (first | rw [← Ny294.out] at ho60 | (simp only [Int.reduceToNat] at ho60; rw [← Ny294.out] at ho60)); have n0_ := Aside0.mk (Kd.R_elder' (by (with_reducible repeat (first | apply Kd.R_alloc | apply Kd.R_drewN | apply Kd.R_drew)); exact HO_7.out) (Kd.R_base ho60) hb); have n1_ := Aside0.mk (Kd.R_elder' (by (with_reducible repeat (first | apply Kd.R_alloc | apply Kd.R_drewN | apply Kd.R_drew)); exact HO_8.out) (Kd.R_base ho60) hb); have n2_ := Aside0.mk (Kd.R_elder' (by (with_reducible repeat (first | apply Kd.R_alloc | apply Kd.R_drewN | apply Kd.R_drew)); exact HO_12.out) (Kd.R_base ho60) hb); have n3_ := Aside0.mk (Kd.R_lower (Kd.R_new' (Kd.R_new' (Kd.R_new' ho60 (Kd.R_lt (by (with_reducible repeat (first | apply Kd.R_alloc | apply Kd.R_drewN | apply Kd.R_drew)); exact HO_7.out))) (Kd.R_lt (by (with_reducible repeat (first | apply Kd.R_alloc | apply Kd.R_drewN | apply Kd.R_drew)); exact HO_8.out))) (Kd.R_lt (by (with_reducible repeat (first | apply Kd.R_alloc | apply Kd.R_drewN | apply Kd.R_drew)); exact HO_12.out))) (below_size (by repeat (first | (with_reducible first | exact HB.out | apply below_alloc | apply pw_below_drewN | apply below_drew1) | exact HB.out)))); have n4_ := Aside0.mk (Kd.C_below (by repeat (first | (with_reducible exact HR281.out) | (with_reducible refine Kd.C_alloc ?_ _) | (with_reducible refine Kd.C_drewN ?_ _) | (with_reducible refine Kd.C_drew ?_) | exact HR281.out)) hb); have n5_ := Aside0.mk (below_step (by repeat (first | (with_reducible first | exact HB.out | apply below_alloc | apply pw_below_drewN | apply below_drew1) | exact HB.out)) hb); clear HO_7; clear HO_8; clear HO_12; clear HR281; clear HB; have HO_7 := n0_; have HO_8 := n1_; have HO_12 := n2_; have HO296 := n3_; have HR281 := n4_; have HB := n5_; clear n0_ n1_ n2_ n3_ n4_ n5_; clear hb ho60) | ((with_reducible refine gate_builtin (b := .append) (xs := #[.tmp 76, .tmp 77]) rfl ?_); (try (refine gate_guard (by rfl) ?_; dsimp only)); at_builtin; refine Kd.R_append_rows (Kd.int .u8) (w0 := w) w.heap.size rfl (.tmp 76) (.tmp 77) 22 5 (.int .u8 0) 1 rfl Tryd.underlying22 info5 rfl (by decide) (by omega) v295 y294 t272 _ _ _ (fun k_ => some k_ ≠ (.slice Ao25 t272.length co25 : Value).ownBlock ∧ some k_ ≠ (v276 : Value).ownBlock ∧ some k_ ≠ (v287 : Value).ownBlock) (fun _ => False) rfl rfl ?aO ?aR (fun _ _ h => h) (fun _ h => h.elim) ?aF ?aB ?aS ?aL ?_; (case aR => repeat (first | exact (Kd.R_reads' HO_7.out).2.2 | (with_reducible refine Kd.C_alloc ?_ _) | (with_reducible refine Kd.C_drewN ?_ _) | (with_reducible refine Kd.C_drew ?_))); (case aB => exact (by repeat (first | (with_reducible first | exact HB.out | apply below_alloc | apply pw_below_drewN | apply below_drew1) | exact HB.out))); (case aF => exact (fun k_ hk => ⟨Kd.fresh' (Kd.R_lt (by (with_reducible repeat (first | apply Kd.R_alloc | apply Kd.R_drewN | apply Kd.R_drew)); exact HO_7.out)) k_ hk, Kd.fresh' (Kd.R_lt (by (with_reducible repeat (first | apply Kd.R_alloc | apply Kd.R_drewN | apply Kd.R_drew)); exact HO_8.out)) k_ hk, Kd.fresh' (Kd.R_lt (by (with_reducible repeat (first | apply Kd.R_alloc | apply Kd.R_drewN | apply Kd.R_drew)); exact HO_12.out)) k_ hk⟩)); (case aO => exact (by (with_reducible repeat (first | apply Kd.R_alloc | apply Kd.R_drewN | apply Kd.R_drew)); exact Kd.R_mono HO296.out (fun _ hk => ⟨hk.1.1.2, ⟨hk.1.2, hk.2⟩⟩))); (case aS => exact (below_size (by repeat (first | (with_reducible first | exact HB.out | apply below_alloc | apply pw_below_drewN | apply below_drew1) | exact HB.out)))); (case aL => have := LMc51.out; omega); intro v298 w61 ho hb hg hat; rw [← Ny297.out] at ho; have n0_ := Aside0.mk (Kd.R_after (ok := (fun k_ => some k_ ≠ (v276 : Value).ownBlock ∧ some k_ ≠ (v287 : Value).ownBlock)) (by (with_reducible repeat (first | apply Kd.R_alloc | apply Kd.R_drewN | apply Kd.R_drew)); exact HO_7.out) hg hat); have n1_ := Aside0.mk (Kd.R_after (ok := (fun k_ => some k_ ≠ (.slice Ao25 t272.length co25 : Value).ownBlock ∧ some k_ ≠ (v287 : Value).ownBlock)) (by (with_reducible repeat (first | apply Kd.R_alloc | apply Kd.R_drewN | apply Kd.R_drew)); exact HO_8.out) hg hat); have n2_ := Aside0.mk (Kd.R_after (ok := (fun k_ => some k_ ≠ (.slice Ao25 t272.length co25 : Value).ownBlock ∧ some k_ ≠ (v276 : Value).ownBlock)) (by (with_reducible repeat (first | apply Kd.R_alloc | apply Kd.R_drewN | apply Kd.R_drew)); exact HO_12.out) hg hat); have n3_ := Aside0.mk (hb); have n4_ := Aside0.mk (ho); clear HO_7; clear HO_8; clear HO_12; clear HB; clear HO296; have HO_7 := n0_; have HO_8 := n1_; have HO_12 := n2_; have HB := n3_; have HO299 := n4_; clear n0_ n1_ n2_ n3_ n4_; clear ho hb hg hat; obtain ⟨Ao63, co63, eo63⟩ := Kd.R_slice HO_8.out; subst eo63) | ((with_reducible refine gate_builtin (b := .append) (xs := #[.tmp 78, .tmp 79]) rfl ?_); (try (refine gate_guard (by rfl) ?_; dsimp only)); at_builtin; refine Kd.R_append_rows (Kd.int .u8) (w0 := w) w.heap.size rfl (.tmp 78) (.tmp 79) 22 5 (.int .u8 0) 1 rfl Tryd.underlying22 info5 rfl (by decide) (by omega) v298 y297 t275 _ _ _ (fun k_ => some k_ ≠ (.slice Ao25 t272.length co25 : Value).ownBlock ∧ some k_ ≠ (.slice Ao63 t275.length co63 : Value).ownBlock ∧ some k_ ≠ (v287 : Value).ownBlock) (fun _ => False) rfl rfl ?aO ?aR (fun _ _ h => h) (fun _ h => h.elim) ?aF ?aB ?aS ?aL ?_; (case aR => repeat (first | exact (Kd.R_reads' HO_8.out).2.2 | (with_reducible refine Kd.C_alloc ?_ _) | (with_reducible refine Kd.C_drewN ?_ _) | (with_reducible refine Kd.C_drew ?_))); (case aB => exact (by repeat (first | (with_reducible first | exact HB.out | apply below_alloc | apply pw_below_drewN | apply below_drew1) | exact HB.out))); (case aF => exact (fun k_ hk => ⟨Kd.fresh' (Kd.R_lt (by (with_reducible repeat (first | apply Kd.R_alloc | apply Kd.R_drewN | apply Kd.R_drew)); exact HO_7.out)) k_ hk, Kd.fresh' (Kd.R_lt (by (with_reducible repeat (first | apply Kd.R_alloc | apply Kd.R_drewN | apply Kd.R_drew)); exact HO_8.out)) k_ hk, Kd.fresh' (Kd.R_lt (by (with_reducible repeat (first | apply Kd.R_alloc | apply Kd.R_drewN | apply Kd.R_drew)); exact HO_12.out)) k_ hk⟩)); (case aO => exact (by (with_reducible repeat (first | apply Kd.R_alloc | apply Kd.R_drewN | apply Kd.R_drew)); exact HO299.out)); (case aS => exact (below_size (by repeat (first | (with_reducible first | exact HB.out | apply below_alloc | apply pw_below_drewN | apply below_drew1) | exact HB.out)))); (case aL => have := LMc52.out; omega); intro v301 w62 ho hb hg hat; rw [← Ny300.out] at ho; have n0_ := Aside0.mk (Kd.R_after (ok := (fun k_ => some k_ ≠ (.slice Ao63 t275.length co63 : Value).ownBlock ∧ some k_ ≠ (v287 : Value).ownBlock)) (by (with_reducible repeat (first | apply Kd.R_alloc | apply Kd.R_drewN | apply Kd.R_drew)); exact HO_7.out) hg hat); have n1_ := Aside0.mk (Kd.R_after (ok := (fun k_ => some k_ ≠ (.slice Ao25 t272.length co25 : Value).ownBlock ∧ some k_ ≠ (v287 : Value).ownBlock)) (by (with_reducible repeat (first | apply Kd.R_alloc | apply Kd.R_drewN | apply Kd.R_drew)); exact HO_8.out) hg hat); have n2_ := Aside0.mk (Kd.R_after (ok := (fun k_ => some k_ ≠ (.slice Ao25 t272.length co25 : Value).ownBlock ∧ some k_ ≠ (.slice Ao63 t275.length co63 : Value).ownBlock)) (by (with_reducible repeat (first | apply Kd.R_alloc | apply Kd.R_drewN | apply Kd.R_drew)); exact HO_12.out) hg hat); have n3_ := Aside0.mk (hb); have n4_ := Aside0.mk (ho); clear HO_7; clear HO_8; clear HO_12; clear HB; clear HO299; have HO_7 := n0_; have HO_8 := n1_; have HO_12 := n2_; have HB := n3_; have HO302 := n4_; clear n0_ n1_ n2_ n3_ n4_; clear ho hb hg hat; obtain ⟨Ao64, co64, eo64⟩ := Kd.R_slice HO302.out; subst eo64) | ((with_reducible refine gate_callee (f := 9) rfl ?_); refine goesL_ (some 81) rfl rfl Tryd.func9 (by kernel_rfl) rfl #[.slice Ao64 y300.length co64, .int .i64 1073741824] rfl (by (try simp only [List.map_toArray, List.map_cons, List.map_nil]); first | done | rfl | (simp only [List.length_drop, List.length_take]; rfl)) ?_; (with_reducible refine (unpack_Bytes.calls _ _ y300 1073741824 t303 t304 _ ?side1 ?side2 A53.out (Go.Proofs.YtcdkgccmmfjnhaaDoor.Un.LaidU.below HL.out (by repeat (first | (with_reducible first | exact HB.out | apply below_alloc | apply pw_below_drewN | apply below_drew1) | exact HB.out)))).mono ?_); (case side1 => repeat (first | exact (Kd.R_reads' HO302.out).2.2 | (with_reducible refine Kd.C_alloc ?_ _) | (with_reducible refine Kd.C_drewN ?_ _) | (with_reducible refine Kd.C_drew ?_))); (case side2 => exact (Kd.R_reads' HO302.out).2.1); rintro e w65 ⟨v305, rfl, ho0, hb⟩; refine ⟨_, rfl, ?_⟩; have n0_ := Aside0.mk (Kd.R_elder' (by (with_reducible repeat (first | apply Kd.R_alloc | apply Kd.R_drewN | apply Kd.R_drew)); exact HO_7.out) (Kd.R_base ho0) hb); have n1_ := Aside0.mk (Kd.R_elder' (by (with_reducible repeat (first | apply Kd.R_alloc | apply Kd.R_drewN | apply Kd.R_drew)); exact HO_8.out) (Kd.R_base ho0) hb); have n2_ := Aside0.mk (Kd.R_elder' (by (with_reducible repeat (first | apply Kd.R_alloc | apply Kd.R_drewN | apply Kd.R_drew)); exact HO_12.out) (Kd.R_base ho0) hb); have n3_ := Aside0.mk (Kd.R_elder' (by (with_reducible repeat (first | apply Kd.R_alloc | apply Kd.R_drewN | apply Kd.R_drew)); exact HO302.out) (Kd.R_base ho0) hb); have n4_ := Aside0.mk (Kd.R_lower (Kd.R_new' (Kd.R_new' (Kd.R_new' (Kd.R_new' ho0 (Kd.R_lt (by (with_reducible repeat (first | apply Kd.R_alloc | apply Kd.R_drewN | apply Kd.R_drew)); exact HO_7.out))) (Kd.R_lt (by (with_reducible repeat (first | apply Kd.R_alloc | apply Kd.R_drewN | apply Kd.R_drew)); exact HO_8.out))) (Kd.R_lt (by (with_reducible repeat (first | apply Kd.R_alloc | apply Kd.R_drewN | apply Kd.R_drew)); exact HO_12.out))) (Kd.R_lt (by (with_reducible repeat (first | apply Kd.R_alloc | apply Kd.R_drewN | apply Kd.R_drew)); exact HO302.out))) (below_size (by repeat (first | (with_reducible first | exact HB.out | apply below_alloc | apply pw_below_drewN | apply below_drew1) | exact HB.out)))); have n5_ := Aside0.mk (below_step (by repeat (first | (with_reducible first | exact HB.out | apply below_alloc | apply pw_below_drewN | apply below_drew1) | exact HB.out)) hb); clear HO_7; clear HO_8; clear HO_12; clear HO302; clear HB; have HO_7 := n0_; have HO_8 := n1_; have HO_12 := n2_; have HO302 := n3_; have HO306 := n4_; have HB := n5_; clear n0_ n1_ n2_ n3_ n4_ n5_; (try clear hb); (try clear hb2); (try clear hk); (try clear hi); (try clear ho0)) | ((with_reducible refine gate_dst (N := 88) rfl ?_); (try (refine gate_guard (by rfl) ?_; dsimp only)); refine Kd.R_lit (Kd.int .u8) _ 5 ?hg (N := 88) ?hd (xs := ([] : List Int)) (inner := []) (ok := fun _ => True) (okp := fun _ => True) ?hr ?hp (fun _ hk => hk) trivial (Below.refl _ _) (Nat.le_refl _) (by simp) ?_; (case hd => rfl); (case hg => rfl); (case hr => first | (go_simp; done) | (go_simp; rfl)); (case hp => exact (Reps.none _ _)); intro v308 w66 ho67 hb hg_ hnew_; clear hg_ hnew_; (first | rw [← Ny307.out] at ho67 | (simp only [Int.reduceToNat] at ho67; rw [← Ny307.out] at ho67)); have n0_ := Aside0.mk (Kd.R_elder' (by (with_reducible repeat (first | apply Kd.R_alloc | apply Kd.R_drewN | apply Kd.R_drew)); exact HO_7.out) (Kd.R_base ho67) hb); have n1_ := Aside0.mk (Kd.R_elder' (by (with_reducible repeat (first | apply Kd.R_alloc | apply Kd.R_drewN | apply Kd.R_drew)); exact HO_8.out) (Kd.R_base ho67) hb); have n2_ := Aside0.mk (Kd.R_elder' (by (with_reducible repeat (first | apply Kd.R_alloc | apply Kd.R_drewN | apply Kd.R_drew)); exact HO_12.out) (Kd.R_base ho67) hb); have n3_ := Aside0.mk (Kd.R_elder' (by (with_reducible repeat (first | apply Kd.R_alloc | apply Kd.R_drewN | apply Kd.R_drew)); exact HO302.out) (Kd.R_base ho67) hb); have n4_ := Aside0.mk (Kd.R_elder' (by (with_reducible repeat (first | apply Kd.R_alloc | apply Kd.R_drewN | apply Kd.R_drew)); exact HO306.out) (Kd.R_base ho67) hb); have n5_ := Aside0.mk (Kd.R_lower (Kd.R_new' (Kd.R_new' (Kd.R_new' (Kd.R_new' (Kd.R_new' ho67 (Kd.R_lt (by (with_reducible repeat (first | apply Kd.R_alloc | apply Kd.R_drewN | apply Kd.R_drew)); exact HO_7.out))) (Kd.R_lt (by (with_reducible repeat (first | apply Kd.R_alloc | apply Kd.R_drewN | apply Kd.R_drew)); exact HO_8.out))) (Kd.R_lt (by (with_reducible repeat (first | apply Kd.R_alloc | apply Kd.R_drewN | apply Kd.R_drew)); exact HO_12.out))) (Kd.R_lt (by (with_reducible repeat (first | apply Kd.R_alloc | apply Kd.R_drewN | apply Kd.R_drew)); exact HO302.out))) (Kd.R_lt (by (with_reducible repeat (first | apply Kd.R_alloc | apply Kd.R_drewN | apply Kd.R_drew)); exact HO306.out))) (below_size (by repeat (first | (with_reducible first | exact HB.out | apply below_alloc | apply pw_below_drewN | apply below_drew1) | exact HB.out)))); have n6_ := Aside0.mk (below_step (by repeat (first | (with_reducible first | exact HB.out | apply below_alloc | apply pw_below_drewN | apply below_drew1) | exact HB.out)) hb); clear HO_7; clear HO_8; clear HO_12; clear HO302; clear HO306; clear HB; have HO_7 := n0_; have HO_8 := n1_; have HO_12 := n2_; have HO302 := n3_; have HO306 := n4_; have HO309 := n5_; have HB := n6_; clear n0_ n1_ n2_ n3_ n4_ n5_ n6_; clear hb ho67; obtain ⟨Ao69, co69, eo69⟩ := Kd.R_slice HO_12.out; subst eo69) | ((with_reducible refine gate_builtin (b := .append) (xs := #[.tmp 88, .tmp 89]) rfl ?_); (try (refine gate_guard (by rfl) ?_; dsimp only)); at_builtin; refine Kd.R_append_rows (Kd.int .u8) (w0 := w) w.heap.size rfl (.tmp 88) (.tmp 89) 22 5 (.int .u8 0) 1 rfl Tryd.underlying22 info5 rfl (by decide) (by omega) v308 y307 t286 _ _ _ (fun k_ => some k_ ≠ (.slice Ao25 t272.length co25 : Value).ownBlock ∧ some k_ ≠ (.slice Ao63 t275.length co63 : Value).ownBlock ∧ some k_ ≠ (.slice Ao69 t286.length co69 : Value).ownBlock ∧ some k_ ≠ (.slice Ao64 y300.length co64 : Value).ownBlock ∧ some k_ ≠ (v305 : Value).ownBlock) (fun _ => False) rfl rfl ?aO ?aR (fun _ _ h => h) (fun _ h => h.elim) ?aF ?aB ?aS ?aL ?_; (case aR => repeat (first | exact (Kd.R_reads' HO_12.out).2.2 | (with_reducible refine Kd.C_alloc ?_ _) | (with_reducible refine Kd.C_drewN ?_ _) | (with_reducible refine Kd.C_drew ?_))); (case aB => exact (by repeat (first | (with_reducible first | exact HB.out | apply below_alloc | apply pw_below_drewN | apply below_drew1) | exact HB.out))); (case aF => exact (fun k_ hk => ⟨Kd.fresh' (Kd.R_lt (by (with_reducible repeat (first | apply Kd.R_alloc | apply Kd.R_drewN | apply Kd.R_drew)); exact HO_7.out)) k_ hk, Kd.fresh' (Kd.R_lt (by (with_reducible repeat (first | apply Kd.R_alloc | apply Kd.R_drewN | apply Kd.R_drew)); exact HO_8.out)) k_ hk, Kd.fresh' (Kd.R_lt (by (with_reducible repeat (first | apply Kd.R_alloc | apply Kd.R_drewN | apply Kd.R_drew)); exact HO_12.out)) k_ hk, Kd.fresh' (Kd.R_lt (by (with_reducible repeat (first | apply Kd.R_alloc | apply Kd.R_drewN | apply Kd.R_drew)); exact HO302.out)) k_ hk, Kd.fresh' (Kd.R_lt (by (with_reducible repeat (first | apply Kd.R_alloc | apply Kd.R_drewN | apply Kd.R_drew)); exact HO306.out)) k_ hk⟩)); (case aO => exact (by (with_reducible repeat (first | apply Kd.R_alloc | apply Kd.R_drewN | apply Kd.R_drew)); exact Kd.R_mono HO309.out (fun _ hk => ⟨hk.1.1.1.1.2, ⟨hk.1.1.1.2, ⟨hk.1.1.2, ⟨hk.1.2, hk.2⟩⟩⟩⟩))); (case aS => exact (below_size (by repeat (first | (with_reducible first | exact HB.out | apply below_alloc | apply pw_below_drewN | apply below_drew1) | exact HB.out)))); (case aL => have := LMc55.out; omega); intro v311 w68 ho hb hg hat; rw [← Ny310.out] at ho; have n0_ := Aside0.mk (Kd.R_after (ok := (fun k_ => some k_ ≠ (.slice Ao63 t275.length co63 : Value).ownBlock ∧ some k_ ≠ (.slice Ao69 t286.length co69 : Value).ownBlock ∧ some k_ ≠ (.slice Ao64 y300.length co64 : Value).ownBlock ∧ some k_ ≠ (v305 : Value).ownBlock)) (by (with_reducible repeat (first | apply Kd.R_alloc | apply Kd.R_drewN | apply Kd.R_drew)); exact Kd.R_mono HO_7.out (fun _ hk => ⟨⟨hk.1.1.1.1, ⟨hk.1.1.1.2, ⟨hk.1.1.2, hk.1.2⟩⟩⟩, hk.2⟩)) hg hat); have n1_ := Aside0.mk (Kd.R_after (ok := (fun k_ => some k_ ≠ (.slice Ao25 t272.length co25 : Value).ownBlock ∧ some k_ ≠ (.slice Ao69 t286.length co69 : Value).ownBlock ∧ some k_ ≠ (.slice Ao64 y300.length co64 : Value).ownBlock ∧ some k_ ≠ (v305 : Value).ownBlock)) (by (with_reducible repeat (first | apply Kd.R_alloc | apply Kd.R_drewN | apply Kd.R_drew)); exact Kd.R_mono HO_8.out (fun _ hk => ⟨⟨hk.1.1.1.1, ⟨hk.1.1.1.2, ⟨hk.1.1.2, hk.1.2⟩⟩⟩, hk.2⟩)) hg hat); have n2_ := Aside0.mk (Kd.R_after (ok := (fun k_ => some k_ ≠ (.slice Ao25 t272.length co25 : Value).ownBlock ∧ some k_ ≠ (.slice Ao63 t275.length co63 : Value).ownBlock ∧ some k_ ≠ (.slice Ao64 y300.length co64 : Value).ownBlock ∧ some k_ ≠ (v305 : Value).ownBlock)) (by (with_reducible repeat (first | apply Kd.R_alloc | apply Kd.R_drewN | apply Kd.R_drew)); exact Kd.R_mono HO_12.out (fun _ hk => ⟨⟨hk.1.1.1.1, ⟨hk.1.1.1.2, ⟨hk.1.1.2, hk.1.2⟩⟩⟩, hk.2⟩)) hg hat); have n3_ := Aside0.mk (Kd.R_after (ok := (fun k_ => some k_ ≠ (.slice Ao25 t272.length co25 : Value).ownBlock ∧ some k_ ≠ (.slice Ao63 t275.length co63 : Value).ownBlock ∧ some k_ ≠ (.slice Ao69 t286.length co69 : Value).ownBlock ∧ some k_ ≠ (v305 : Value).ownBlock)) (by (with_reducible repeat (first | apply Kd.R_alloc | apply Kd.R_drewN | apply Kd.R_drew)); exact Kd.R_mono HO302.out (fun _ hk => ⟨⟨hk.1.1.1, ⟨hk.1.1.2.1, ⟨hk.1.1.2.2, hk.1.2⟩⟩⟩, hk.2⟩)) hg hat); have n4_ := Aside0.mk (Kd.R_after (ok := (fun k_ => some k_ ≠ (.slice Ao25 t272.length co25 : Value).ownBlock ∧ some k_ ≠ (.slice Ao63 t275.length co63 : Value).ownBlock ∧ some k_ ≠ (.slice Ao69 t286.length co69 : Value).ownBlock ∧ some k_ ≠ (.slice Ao64 y300.length co64 : Value).ownBlock)) (by (with_reducible repeat (first | apply Kd.R_alloc | apply Kd.R_drewN | apply Kd.R_drew)); exact Kd.R_mono HO306.out (fun _ hk => ⟨⟨hk.1.1.1.1.2, ⟨hk.1.1.1.2, ⟨hk.1.1.2, hk.1.2⟩⟩⟩, hk.2⟩)) hg hat); have n5_ := Aside0.mk (hb); have n6_ := Aside0.mk (ho); clear HO_7; clear HO_8; clear HO_12; clear HO302; clear HO306; clear HB; clear HO309; have HO_7 := n0_; have HO_8 := n1_; have HO_12 := n2_; have HO302 := n3_; have HO306 := n4_; have HB := n5_; have HO312 := n6_; clear n0_ n1_ n2_ n3_ n4_ n5_ n6_; clear ho hb hg hat) | (go_at_call 17; (with_reducible refine (capnpref01_Bytes.calls kj21 _ _ l1 t313 _ ?side1 ?side2 A56.out).mono ?_); (case side1 => repeat (first | exact (Kd.C_below HR1.out HB.out) | (with_reducible refine Kd.C_alloc ?_ _) | (with_reducible refine Kd.C_drewN ?_ _) | (with_reducible refine Kd.C_drew ?_))); (case side2 => exact HC1.out); rintro e w70 ⟨v314, rfl, ho0, hb⟩; have n0_ := Aside0.mk (Kd.R_elder' (by (with_reducible repeat (first | apply Kd.R_alloc | apply Kd.R_drewN | apply Kd.R_drew)); exact HO_7.out) (Kd.R_base ho0) hb); have n1_ := Aside0.mk (Kd.R_elder' (by (with_reducible repeat (first | apply Kd.R_alloc | apply Kd.R_drewN | apply Kd.R_drew)); exact HO_8.out) (Kd.R_base ho0) hb); have n2_ := Aside0.mk (Kd.R_elder' (by (with_reducible repeat (first | apply Kd.R_alloc | apply Kd.R_drewN | apply Kd.R_drew)); exact HO_12.out) (Kd.R_base ho0) hb); have n3_ := Aside0.mk (Kd.R_elder' (by (with_reducible repeat (first | apply Kd.R_alloc | apply Kd.R_drewN | apply Kd.R_drew)); exact HO302.out) (Kd.R_base ho0) hb); have n4_ := Aside0.mk (Kd.R_elder' (by (with_reducible repeat (first | apply Kd.R_alloc | apply Kd.R_drewN | apply Kd.R_drew)); exact HO306.out) (Kd.R_base ho0) hb); have n5_ := Aside0.mk (Kd.R_elder' (by (with_reducible repeat (first | apply Kd.R_alloc | apply Kd.R_drewN | apply Kd.R_drew)); exact HO312.out) (Kd.R_base ho0) hb); have n6_ := Aside0.mk (Kd.R_lower (Kd.R_new' (Kd.R_new' (Kd.R_new' (Kd.R_new' (Kd.R_new' (Kd.R_new' ho0 (Kd.R_lt (by (with_reducible repeat (first | apply Kd.R_alloc | apply Kd.R_drewN | apply Kd.R_drew)); exact HO_7.out))) (Kd.R_lt (by (with_reducible repeat (first | apply Kd.R_alloc | apply Kd.R_drewN | apply Kd.R_drew)); exact HO_8.out))) (Kd.R_lt (by (with_reducible repeat (first | apply Kd.R_alloc | apply Kd.R_drewN | apply Kd.R_drew)); exact HO_12.out))) (Kd.R_lt (by (with_reducible repeat (first | apply Kd.R_alloc | apply Kd.R_drewN | apply Kd.R_drew)); exact HO302.out))) (Kd.R_lt (by (with_reducible repeat (first | apply Kd.R_alloc | apply Kd.R_drewN | apply Kd.R_drew)); exact HO306.out))) (Kd.R_lt (by (with_reducible repeat (first | apply Kd.R_alloc | apply Kd.R_drewN | apply Kd.R_drew)); exact HO312.out))) (below_size (by repeat (first | (with_reducible first | exact HB.out | apply below_alloc | apply pw_below_drewN | apply below_drew1) | exact HB.out)))); have n7_ := Aside0.mk (below_step (by repeat (first | (with_reducible first | exact HB.out | apply below_alloc | apply pw_below_drewN | apply below_drew1) | exact HB.out)) hb); clear HO_7; clear HO_8; clear HO_12; clear HO302; clear HO306; clear HO312; clear HB; have HO_7 := n0_; have HO_8 := n1_; have HO_12 := n2_; have HO302 := n3_; have HO306 := n4_; have HO312 := n5_; have HO315 := n6_; have HB := n7_; clear n0_ n1_ n2_ n3_ n4_ n5_ n6_ n7_; (try clear hb); (try clear hb2); (try clear hk); (try clear hi); (try clear ho0); obtain ⟨Ao72, co72, eo72⟩ := Kd.R_slice HO315.out; subst eo72) | ((with_reducible refine gate_builtin (b := .append) (xs := #[.tmp 90, .tmp 92]) rfl ?_); (try (refine gate_guard (by rfl) ?_; dsimp only)); at_builtin; refine Kd.R_append_rows (Kd.int .u8) (w0 := w) w.heap.size rfl (.tmp 90) (.tmp 92) 22 5 (.int .u8 0) 1 rfl Tryd.underlying22 info5 rfl (by decide) (by omega) v311 y310 t313 _ _ _ (fun k_ => some k_ ≠ (.slice Ao25 t272.length co25 : Value).ownBlock ∧ some k_ ≠ (.slice Ao63 t275.length co63 : Value).ownBlock ∧ some k_ ≠ (.slice Ao69 t286.length co69 : Value).ownBlock ∧ some k_ ≠ (.slice Ao64 y300.length co64 : Value).ownBlock ∧ some k_ ≠ (v305 : Value).ownBlock ∧ some k_ ≠ (.slice Ao72 t313.length co72 : Value).ownBlock) (fun _ => False) rfl rfl ?aO ?aR (fun _ _ h => h) (fun _ h => h.elim) ?aF ?aB ?aS ?aL ?_; (case aR => repeat (first | exact (Kd.R_reads' HO315.out).2.2 | (with_reducible refine Kd.C_alloc ?_ _) | (with_reducible refine Kd.C_drewN ?_ _) | (with_reducible refine Kd.C_drew ?_))); (case aB => exact (by repeat (first | (with_reducible first | exact HB.out | apply below_alloc | apply pw_below_drewN | apply below_drew1) | exact HB.out))); (case aF => exact (fun k_ hk => ⟨Kd.fresh' (Kd.R_lt (by (with_reducible repeat (first | apply Kd.R_alloc | apply Kd.R_drewN | apply Kd.R_drew)); exact HO_7.out)) k_ hk, Kd.fresh' (Kd.R_lt (by (with_reducible repeat (first | apply Kd.R_alloc | apply Kd.R_drewN | apply Kd.R_drew)); exact HO_8.out)) k_ hk, Kd.fresh' (Kd.R_lt (by (with_reducible repeat (first | apply Kd.R_alloc | apply Kd.R_drewN | apply Kd.R_drew)); exact HO_12.out)) k_ hk, Kd.fresh' (Kd.R_lt (by (with_reducible repeat (first | apply Kd.R_alloc | apply Kd.R_drewN | apply Kd.R_drew)); exact HO302.out)) k_ hk, Kd.fresh' (Kd.R_lt (by (with_reducible repeat (first | apply Kd.R_alloc | apply Kd.R_drewN | apply Kd.R_drew)); exact HO306.out)) k_ hk, Kd.fresh' (Kd.R_lt (by (with_reducible repeat (first | apply Kd.R_alloc | apply Kd.R_drewN | apply Kd.R_drew)); exact HO315.out)) k_ hk⟩)); (case aO => exact (by (with_reducible repeat (first | apply Kd.R_alloc | apply Kd.R_drewN | apply Kd.R_drew)); exact Kd.R_mono HO312.out (fun _ hk => ⟨hk.1.1, ⟨hk.1.2.1, ⟨hk.1.2.2.1, ⟨hk.1.2.2.2.1, ⟨hk.1.2.2.2.2, hk.2⟩⟩⟩⟩⟩))); (case aS => exact (below_size (by repeat (first | (with_reducible first | exact HB.out | apply below_alloc | apply pw_below_drewN | apply below_drew1) | exact HB.out)))); (case aL => have := LMc57.out; omega); intro v317 w71 ho hb hg hat; rw [← Ny316.out] at ho; have n0_ := Aside0.mk (Kd.R_after (ok := (fun k_ => some k_ ≠ (.slice Ao63 t275.length co63 : Value).ownBlock ∧ some k_ ≠ (.slice Ao69 t286.length co69 : Value).ownBlock ∧ some k_ ≠ (.slice Ao64 y300.length co64 : Value).ownBlock ∧ some k_ ≠ (v305 : Value).ownBlock ∧ some k_ ≠ (.slice Ao72 t313.length co72 : Value).ownBlock)) (by (with_reducible repeat (first | apply Kd.R_alloc | apply Kd.R_drewN | apply Kd.R_drew)); exact Kd.R_mono HO_7.out (fun _ hk => ⟨⟨hk.1.1.1, ⟨hk.1.1.2.1, ⟨hk.1.1.2.2.1, ⟨hk.1.1.2.2.2, hk.2⟩⟩⟩⟩, hk.1.2⟩)) hg hat); have n1_ := Aside0.mk (Kd.R_after (ok := (fun k_ => some k_ ≠ (.slice Ao25 t272.length co25 : Value).ownBlock ∧ some k_ ≠ (.slice Ao69 t286.length co69 : Value).ownBlock ∧ some k_ ≠ (.slice Ao64 y300.length co64 : Value).ownBlock ∧ some k_ ≠ (v305 : Value).ownBlock ∧ some k_ ≠ (.slice Ao72 t313.length co72 : Value).ownBlock)) (by (with_reducible repeat (first | apply Kd.R_alloc | apply Kd.R_drewN | apply Kd.R_drew)); exact Kd.R_mono HO_8.out (fun _ hk => ⟨⟨hk.1.1.1, ⟨hk.1.1.2.1, ⟨hk.1.1.2.2.1, ⟨hk.1.1.2.2.2, hk.2⟩⟩⟩⟩, hk.1.2⟩)) hg hat); have n2_ := Aside0.mk (Kd.R_after (ok := (fun k_ => some k_ ≠ (.slice Ao25 t272.length co25 : Value).ownBlock ∧ some k_ ≠ (.slice Ao63 t275.length co63 : Value).ownBlock ∧ some k_ ≠ (.slice Ao64 y300.length co64 : Value).ownBlock ∧ some k_ ≠ (v305 : Value).ownBlock ∧ some k_ ≠ (.slice Ao72 t313.length co72 : Value).ownBlock)) (by (with_reducible repeat (first | apply Kd.R_alloc | apply Kd.R_drewN | apply Kd.R_drew)); exact Kd.R_mono HO_12.out (fun _ hk => ⟨⟨hk.1.1.1, ⟨hk.1.1.2.1, ⟨hk.1.1.2.2.1, ⟨hk.1.1.2.2.2, hk.2⟩⟩⟩⟩, hk.1.2⟩)) hg hat); have n3_ := Aside0.mk (Kd.R_after (ok := (fun k_ => some k_ ≠ (.slice Ao25 t272.length co25 : Value).ownBlock ∧ some k_ ≠ (.slice Ao63 t275.length co63 : Value).ownBlock ∧ some k_ ≠ (.slice Ao69 t286.length co69 : Value).ownBlock ∧ some k_ ≠ (v305 : Value).ownBlock ∧ some k_ ≠ (.slice Ao72 t313.length co72 : Value).ownBlock)) (by (with_reducible repeat (first | apply Kd.R_alloc | apply Kd.R_drewN | apply Kd.R_drew)); exact Kd.R_mono HO302.out (fun _ hk => ⟨⟨hk.1.1.1, ⟨hk.1.1.2.1, ⟨hk.1.1.2.2.1, ⟨hk.1.1.2.2.2, hk.2⟩⟩⟩⟩, hk.1.2⟩)) hg hat); have n4_ := Aside0.mk (Kd.R_after (ok := (fun k_ => some k_ ≠ (.slice Ao25 t272.length co25 : Value).ownBlock ∧ some k_ ≠ (.slice Ao63 t275.length co63 : Value).ownBlock ∧ some k_ ≠ (.slice Ao69 t286.length co69 : Value).ownBlock ∧ some k_ ≠ (.slice Ao64 y300.length co64 : Value).ownBlock ∧ some k_ ≠ (.slice Ao72 t313.length co72 : Value).ownBlock)) (by (with_reducible repeat (first | apply Kd.R_alloc | apply Kd.R_drewN | apply Kd.R_drew)); exact Kd.R_mono HO306.out (fun _ hk => ⟨⟨hk.1.1.1, ⟨hk.1.1.2.1, ⟨hk.1.1.2.2.1, ⟨hk.1.1.2.2.2, hk.2⟩⟩⟩⟩, hk.1.2⟩)) hg hat); have n5_ := Aside0.mk (Kd.R_after (ok := (fun k_ => some k_ ≠ (.slice Ao25 t272.length co25 : Value).ownBlock ∧ some k_ ≠ (.slice Ao63 t275.length co63 : Value).ownBlock ∧ some k_ ≠ (.slice Ao69 t286.length co69 : Value).ownBlock ∧ some k_ ≠ (.slice Ao64 y300.length co64 : Value).ownBlock ∧ some k_ ≠ (v305 : Value).ownBlock)) (by (with_reducible repeat (first | apply Kd.R_alloc | apply Kd.R_drewN | apply Kd.R_drew)); exact Kd.R_mono HO315.out (fun _ hk => ⟨⟨hk.1.1.1.1.1.2, ⟨hk.1.1.1.1.2, ⟨hk.1.1.1.2, ⟨hk.1.1.2, hk.1.2⟩⟩⟩⟩, hk.2⟩)) hg hat); have n6_ := Aside0.mk (hb); have n7_ := Aside0.mk (ho); clear HO_7; clear HO_8; clear HO_12; clear HO302; clear HO306; clear HO315; clear HB; clear HO312; have HO_7 := n0_; have HO_8 := n1_; have HO_12 := n2_; have HO302 := n3_; have HO306 := n4_; have HO315 := n5_; have HB := n6_; have HO318 := n7_; clear n0_ n1_ n2_ n3_ n4_ n5_ n6_ n7_; clear ho hb hg hat; obtain ⟨Ao73, co73, eo73⟩ := Kd.R_slice HO306.out; subst eo73; obtain ⟨Ao74, co74, eo74⟩ := Kd.R_slice HO318.out; subst eo74) | (go_at_call 13; (with_reducible refine (capnpref01_Same.calls kj21 _ _ t303 _ _ y316 t319 _ ?side1 ?side2 ?side3 ?side4 A58.out).mono ?_); (case side1 => repeat (first | exact (Kd.R_reads' HO306.out).2.2 | (with_reducible refine Kd.C_alloc ?_ _) | (with_reducible refine Kd.C_drewN ?_ _) | (with_reducible refine Kd.C_drew ?_))); (case side2 => exact (Kd.R_reads' HO306.out).2.1); (case side3 => repeat (first | exact (Kd.R_reads' HO318.out).2.2 | (with_reducible refine Kd.C_alloc ?_ _) | (with_reducible refine Kd.C_drewN ?_ _) | (with_reducible refine Kd.C_drew ?_))); (case side4 => exact (Kd.R_reads' HO318.out).2.1); rintro e w' ⟨rfl, ⟨nd, rfl⟩⟩))
                              go_ret
                              exact ⟨by first | rfl | (simp [errW_none, errW_some] <;> rfl) | (simp only [← hji17]; first | rfl | (simp [errW_none, errW_some] <;> rfl)) | (simp [*, errW_none, errW_some] <;> rfl), by repeat (first | (with_reducible first | exact HB.out | apply below_alloc | apply pw_below_drewN | apply below_drew1) | exact HB.out)⟩
                            · rw [if_neg c57] at H
                              exact absurd H (by simp)
                          · rw [if_neg c55] at H
                            exact absurd H (by simp)
                        · rw [if_neg c54] at H
                          exact absurd H (by simp)
                      · rw [if_neg c52] at H
                        exact absurd H (by simp)
                    · rw [if_neg c51] at H
                      exact absurd H (by simp)
            · rw [if_neg c19] at H
              exact absurd H (by simp)
          · rw [if_neg c18] at H
            exact absurd H (by simp)

/-- THE ONE PURE STATEMENT of capnplaw22_UnpackTruncation: yours. -/
def capnplaw22_UnpackTruncation.Pure : Prop := ∀ (l0 : List Int) (l1 : List Int) (a2 : Int), l0.length ≤ maxLen → l0.length * 8 ≤ 140737488351232 → (∀ x ∈ l0, (Lit.int .u64 x).wf = true) → l1.length ≤ maxLen → l1.length * 8 ≤ 140737488351232 → (∀ x ∈ l1, (Lit.int .u64 x).wf = true) → (Lit.int .u16 a2).wf = true → ∃ k, capnplaw22_UnpackTruncation.f k l0 l1 a2 = some true
theorem capnplaw22_UnpackTruncation.walk (P : capnplaw22_UnpackTruncation.Pure) (a0 : Option Addr) (len0 cap0 : Nat) (z0 : List Int) (a1 : Option Addr) (len1 cap1 : Nat) (z1 : List Int) (a2 : Int) (w : World) (w0 : (a0 = none ∧ len0 = 0 ∧ cap0 = 0 ∧ z0 = []) ∨ ∃ x, a0 = some x ∧ len0 ≤ cap0 ∧ cap0 ≤ maxLen ∧ z0.length = cap0 ∧ (∀ i, i < z0.length → w.cell? (x.add i) = some (.int .u64 (z0.getD i 0))) ∧ ∀ n ∈ z0, (Lit.int .u64 n).wf = true) (y0 : len0 * 8 ≤ 140737488351232) (w1 : (a1 = none ∧ len1 = 0 ∧ cap1 = 0 ∧ z1 = []) ∨ ∃ x, a1 = some x ∧ len1 ≤ cap1 ∧ cap1 ≤ maxLen ∧ z1.length = cap1 ∧ (∀ i, i < z1.length → w.cell? (x.add i) = some (.int .u64 (z1.getD i 0))) ∧ ∀ n ∈ z1, (Lit.int .u64 n).wf = true) (y1 : len1 * 8 ≤ 140737488351232) (w2 : (Lit.int .u16 a2).wf = true) {aL aT : Addr} (hL : Go.Proofs.YtcdkgccmmfjnhaaDoor.Un.LaidU w aL aT) :
    Calls Tryd.prog 6 #[.slice a0 len0 cap0, .slice a1 len1 cap1, .int .u16 a2] w fun e w' => e = .returned (.bool true) ∧ Below w.heap.size w w' := by
  obtain ⟨l0, rfl, hr0, hm0, hw0, hc0⟩ := ReadsInt.ofRowC w0
  obtain ⟨l1, rfl, hr1, hm1, hw1, hc1⟩ := ReadsInt.ofRowC w1
  obtain ⟨k, h⟩ := P l0 l1 a2 hm0 y0 hw0 hm1 y1 hw1 w2
  refine (capnplaw22_UnpackTruncation.calls k _ _ l0 _ _ l1 a2 true w (Kd.C_of_reads (d := (0 : Int)) (h1 := fun _ => rfl) hr0) hc0 (Kd.C_of_reads (d := (0 : Int)) (h1 := fun _ => rfl) hr1) hc1 h hL).mono ?_
  rintro e w' ⟨rfl, hd⟩
  exact ⟨rfl, hd⟩

end Go.Proofs.YtcdkgccmmfjnhaaDoor.PUnpackTruncation
