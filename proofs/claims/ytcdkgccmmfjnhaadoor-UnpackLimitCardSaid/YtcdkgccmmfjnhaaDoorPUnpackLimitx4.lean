/- Written by myprint.py, a program of this session: printed functions of a law, and the proofs that the Go code comes to them. -/
import Derived.Test.YtcdkgccmmfjnhaaDoorPUnpackLimitx0
import Derived.Test.YtcdkgccmmfjnhaaDoorPUnpackLimitx1
import Derived.Test.YtcdkgccmmfjnhaaDoorPUnpackLimitx3
namespace Go.Proofs.YtcdkgccmmfjnhaaDoor.PUnpackLimit
open Go.RowKit Go.Proofs.YtcdkgccmmfjnhaaDoorW.PrintWords Go.Proofs.YtcdkgccmmfjnhaaDoorW.PrintLast Go.Proofs.YtcdkgccmmfjnhaaDoorW.PrintMore
attribute [local go_sem] max2_int min2_int max_two min_two max_three min_three max_four min_four   -- for this text's walks alone
set_option linter.unusedVariables false
set_option linter.unusedSimpArgs false

/-! ### capnplaw22_UnpackLimit: function 5 -/
mutual
def capnplaw22_UnpackLimit.j0 : Nat → List Int → Int → Int → Bool → Option (Bool)
  | 0, _, _, _, _ => none
  | k + 1, x0, x1, x2, x19 => if x19 = true then ((capnplaw22_awake.f k).bind fun t214 => (some t214)) else ((unpack_Prefix.f x0 x1).bind fun bt215 => ((capnpref22_Decodable.f k x0).bind fun bt219 => (if ((bt215.1.length : Int) % 8) = 0 then (if (bt215.1.length : Int) > (mx x1 0) then (capnplaw22_UnpackLimit.j1 k x0 x1 x2 bt215.1 bt215.2 true) else (if ((bt215.2 == 11) != (decide ((wrap64 (8 * (bt219.1.length : Int))) > (mx x1 0)))) = true then (capnplaw22_UnpackLimit.j1 k x0 x1 x2 bt215.1 bt215.2 true) else (if bt215.2 = 10 then (if bt219.2 = true then (if bt215.2 = 0 then (capnplaw22_UnpackLimit.j1 k x0 x1 x2 bt215.1 bt215.2 bt219.2) else (capnplaw22_UnpackLimit.j1 k x0 x1 x2 bt215.1 bt215.2 false)) else (capnplaw22_UnpackLimit.j1 k x0 x1 x2 bt215.1 bt215.2 true)) else (if bt215.2 = 0 then (capnplaw22_UnpackLimit.j1 k x0 x1 x2 bt215.1 bt215.2 bt219.2) else (capnplaw22_UnpackLimit.j1 k x0 x1 x2 bt215.1 bt215.2 false))))) else (capnplaw22_UnpackLimit.j1 k x0 x1 x2 bt215.1 bt215.2 true))))
def capnplaw22_UnpackLimit.j1 : Nat → List Int → Int → Int → List Int → Int → Bool → Option (Bool)
  | 0, _, _, _, _, _, _ => none
  | k + 1, x0, x1, x2, x7, x8, x68 => if x68 = true then (some false) else (if x1 > 1099511627776 then (capnplaw22_UnpackLimit.j2 k x0 x1 x2 x7 x8 true) else (capnplaw22_UnpackLimit.j2 k x0 x1 x2 x7 x8 (x8 == 11)))
def capnplaw22_UnpackLimit.j2 : Nat → List Int → Int → Int → List Int → Int → Bool → Option (Bool)
  | 0, _, _, _, _, _, _ => none
  | k + 1, x0, x1, x2, x7, x8, x74 => if x74 = true then (some true) else ((unpack_Prefix.f x0 (wrap64 ((mx x1 0) + (wrap64 (x2))))).bind fun bt223 => (if bt223.2 = x8 then ((capnpref01_Same.f k bt223.1 x7).bind fun t227 => (some t227)) else (none)))
end
def capnplaw22_UnpackLimit.f (k : Nat) (l0 : List Int) (a1 : Int) (a2 : Int) : Option (Bool) := (capnplaw22_awake.f k).bind fun t213 => (if t213 = true then (capnplaw22_UnpackLimit.j0 k l0 a1 a2 (decide ((l0.length : Int) > 400))) else (capnplaw22_UnpackLimit.j0 k l0 a1 a2 true))
theorem capnplaw22_UnpackLimit.mono_l : ∀ k, (∀ y0 y1 y2 y3, LeO (capnplaw22_UnpackLimit.j0 k y0 y1 y2 y3) (capnplaw22_UnpackLimit.j0 (k + 1) y0 y1 y2 y3)) ∧ (∀ y0 y1 y2 y3 y4 y5, LeO (capnplaw22_UnpackLimit.j1 k y0 y1 y2 y3 y4 y5) (capnplaw22_UnpackLimit.j1 (k + 1) y0 y1 y2 y3 y4 y5)) ∧ (∀ y0 y1 y2 y3 y4 y5, LeO (capnplaw22_UnpackLimit.j2 k y0 y1 y2 y3 y4 y5) (capnplaw22_UnpackLimit.j2 (k + 1) y0 y1 y2 y3 y4 y5))
  | 0 => ⟨fun _ _ _ _ r h => by simp [capnplaw22_UnpackLimit.j0] at h, fun _ _ _ _ _ _ r h => by simp [capnplaw22_UnpackLimit.j1] at h, fun _ _ _ _ _ _ r h => by simp [capnplaw22_UnpackLimit.j2] at h⟩
  | k + 1 => by
    obtain ⟨ih0, ih1, ih2⟩ := capnplaw22_UnpackLimit.mono_l k
    refine ⟨?_, ?_, ?_⟩
    · intro y0 y1 y2 y3
      unfold capnplaw22_UnpackLimit.j0
      repeat' first
      | (with_reducible exact ih0 _ _ _ _)
      | (with_reducible exact ih1 _ _ _ _ _ _)
      | (with_reducible exact ih2 _ _ _ _ _ _)
      | (with_reducible exact capnplaw22_awake.mono _)
      | (with_reducible exact capnpref01_Same.mono _ _ _)
      | (with_reducible exact capnpref22_Decodable.mono _ _)
      | (with_reducible exact LeO.refl _)
      | (with_reducible exact LeO.none _)
      | (with_reducible refine LeO.ite ?_ ?_)
      | (with_reducible refine LeO.bind ?_ (fun _ => ?_))
      | exact ih0 _ _ _ _
      | exact ih1 _ _ _ _ _ _
      | exact ih2 _ _ _ _ _ _
      | exact capnplaw22_awake.mono _
      | exact capnpref01_Same.mono _ _ _
      | exact capnpref22_Decodable.mono _ _
      | exact LeO.none _
      | refine LeO.ite ?_ ?_
      | refine LeO.bind ?_ (fun _ => ?_)
    · intro y0 y1 y2 y3 y4 y5
      unfold capnplaw22_UnpackLimit.j1
      repeat' first
      | (with_reducible exact ih0 _ _ _ _)
      | (with_reducible exact ih1 _ _ _ _ _ _)
      | (with_reducible exact ih2 _ _ _ _ _ _)
      | (with_reducible exact capnplaw22_awake.mono _)
      | (with_reducible exact capnpref01_Same.mono _ _ _)
      | (with_reducible exact capnpref22_Decodable.mono _ _)
      | (with_reducible exact LeO.refl _)
      | (with_reducible exact LeO.none _)
      | (with_reducible refine LeO.ite ?_ ?_)
      | (with_reducible refine LeO.bind ?_ (fun _ => ?_))
      | exact ih0 _ _ _ _
      | exact ih1 _ _ _ _ _ _
      | exact ih2 _ _ _ _ _ _
      | exact capnplaw22_awake.mono _
      | exact capnpref01_Same.mono _ _ _
      | exact capnpref22_Decodable.mono _ _
      | exact LeO.none _
      | refine LeO.ite ?_ ?_
      | refine LeO.bind ?_ (fun _ => ?_)
    · intro y0 y1 y2 y3 y4 y5
      unfold capnplaw22_UnpackLimit.j2
      repeat' first
      | (with_reducible exact ih0 _ _ _ _)
      | (with_reducible exact ih1 _ _ _ _ _ _)
      | (with_reducible exact ih2 _ _ _ _ _ _)
      | (with_reducible exact capnplaw22_awake.mono _)
      | (with_reducible exact capnpref01_Same.mono _ _ _)
      | (with_reducible exact capnpref22_Decodable.mono _ _)
      | (with_reducible exact LeO.refl _)
      | (with_reducible exact LeO.none _)
      | (with_reducible refine LeO.ite ?_ ?_)
      | (with_reducible refine LeO.bind ?_ (fun _ => ?_))
      | exact ih0 _ _ _ _
      | exact ih1 _ _ _ _ _ _
      | exact ih2 _ _ _ _ _ _
      | exact capnplaw22_awake.mono _
      | exact capnpref01_Same.mono _ _ _
      | exact capnpref22_Decodable.mono _ _
      | exact LeO.none _
      | refine LeO.ite ?_ ?_
      | refine LeO.bind ?_ (fun _ => ?_)
theorem capnplaw22_UnpackLimit.mono : ∀ a0 a1 a2 k, LeO (capnplaw22_UnpackLimit.f k a0 a1 a2) (capnplaw22_UnpackLimit.f (k + 1) a0 a1 a2) := by
  intro a0 a1 a2 k
  obtain ⟨ih0, ih1, ih2⟩ := capnplaw22_UnpackLimit.mono_l k
  unfold capnplaw22_UnpackLimit.f
  repeat' first
      | (with_reducible exact ih0 _ _ _ _)
      | (with_reducible exact ih1 _ _ _ _ _ _)
      | (with_reducible exact ih2 _ _ _ _ _ _)
      | (with_reducible exact capnplaw22_awake.mono _)
      | (with_reducible exact capnpref01_Same.mono _ _ _)
      | (with_reducible exact capnpref22_Decodable.mono _ _)
      | (with_reducible exact LeO.refl _)
      | (with_reducible exact LeO.none _)
      | (with_reducible refine LeO.ite ?_ ?_)
      | (with_reducible refine LeO.bind ?_ (fun _ => ?_))
      | exact ih0 _ _ _ _
      | exact ih1 _ _ _ _ _ _
      | exact ih2 _ _ _ _ _ _
      | exact capnplaw22_awake.mono _
      | exact capnpref01_Same.mono _ _ _
      | exact capnpref22_Decodable.mono _ _
      | exact LeO.none _
      | refine LeO.ite ?_ ?_
      | refine LeO.bind ?_ (fun _ => ?_)
set_option maxHeartbeats 8000000 in
set_option maxRecDepth 100000 in
theorem capnplaw22_UnpackLimit.calls (k : Nat) (A0 : Option Addr) (c0 : Nat) (l0 : List Int) (a1 : Int) (a2 : Int) (r : Bool) (w : World) (hr0 : Kd.C (Kd.int .u8) w A0 l0.length l0) (hc0 : l0.length ≤ c0) (h : capnplaw22_UnpackLimit.f k l0 a1 a2 = some r) {aL aT : Addr} (hL : Go.Proofs.YtcdkgccmmfjnhaaDoor.Un.LaidU w aL aT) :
    Calls Tryd.prog 5 #[.slice A0 l0.length c0, .int .i64 a1, .int .u16 a2] w fun e w' => e = .returned (.bool r) ∧ Below w.heap.size w w' := by
  have HL := Aside0.mk hL
  clear hL
  have HR0 := Aside0.mk hr0
  have HC0 := Aside0.mk hc0
  clear hr0 hc0
  have HB := Aside0.mk (Below.refl w.heap.size w)
  have H : ((capnplaw22_awake.f k).bind fun t213 => (if t213 = true then (capnplaw22_UnpackLimit.j0 k l0 a1 a2 (decide ((l0.length : Int) > 400))) else (capnplaw22_UnpackLimit.j0 k l0 a1 a2 true))) = some r := h
  clear h
  have HC4 := Aside0.mk H
  clear H
  go_enter Tryd.func5, Tryd.ntmps5
  go_upto_region 1 with (fail)
  go_cut [19] (fun v19 wc => ∃ (kq : Nat) (x19_3 : Bool), v19 = .bool x19_3 ∧ Aside0 (capnplaw22_UnpackLimit.j0 kq l0 a1 a2 x19_3 = some r) ∧ Aside0 (kq ≤ k) ∧ Aside0 (Below w.heap.size w wc))
  case first =>
    have H := HC4.out
    clear HC4
    replace H := Option.bind_eq_some_iff.mp H
    obtain ⟨t213, A50, H⟩ := H
    replace H : (if t213 = true then (capnplaw22_UnpackLimit.j0 k l0 a1 a2 (decide ((l0.length : Int) > 400))) else (capnplaw22_UnpackLimit.j0 k l0 a1 a2 true)) = some r := H
    have A5 := Aside0.mk A50
    clear A50
    by_cases c6 : t213 = true
    · subst c6
      have H1 : (capnplaw22_UnpackLimit.j0 k l0 a1 a2 (decide ((l0.length : Int) > 400))) = some r := by rw [if_pos rfl] at H; exact H
      clear H
      have H := H1
      clear H1
      have H' := Aside0.mk H
      clear H
      go_wp2_with (first | ((with_reducible refine gate_callee (f := 8) rfl ?_); refine goesL_ (some 13) rfl rfl Tryd.func8 (by kernel_rfl) rfl #[] rfl (by (try simp only [List.map_toArray, List.map_cons, List.map_nil]); first | done | rfl | (simp only [List.length_drop, List.length_take]; rfl)) ?_; (with_reducible refine (capnplaw22_awake.calls k  true _ A5.out (Go.Proofs.YtcdkgccmmfjnhaaDoor.Un.LaidU.below HL.out (by repeat (first | (with_reducible first | exact HB.out | apply below_alloc | apply pw_below_drewN | apply below_drew1) | exact HB.out)))).mono ?_); rintro e w7 ⟨rfl, hb⟩; refine ⟨_, rfl, ?_⟩; have n0_ := Aside0.mk (below_step (by repeat (first | (with_reducible first | exact HB.out | apply below_alloc | apply pw_below_drewN | apply below_drew1) | exact HB.out)) hb); clear HB; have HB := n0_; clear n0_; (try clear hb); (try clear hb2); (try clear hk); (try clear hi)))
      go_meet
      case rel => exact ⟨_, (decide ((l0.length : Int) > 400)), (by first | rfl | (simp; done) | (simp [*]; done)), H', ⟨by first | omega | exact Nat.le_refl _⟩, ⟨by repeat (first | (with_reducible first | exact HB.out | apply below_alloc | apply pw_below_drewN | apply below_drew1) | exact HB.out)⟩⟩
    · replace c6 := Bool.eq_false_iff.mpr c6
      subst c6
      have H1 : (capnplaw22_UnpackLimit.j0 k l0 a1 a2 true) = some r := by rw [if_neg (show ¬ (false = true) by decide)] at H; exact H
      clear H
      have H := H1
      clear H1
      have H' := Aside0.mk H
      clear H
      go_wp2_with (first | ((with_reducible refine gate_callee (f := 8) rfl ?_); refine goesL_ (some 13) rfl rfl Tryd.func8 (by kernel_rfl) rfl #[] rfl (by (try simp only [List.map_toArray, List.map_cons, List.map_nil]); first | done | rfl | (simp only [List.length_drop, List.length_take]; rfl)) ?_; (with_reducible refine (capnplaw22_awake.calls k  false _ A5.out (Go.Proofs.YtcdkgccmmfjnhaaDoor.Un.LaidU.below HL.out (by repeat (first | (with_reducible first | exact HB.out | apply below_alloc | apply pw_below_drewN | apply below_drew1) | exact HB.out)))).mono ?_); rintro e w8 ⟨rfl, hb⟩; refine ⟨_, rfl, ?_⟩; have n0_ := Aside0.mk (below_step (by repeat (first | (with_reducible first | exact HB.out | apply below_alloc | apply pw_below_drewN | apply below_drew1) | exact HB.out)) hb); clear HB; have HB := n0_; clear n0_; (try clear hb); (try clear hb2); (try clear hk); (try clear hi)))
      go_meet
      case rel => exact ⟨_, (true), (by first | rfl | (simp; done) | (simp [*]; done)), H', ⟨by first | omega | exact Nat.le_refl _⟩, ⟨by repeat (first | (with_reducible first | exact HB.out | apply below_alloc | apply pw_below_drewN | apply below_drew1) | exact HB.out)⟩⟩
  case rest =>
    clear HC4
    try clear p2
    try clear c5
    try clear c6
    try clear c8
    obtain ⟨kq, x19_3, rfl, HA, HJ3, HB⟩ := hcut
    cases kq with
    | zero => exact absurd HA.out (by simp [capnplaw22_UnpackLimit.j0])
    | succ kj3 =>
      have H := HA.out
      clear HA
      simp only [capnplaw22_UnpackLimit.j0] at H
      by_cases c9 : x19_3 = true
      · subst c9
        have H1 : ((capnplaw22_awake.f kj3).bind fun t214 => (some t214)) = some r := by rw [if_pos rfl] at H; exact H
        clear H
        have H := H1
        clear H1
        replace H := Option.bind_eq_some_iff.mp H
        obtain ⟨t214, A100, H⟩ := H
        replace H : (some t214) = some r := H
        have A10 := Aside0.mk A100
        clear A100
        obtain rfl := Option.some.inj H
        go_wp2_with (first | ((with_reducible refine gate_callee (f := 8) rfl ?_); refine goesL_ (some 20) rfl rfl Tryd.func8 (by kernel_rfl) rfl #[] rfl (by (try simp only [List.map_toArray, List.map_cons, List.map_nil]); first | done | rfl | (simp only [List.length_drop, List.length_take]; rfl)) ?_; (with_reducible refine (capnplaw22_awake.calls kj3  t214 _ A10.out (Go.Proofs.YtcdkgccmmfjnhaaDoor.Un.LaidU.below HL.out (by repeat (first | (with_reducible first | exact HB.out | apply below_alloc | apply pw_below_drewN | apply below_drew1) | exact HB.out)))).mono ?_); rintro e w11 ⟨rfl, hb⟩; refine ⟨_, rfl, ?_⟩; have n0_ := Aside0.mk (below_step (by repeat (first | (with_reducible first | exact HB.out | apply below_alloc | apply pw_below_drewN | apply below_drew1) | exact HB.out)) hb); clear HB; have HB := n0_; clear n0_; (try clear hb); (try clear hb2); (try clear hk); (try clear hi)))
        go_ret
        exact ⟨by first | rfl | (simp [errW_none, errW_some] <;> rfl) | (simp [*, errW_none, errW_some] <;> rfl), by repeat (first | (with_reducible first | exact HB.out | apply below_alloc | apply pw_below_drewN | apply below_drew1) | exact HB.out)⟩
      · replace c9 := Bool.eq_false_iff.mpr c9
        subst c9
        have H1 : ((unpack_Prefix.f l0 a1).bind fun bt215 => ((capnpref22_Decodable.f kj3 l0).bind fun bt219 => (if ((bt215.1.length : Int) % 8) = 0 then (if (bt215.1.length : Int) > (mx a1 0) then (capnplaw22_UnpackLimit.j1 kj3 l0 a1 a2 bt215.1 bt215.2 true) else (if ((bt215.2 == 11) != (decide ((wrap64 (8 * (bt219.1.length : Int))) > (mx a1 0)))) = true then (capnplaw22_UnpackLimit.j1 kj3 l0 a1 a2 bt215.1 bt215.2 true) else (if bt215.2 = 10 then (if bt219.2 = true then (if bt215.2 = 0 then (capnplaw22_UnpackLimit.j1 kj3 l0 a1 a2 bt215.1 bt215.2 bt219.2) else (capnplaw22_UnpackLimit.j1 kj3 l0 a1 a2 bt215.1 bt215.2 false)) else (capnplaw22_UnpackLimit.j1 kj3 l0 a1 a2 bt215.1 bt215.2 true)) else (if bt215.2 = 0 then (capnplaw22_UnpackLimit.j1 kj3 l0 a1 a2 bt215.1 bt215.2 bt219.2) else (capnplaw22_UnpackLimit.j1 kj3 l0 a1 a2 bt215.1 bt215.2 false))))) else (capnplaw22_UnpackLimit.j1 kj3 l0 a1 a2 bt215.1 bt215.2 true)))) = some r := by rw [if_neg (show ¬ (false = true) by decide)] at H; exact H
        clear H
        have H := H1
        clear H1
        replace H := Option.bind_eq_some_iff.mp H
        obtain ⟨⟨t215, t216⟩, A120, H⟩ := H
        replace H : ((capnpref22_Decodable.f kj3 l0).bind fun bt219 => (if ((t215.length : Int) % 8) = 0 then (if (t215.length : Int) > (mx a1 0) then (capnplaw22_UnpackLimit.j1 kj3 l0 a1 a2 t215 t216 true) else (if ((t216 == 11) != (decide ((wrap64 (8 * (bt219.1.length : Int))) > (mx a1 0)))) = true then (capnplaw22_UnpackLimit.j1 kj3 l0 a1 a2 t215 t216 true) else (if t216 = 10 then (if bt219.2 = true then (if t216 = 0 then (capnplaw22_UnpackLimit.j1 kj3 l0 a1 a2 t215 t216 bt219.2) else (capnplaw22_UnpackLimit.j1 kj3 l0 a1 a2 t215 t216 false)) else (capnplaw22_UnpackLimit.j1 kj3 l0 a1 a2 t215 t216 true)) else (if t216 = 0 then (capnplaw22_UnpackLimit.j1 kj3 l0 a1 a2 t215 t216 bt219.2) else (capnplaw22_UnpackLimit.j1 kj3 l0 a1 a2 t215 t216 false))))) else (capnplaw22_UnpackLimit.j1 kj3 l0 a1 a2 t215 t216 true))) = some r := H
        have A12 := Aside0.mk A120
        clear A120
        replace H := Option.bind_eq_some_iff.mp H
        obtain ⟨⟨t219, t220⟩, A130, H⟩ := H
        replace H : (if ((t215.length : Int) % 8) = 0 then (if (t215.length : Int) > (mx a1 0) then (capnplaw22_UnpackLimit.j1 kj3 l0 a1 a2 t215 t216 true) else (if ((t216 == 11) != (decide ((wrap64 (8 * (t219.length : Int))) > (mx a1 0)))) = true then (capnplaw22_UnpackLimit.j1 kj3 l0 a1 a2 t215 t216 true) else (if t216 = 10 then (if t220 = true then (if t216 = 0 then (capnplaw22_UnpackLimit.j1 kj3 l0 a1 a2 t215 t216 t220) else (capnplaw22_UnpackLimit.j1 kj3 l0 a1 a2 t215 t216 false)) else (capnplaw22_UnpackLimit.j1 kj3 l0 a1 a2 t215 t216 true)) else (if t216 = 0 then (capnplaw22_UnpackLimit.j1 kj3 l0 a1 a2 t215 t216 t220) else (capnplaw22_UnpackLimit.j1 kj3 l0 a1 a2 t215 t216 false))))) else (capnplaw22_UnpackLimit.j1 kj3 l0 a1 a2 t215 t216 true)) = some r := H
        have A13 := Aside0.mk A130
        clear A130
        have HC14 := Aside0.mk H
        clear H
        go_upto_region 5 with (first | ((with_reducible refine gate_callee (f := 11) rfl ?_); refine goesL_ (some 24) rfl rfl Tryd.func11 (by kernel_rfl) rfl #[.slice A0 l0.length c0, .int .i64 a1] rfl (by (try simp only [List.map_toArray, List.map_cons, List.map_nil]); first | done | rfl | (simp only [List.length_drop, List.length_take]; rfl)) ?_; (with_reducible refine (unpack_Prefix.calls _ _ l0 a1 t215 t216 _ ?side1 ?side2 A12.out (Go.Proofs.YtcdkgccmmfjnhaaDoor.Un.LaidU.below HL.out (by repeat (first | (with_reducible first | exact HB.out | apply below_alloc | apply pw_below_drewN | apply below_drew1) | exact HB.out)))).mono ?_); (case side1 => repeat (first | exact (Kd.C_below HR0.out HB.out) | (with_reducible refine Kd.C_alloc ?_ _) | (with_reducible refine Kd.C_drewN ?_ _) | (with_reducible refine Kd.C_drew ?_))); (case side2 => exact HC0.out); rintro e w15 ⟨v217, rfl, ho0, hb⟩; refine ⟨_, rfl, ?_⟩; have n0_ := Aside0.mk (Kd.R_lower ho0 (below_size (by repeat (first | (with_reducible first | exact HB.out | apply below_alloc | apply pw_below_drewN | apply below_drew1) | exact HB.out)))); have n1_ := Aside0.mk (below_step (by repeat (first | (with_reducible first | exact HB.out | apply below_alloc | apply pw_below_drewN | apply below_drew1) | exact HB.out)) hb); clear HB; have HO218 := n0_; have HB := n1_; clear n0_ n1_; (try clear hb); (try clear hb2); (try clear hk); (try clear hi); (try clear ho0)) | ((with_reducible refine gate_callee (f := 15) rfl ?_); refine goesL_ (some 29) rfl rfl Tryd.func15 (by kernel_rfl) rfl #[.slice A0 l0.length c0] rfl (by (try simp only [List.map_toArray, List.map_cons, List.map_nil]); first | done | rfl | (simp only [List.length_drop, List.length_take]; rfl)) ?_; (with_reducible refine (capnpref22_Decodable.calls kj3 _ _ l0 t219 t220 _ ?side1 ?side2 A13.out).mono ?_); (case side1 => repeat (first | exact (Kd.C_below HR0.out HB.out) | (with_reducible refine Kd.C_alloc ?_ _) | (with_reducible refine Kd.C_drewN ?_ _) | (with_reducible refine Kd.C_drew ?_))); (case side2 => exact HC0.out); rintro e w16 ⟨v221, rfl, ho0, hb⟩; refine ⟨_, rfl, ?_⟩; have n0_ := Aside0.mk (Kd.R_below (by (with_reducible repeat (first | apply Kd.R_alloc | apply Kd.R_drewN | apply Kd.R_drew)); exact HO218.out) hb); have n1_ := Aside0.mk (Kd.R_lower ho0 (below_size (by repeat (first | (with_reducible first | exact HB.out | apply below_alloc | apply pw_below_drewN | apply below_drew1) | exact HB.out)))); have n2_ := Aside0.mk (below_step (by repeat (first | (with_reducible first | exact HB.out | apply below_alloc | apply pw_below_drewN | apply below_drew1) | exact HB.out)) hb); clear HO218; clear HB; have HO218 := n0_; have HO222 := n1_; have HB := n2_; clear n0_ n1_ n2_; (try clear hb); (try clear hb2); (try clear hk); (try clear hi); (try clear ho0)))
        (try simp only [Act.put, List.setIfInBounds_toArray, List.set_cons_zero, List.set_cons_succ])
        go_cut [68] (fun v68 wc => ∃ (kq : Nat) (x68_13 : Bool), v68 = .bool x68_13 ∧ Aside0 (capnplaw22_UnpackLimit.j1 kq l0 a1 a2 t215 t216 x68_13 = some r) ∧ Aside0 (kq ≤ kj3) ∧ Aside0 (Kd.R (Kd.int .u8) 5 wc w.heap.size (fun _ => True) v217 t215) ∧ Aside0 (Below w.heap.size w wc))
        case first =>
          have H := HC14.out
          clear HC14
          by_cases c17 : ((t215.length : Int) % 8) = 0
          · rw [if_pos c17] at H
            have c17b0 : (((t215.length : Int) % 8) == 0) = true := beq_iff_eq.mpr c17
            have c17b1 : (((t215.length : Int) % 8) != 0) = false := bne_eq_false_iff_eq.mpr c17
            clear c17
            (first | rw [c17b0] | (simp only [i64_w, i32_w]; rw [c17b0]) | skip)
            obtain ⟨ji18, hji18⟩ : ∃ j_ : Int, (mx a1 0) = j_ := ⟨_, rfl⟩
            replace H : (if (t215.length : Int) > (ji18) then (capnplaw22_UnpackLimit.j1 kj3 l0 a1 a2 t215 t216 true) else (if ((t216 == 11) != (decide ((wrap64 (8 * (t219.length : Int))) > (ji18)))) = true then (capnplaw22_UnpackLimit.j1 kj3 l0 a1 a2 t215 t216 true) else (if t216 = 10 then (if t220 = true then (if t216 = 0 then (capnplaw22_UnpackLimit.j1 kj3 l0 a1 a2 t215 t216 t220) else (capnplaw22_UnpackLimit.j1 kj3 l0 a1 a2 t215 t216 false)) else (capnplaw22_UnpackLimit.j1 kj3 l0 a1 a2 t215 t216 true)) else (if t216 = 0 then (capnplaw22_UnpackLimit.j1 kj3 l0 a1 a2 t215 t216 t220) else (capnplaw22_UnpackLimit.j1 kj3 l0 a1 a2 t215 t216 false))))) = some r := by first | (rw [hji18] at H; exact H) | (simp only [hji18] at H ⊢; exact H)
            have hji18_ : (if a1 < 0 then 0 else a1) = ji18 := hji18
            by_cases c19 : (t215.length : Int) > (ji18)
            · rw [if_pos c19] at H
              have c19b0 : decide ((ji18) < (t215.length : Int)) = true := decide_eq_true c19
              clear c19
              have H' := Aside0.mk H
              clear H
              obtain ⟨Ao20, co20, eo20⟩ := Kd.R_slice HO218.out
              subst eo20
              go_wp2
              go_meet
              case rel => exact ⟨_, (true), (by first | rfl | (simp; done) | (simp [*]; done)), H', ⟨by have := HJ3.out; first | omega | exact Nat.le_refl _⟩, ⟨by (with_reducible repeat (first | apply Kd.R_alloc | apply Kd.R_drewN | apply Kd.R_drew)); exact HO218.out⟩, ⟨by repeat (first | (with_reducible first | exact HB.out | apply below_alloc | apply pw_below_drewN | apply below_drew1) | exact HB.out)⟩⟩
            · rw [if_neg c19] at H
              have c19b0 : decide ((ji18) < (t215.length : Int)) = false := decide_eq_false c19
              clear c19
              by_cases c22 : ((t216 == 11) != (decide ((wrap64 (8 * (t219.length : Int))) > (ji18)))) = true
              · rw [if_pos c22] at H
                have c22b0 : ((t216 == 11) != (decide ((wrap64 (8 * (t219.length : Int))) > (ji18)))) = true := c22
                (try (have c22b1 : decide ((t216 == 11) = (decide ((wrap64 (8 * (t219.length : Int))) > (ji18)))) = false := by simpa using c22))
                (try (have c22b2 : ((t216 == 11) == (decide ((wrap64 (8 * (t219.length : Int))) > (ji18)))) = false := by simpa using c22))
                (try (have c22b3 : ¬ ((t216 == 11) = (decide ((wrap64 (8 * (t219.length : Int))) > (ji18)))) := by simpa using c22))
                clear c22
                have H' := Aside0.mk H
                clear H
                obtain ⟨Ao23, co23, eo23⟩ := Kd.R_slice HO218.out
                subst eo23
                obtain ⟨Ao24, co24, eo24⟩ := Kd.R_slice HO222.out
                subst eo24
                go_wp2
                go_meet
                case rel => exact ⟨_, (true), (by first | rfl | (simp; done) | (simp [*]; done)), H', ⟨by have := HJ3.out; first | omega | exact Nat.le_refl _⟩, ⟨by (with_reducible repeat (first | apply Kd.R_alloc | apply Kd.R_drewN | apply Kd.R_drew)); exact HO218.out⟩, ⟨by repeat (first | (with_reducible first | exact HB.out | apply below_alloc | apply pw_below_drewN | apply below_drew1) | exact HB.out)⟩⟩
              · rw [if_neg c22] at H
                have c22b0 : ((t216 == 11) != (decide ((wrap64 (8 * (t219.length : Int))) > (ji18)))) = false := by simpa using c22
                (try (have c22b1 : decide ((t216 == 11) = (decide ((wrap64 (8 * (t219.length : Int))) > (ji18)))) = true := by simpa using c22))
                (try (have c22b2 : ((t216 == 11) == (decide ((wrap64 (8 * (t219.length : Int))) > (ji18)))) = true := by simpa using c22))
                clear c22
                by_cases c25 : t216 = 10
                · rw [if_pos c25] at H
                  have c25b0 : (t216 == 10) = true := beq_iff_eq.mpr c25
                  have c25b1 : (t216 != 10) = false := bne_eq_false_iff_eq.mpr c25
                  clear c25
                  by_cases c26 : t220 = true
                  · subst c26
                    have H1 : (if t216 = 0 then (capnplaw22_UnpackLimit.j1 kj3 l0 a1 a2 t215 t216 true) else (capnplaw22_UnpackLimit.j1 kj3 l0 a1 a2 t215 t216 false)) = some r := by rw [if_pos rfl] at H; exact H
                    clear H
                    have H := H1
                    clear H1
                    by_cases c27 : t216 = 0
                    · rw [if_pos c27] at H
                      have c27b0 : (t216 == 0) = true := beq_iff_eq.mpr c27
                      have c27b1 : (t216 != 0) = false := bne_eq_false_iff_eq.mpr c27
                      clear c27
                      have H' := Aside0.mk H
                      clear H
                      obtain ⟨Ao28, co28, eo28⟩ := Kd.R_slice HO218.out
                      subst eo28
                      obtain ⟨Ao29, co29, eo29⟩ := Kd.R_slice HO222.out
                      subst eo29
                      go_wp2
                      go_meet
                      case rel => exact ⟨_, (true), (by first | rfl | (simp; done) | (simp [*]; done)), H', ⟨by have := HJ3.out; first | omega | exact Nat.le_refl _⟩, ⟨by (with_reducible repeat (first | apply Kd.R_alloc | apply Kd.R_drewN | apply Kd.R_drew)); exact HO218.out⟩, ⟨by repeat (first | (with_reducible first | exact HB.out | apply below_alloc | apply pw_below_drewN | apply below_drew1) | exact HB.out)⟩⟩
                    · rw [if_neg c27] at H
                      have c27b0 : (t216 == 0) = false := beq_eq_false_iff_ne.mpr c27
                      have c27b1 : (t216 != 0) = true := bne_iff_ne.mpr c27
                      have H' := Aside0.mk H
                      clear H
                      obtain ⟨Ao30, co30, eo30⟩ := Kd.R_slice HO218.out
                      subst eo30
                      obtain ⟨Ao31, co31, eo31⟩ := Kd.R_slice HO222.out
                      subst eo31
                      go_wp2
                      go_meet
                      case rel => exact ⟨_, (false), (by first | rfl | (simp; done) | (simp [*]; done)), H', ⟨by have := HJ3.out; first | omega | exact Nat.le_refl _⟩, ⟨by (with_reducible repeat (first | apply Kd.R_alloc | apply Kd.R_drewN | apply Kd.R_drew)); exact HO218.out⟩, ⟨by repeat (first | (with_reducible first | exact HB.out | apply below_alloc | apply pw_below_drewN | apply below_drew1) | exact HB.out)⟩⟩
                  · replace c26 := Bool.eq_false_iff.mpr c26
                    subst c26
                    have H1 : (capnplaw22_UnpackLimit.j1 kj3 l0 a1 a2 t215 t216 true) = some r := by rw [if_neg (show ¬ (false = true) by decide)] at H; exact H
                    clear H
                    have H := H1
                    clear H1
                    have H' := Aside0.mk H
                    clear H
                    obtain ⟨Ao32, co32, eo32⟩ := Kd.R_slice HO218.out
                    subst eo32
                    obtain ⟨Ao33, co33, eo33⟩ := Kd.R_slice HO222.out
                    subst eo33
                    go_wp2
                    go_meet
                    case rel => exact ⟨_, (true), (by first | rfl | (simp; done) | (simp [*]; done)), H', ⟨by have := HJ3.out; first | omega | exact Nat.le_refl _⟩, ⟨by (with_reducible repeat (first | apply Kd.R_alloc | apply Kd.R_drewN | apply Kd.R_drew)); exact HO218.out⟩, ⟨by repeat (first | (with_reducible first | exact HB.out | apply below_alloc | apply pw_below_drewN | apply below_drew1) | exact HB.out)⟩⟩
                · rw [if_neg c25] at H
                  have c25b0 : (t216 == 10) = false := beq_eq_false_iff_ne.mpr c25
                  have c25b1 : (t216 != 10) = true := bne_iff_ne.mpr c25
                  by_cases c34 : t216 = 0
                  · rw [if_pos c34] at H
                    have c34b0 : (t216 == 0) = true := beq_iff_eq.mpr c34
                    have c34b1 : (t216 != 0) = false := bne_eq_false_iff_eq.mpr c34
                    clear c34
                    have H' := Aside0.mk H
                    clear H
                    obtain ⟨Ao35, co35, eo35⟩ := Kd.R_slice HO218.out
                    subst eo35
                    obtain ⟨Ao36, co36, eo36⟩ := Kd.R_slice HO222.out
                    subst eo36
                    go_wp2
                    go_meet
                    case rel => exact ⟨_, (t220), (by first | rfl | (simp; done) | (simp [*]; done)), H', ⟨by have := HJ3.out; first | omega | exact Nat.le_refl _⟩, ⟨by (with_reducible repeat (first | apply Kd.R_alloc | apply Kd.R_drewN | apply Kd.R_drew)); exact HO218.out⟩, ⟨by repeat (first | (with_reducible first | exact HB.out | apply below_alloc | apply pw_below_drewN | apply below_drew1) | exact HB.out)⟩⟩
                  · rw [if_neg c34] at H
                    have c34b0 : (t216 == 0) = false := beq_eq_false_iff_ne.mpr c34
                    have c34b1 : (t216 != 0) = true := bne_iff_ne.mpr c34
                    have H' := Aside0.mk H
                    clear H
                    obtain ⟨Ao37, co37, eo37⟩ := Kd.R_slice HO218.out
                    subst eo37
                    obtain ⟨Ao38, co38, eo38⟩ := Kd.R_slice HO222.out
                    subst eo38
                    go_wp2
                    go_meet
                    case rel => exact ⟨_, (false), (by first | rfl | (simp; done) | (simp [*]; done)), H', ⟨by have := HJ3.out; first | omega | exact Nat.le_refl _⟩, ⟨by (with_reducible repeat (first | apply Kd.R_alloc | apply Kd.R_drewN | apply Kd.R_drew)); exact HO218.out⟩, ⟨by repeat (first | (with_reducible first | exact HB.out | apply below_alloc | apply pw_below_drewN | apply below_drew1) | exact HB.out)⟩⟩
          · rw [if_neg c17] at H
            have c17b0 : (((t215.length : Int) % 8) == 0) = false := beq_eq_false_iff_ne.mpr c17
            have c17b1 : (((t215.length : Int) % 8) != 0) = true := bne_iff_ne.mpr c17
            (first | rw [c17b0] | (simp only [i64_w, i32_w]; rw [c17b0]) | skip)
            have H' := Aside0.mk H
            clear H
            obtain ⟨Ao39, co39, eo39⟩ := Kd.R_slice HO218.out
            subst eo39
            go_wp2
            go_meet
            case rel => exact ⟨_, (true), (by first | rfl | (simp; done) | (simp [*]; done)), H', ⟨by have := HJ3.out; first | omega | exact Nat.le_refl _⟩, ⟨by (with_reducible repeat (first | apply Kd.R_alloc | apply Kd.R_drewN | apply Kd.R_drew)); exact HO218.out⟩, ⟨by repeat (first | (with_reducible first | exact HB.out | apply below_alloc | apply pw_below_drewN | apply below_drew1) | exact HB.out)⟩⟩
        case rest =>
          clear HC14
          try clear c1
          try clear c2
          try clear p2
          try clear c3
          try clear c5
          try clear c6
          try clear p6
          try clear c8
          try clear c9
          try clear c11
          try clear c15
          try clear c17
          try clear c17b0
          try clear c17b1
          try clear c19
          try clear c19b0
          try clear c21
          try clear c21b0
          try clear c22
          try clear c22b0
          try clear c22b1
          try clear c22b2
          try clear c25
          try clear c25b0
          try clear c25b1
          try clear c26
          try clear c27
          try clear c27b0
          try clear c27b1
          try clear c34
          try clear c34b0
          try clear c34b1
          try clear p2
          obtain ⟨kq, x68_13, rfl, HA, HJ13, HO_7, HB⟩ := hcut
          cases kq with
          | zero => exact absurd HA.out (by simp [capnplaw22_UnpackLimit.j1])
          | succ kj13 =>
            have H := HA.out
            clear HA
            simp only [capnplaw22_UnpackLimit.j1] at H
            by_cases c40 : x68_13 = true
            · subst c40
              have H1 : (some false) = some r := by rw [if_pos rfl] at H; exact H
              clear H
              have H := H1
              clear H1
              obtain rfl := Option.some.inj H
              go_wp2
              go_ret
              exact ⟨by first | rfl | (simp [errW_none, errW_some] <;> rfl) | (simp [*, errW_none, errW_some] <;> rfl), by repeat (first | (with_reducible first | exact HB.out | apply below_alloc | apply pw_below_drewN | apply below_drew1) | exact HB.out)⟩
            · replace c40 := Bool.eq_false_iff.mpr c40
              subst c40
              have H1 : (if a1 > 1099511627776 then (capnplaw22_UnpackLimit.j2 kj13 l0 a1 a2 t215 t216 true) else (capnplaw22_UnpackLimit.j2 kj13 l0 a1 a2 t215 t216 (t216 == 11))) = some r := by rw [if_neg (show ¬ (false = true) by decide)] at H; exact H
              clear H
              have H := H1
              clear H1
              have HC41 := Aside0.mk H
              clear H
              go_upto_region 7 with (fail)
              go_cut [74] (fun v74 wc => ∃ (kq : Nat) (x74_40 : Bool), v74 = .bool x74_40 ∧ Aside0 (capnplaw22_UnpackLimit.j2 kq l0 a1 a2 t215 t216 x74_40 = some r) ∧ Aside0 (kq ≤ kj13) ∧ Aside0 (Kd.R (Kd.int .u8) 5 wc w.heap.size (fun _ => True) v217 t215) ∧ Aside0 (Below w.heap.size w wc))
              case first =>
                have H := HC41.out
                clear HC41
                by_cases c42 : a1 > 1099511627776
                · rw [if_pos c42] at H
                  have c42b0 : decide (1099511627776 < a1) = true := decide_eq_true c42
                  clear c42
                  (first | rw [c42b0] | (simp only [i64_w, i32_w]; rw [c42b0]) | skip)
                  have H' := Aside0.mk H
                  clear H
                  go_wp2
                  go_meet
                  case rel => exact ⟨_, (true), (by first | rfl | (simp; done) | (simp [*]; done)), H', ⟨by have := HJ3.out; have := HJ13.out; first | omega | exact Nat.le_refl _⟩, ⟨by (with_reducible repeat (first | apply Kd.R_alloc | apply Kd.R_drewN | apply Kd.R_drew)); exact HO_7.out⟩, ⟨by repeat (first | (with_reducible first | exact HB.out | apply below_alloc | apply pw_below_drewN | apply below_drew1) | exact HB.out)⟩⟩
                · rw [if_neg c42] at H
                  have c42b0 : decide (1099511627776 < a1) = false := decide_eq_false c42
                  clear c42
                  (first | rw [c42b0] | (simp only [i64_w, i32_w]; rw [c42b0]) | skip)
                  have H' := Aside0.mk H
                  clear H
                  go_wp2
                  go_meet
                  case rel => exact ⟨_, ((t216 == 11)), (by first | rfl | (simp; done) | (simp [*]; done)), H', ⟨by have := HJ3.out; have := HJ13.out; first | omega | exact Nat.le_refl _⟩, ⟨by (with_reducible repeat (first | apply Kd.R_alloc | apply Kd.R_drewN | apply Kd.R_drew)); exact HO_7.out⟩, ⟨by repeat (first | (with_reducible first | exact HB.out | apply below_alloc | apply pw_below_drewN | apply below_drew1) | exact HB.out)⟩⟩
              case rest =>
                clear HC41
                try clear c1
                try clear c2
                try clear p2
                try clear c3
                try clear c4
                try clear c5
                try clear c6
                try clear p6
                try clear c8
                try clear c9
                try clear c11
                try clear c15
                try clear c17
                try clear c17b0
                try clear c17b1
                try clear c19
                try clear c19b0
                try clear c21
                try clear c21b0
                try clear c22
                try clear c22b0
                try clear c22b1
                try clear c22b2
                try clear c25
                try clear c25b0
                try clear c25b1
                try clear c26
                try clear c27
                try clear c27b0
                try clear c27b1
                try clear c34
                try clear c34b0
                try clear c34b1
                try clear c40
                try clear c42
                try clear c42b0
                try clear p2
                try clear p6
                obtain ⟨kq, x74_40, rfl, HA, HJ40, HO_7, HB⟩ := hcut
                cases kq with
                | zero => exact absurd HA.out (by simp [capnplaw22_UnpackLimit.j2])
                | succ kj40 =>
                  have H := HA.out
                  clear HA
                  simp only [capnplaw22_UnpackLimit.j2] at H
                  by_cases c43 : x74_40 = true
                  · subst c43
                    have H1 : (some true) = some r := by rw [if_pos rfl] at H; exact H
                    clear H
                    have H := H1
                    clear H1
                    obtain rfl := Option.some.inj H
                    go_wp2
                    go_ret
                    exact ⟨by first | rfl | (simp [errW_none, errW_some] <;> rfl) | (simp [*, errW_none, errW_some] <;> rfl), by repeat (first | (with_reducible first | exact HB.out | apply below_alloc | apply pw_below_drewN | apply below_drew1) | exact HB.out)⟩
                  · replace c43 := Bool.eq_false_iff.mpr c43
                    subst c43
                    have H1 : ((unpack_Prefix.f l0 (wrap64 ((mx a1 0) + (wrap64 (a2))))).bind fun bt223 => (if bt223.2 = t216 then ((capnpref01_Same.f kj40 bt223.1 t215).bind fun t227 => (some t227)) else (none))) = some r := by rw [if_neg (show ¬ (false = true) by decide)] at H; exact H
                    clear H
                    have H := H1
                    clear H1
                    obtain ⟨ji44, hji44⟩ : ∃ j_ : Int, (mx a1 0) = j_ := ⟨_, rfl⟩
                    replace H : ((unpack_Prefix.f l0 (wrap64 ((ji44) + (wrap64 (a2))))).bind fun bt223 => (if bt223.2 = t216 then ((capnpref01_Same.f kj40 bt223.1 t215).bind fun t227 => (some t227)) else (none))) = some r := by first | (rw [hji44] at H; exact H) | (simp only [hji44] at H ⊢; exact H)
                    have hji44_ : (if a1 < 0 then 0 else a1) = ji44 := hji44
                    replace H := Option.bind_eq_some_iff.mp H
                    obtain ⟨⟨t223, t224⟩, A450, H⟩ := H
                    replace H : (if t224 = t216 then ((capnpref01_Same.f kj40 t223 t215).bind fun t227 => (some t227)) else (none)) = some r := H
                    have A45 := Aside0.mk A450
                    clear A450
                    by_cases c46 : t224 = t216
                    · rw [if_pos c46] at H
                      have c46b0 : (t224 == t216) = true := beq_iff_eq.mpr c46
                      have c46b1 : (t224 != t216) = false := bne_eq_false_iff_eq.mpr c46
                      clear c46
                      replace H := Option.bind_eq_some_iff.mp H
                      obtain ⟨t227, A470, H⟩ := H
                      replace H : (some t227) = some r := H
                      have A47 := Aside0.mk A470
                      clear A470
                      obtain rfl := Option.some.inj H
                      go_wp2_with (first | ((with_reducible refine gate_callee (f := 11) rfl ?_); refine goesL_ (some 82) rfl rfl Tryd.func11 (by kernel_rfl) rfl #[.slice A0 l0.length c0, .int .i64 (wrap64 ((ji44) + (wrap64 (a2))))] rfl (by (try simp only [List.map_toArray, List.map_cons, List.map_nil]); first | done | (simp only [hji44]; rfl) | rfl | (simp only [List.length_drop, List.length_take]; rfl)) ?_; (with_reducible refine (unpack_Prefix.calls _ _ l0 (wrap64 ((ji44) + (wrap64 (a2)))) t223 t224 _ ?side1 ?side2 A45.out (Go.Proofs.YtcdkgccmmfjnhaaDoor.Un.LaidU.below HL.out (by repeat (first | (with_reducible first | exact HB.out | apply below_alloc | apply pw_below_drewN | apply below_drew1) | exact HB.out)))).mono ?_); (case side1 => repeat (first | exact (Kd.C_below HR0.out HB.out) | (with_reducible refine Kd.C_alloc ?_ _) | (with_reducible refine Kd.C_drewN ?_ _) | (with_reducible refine Kd.C_drew ?_))); (case side2 => exact HC0.out); rintro e w48 ⟨v225, rfl, ho0, hb⟩; refine ⟨_, rfl, ?_⟩; have n0_ := Aside0.mk (Kd.R_elder' (by (with_reducible repeat (first | apply Kd.R_alloc | apply Kd.R_drewN | apply Kd.R_drew)); exact HO_7.out) (Kd.R_base ho0) hb); have n1_ := Aside0.mk (Kd.R_lower (Kd.R_new' ho0 (Kd.R_lt (by (with_reducible repeat (first | apply Kd.R_alloc | apply Kd.R_drewN | apply Kd.R_drew)); exact HO_7.out))) (below_size (by repeat (first | (with_reducible first | exact HB.out | apply below_alloc | apply pw_below_drewN | apply below_drew1) | exact HB.out)))); have n2_ := Aside0.mk (below_step (by repeat (first | (with_reducible first | exact HB.out | apply below_alloc | apply pw_below_drewN | apply below_drew1) | exact HB.out)) hb); clear HO_7; clear HB; have HO_7 := n0_; have HO226 := n1_; have HB := n2_; clear n0_ n1_ n2_; (try clear hb); (try clear hb2); (try clear hk); (try clear hi); (try clear ho0); obtain ⟨Ao49, co49, eo49⟩ := Kd.R_slice HO226.out; subst eo49; obtain ⟨Ao50, co50, eo50⟩ := Kd.R_slice HO_7.out; subst eo50) | (go_at_call 13; (with_reducible refine (capnpref01_Same.calls kj40 _ _ t223 _ _ t215 t227 _ ?side1 ?side2 ?side3 ?side4 A47.out).mono ?_); (case side1 => repeat (first | exact (Kd.R_reads' HO226.out).2.2 | (with_reducible refine Kd.C_alloc ?_ _) | (with_reducible refine Kd.C_drewN ?_ _) | (with_reducible refine Kd.C_drew ?_))); (case side2 => exact (Kd.R_reads' HO226.out).2.1); (case side3 => repeat (first | exact (Kd.R_reads' HO_7.out).2.2 | (with_reducible refine Kd.C_alloc ?_ _) | (with_reducible refine Kd.C_drewN ?_ _) | (with_reducible refine Kd.C_drew ?_))); (case side4 => exact (Kd.R_reads' HO_7.out).2.1); rintro e w' ⟨rfl, ⟨nd, rfl⟩⟩))
                      go_ret
                      exact ⟨by first | rfl | (simp [errW_none, errW_some] <;> rfl) | (simp only [← hji44]; first | rfl | (simp [errW_none, errW_some] <;> rfl)) | (simp [*, errW_none, errW_some] <;> rfl), by repeat (first | (with_reducible first | exact HB.out | apply below_alloc | apply pw_below_drewN | apply below_drew1) | exact HB.out)⟩
                    · rw [if_neg c46] at H
                      exact absurd H (by simp)

/-- THE ONE PURE STATEMENT of capnplaw22_UnpackLimit: yours. -/
def capnplaw22_UnpackLimit.Pure : Prop := ∀ (l0 : List Int) (a1 : Int) (a2 : Int), l0.length ≤ maxLen → l0.length * 1 ≤ 140737488351232 → (∀ x ∈ l0, (Lit.int .u8 x).wf = true) → (Lit.int .i64 a1).wf = true → (Lit.int .u16 a2).wf = true → ∃ k, capnplaw22_UnpackLimit.f k l0 a1 a2 = some true
theorem capnplaw22_UnpackLimit.walk (P : capnplaw22_UnpackLimit.Pure) (a0 : Option Addr) (len0 cap0 : Nat) (z0 : List Int) (a1 : Int) (a2 : Int) (w : World) (w0 : (a0 = none ∧ len0 = 0 ∧ cap0 = 0 ∧ z0 = []) ∨ ∃ x, a0 = some x ∧ len0 ≤ cap0 ∧ cap0 ≤ maxLen ∧ z0.length = cap0 ∧ (∀ i, i < z0.length → w.cell? (x.add i) = some (.int .u8 (z0.getD i 0))) ∧ ∀ n ∈ z0, (Lit.int .u8 n).wf = true) (y0 : len0 * 1 ≤ 140737488351232) (w1 : (Lit.int .i64 a1).wf = true) (w2 : (Lit.int .u16 a2).wf = true) {aL aT : Addr} (hL : Go.Proofs.YtcdkgccmmfjnhaaDoor.Un.LaidU w aL aT) :
    Calls Tryd.prog 5 #[.slice a0 len0 cap0, .int .i64 a1, .int .u16 a2] w fun e w' => e = .returned (.bool true) ∧ Below w.heap.size w w' := by
  obtain ⟨l0, rfl, hr0, hm0, hw0, hc0⟩ := ReadsInt.ofRowC w0
  obtain ⟨k, h⟩ := P l0 a1 a2 hm0 y0 hw0 w1 w2
  refine (capnplaw22_UnpackLimit.calls k _ _ l0 a1 a2 true w (Kd.C_of_reads (d := (0 : Int)) (h1 := fun _ => rfl) hr0) hc0 h hL).mono ?_
  rintro e w' ⟨rfl, hd⟩
  exact ⟨rfl, hd⟩

end Go.Proofs.YtcdkgccmmfjnhaaDoor.PUnpackLimit
