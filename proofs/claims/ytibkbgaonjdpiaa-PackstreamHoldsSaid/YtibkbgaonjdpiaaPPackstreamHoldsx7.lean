/- Written by myprint.py, a program of this session: printed functions of a law, and the proofs that the Go code comes to them. -/
import Derived.Test.YtibkbgaonjdpiaaPPackstreamHoldsx0
import Derived.Test.YtibkbgaonjdpiaaPPackstreamHoldsx2
import Derived.Test.YtibkbgaonjdpiaaPPackstreamHoldsx3
import Derived.Test.YtibkbgaonjdpiaaPPackstreamHoldsx4
import Derived.Test.YtibkbgaonjdpiaaPPackstreamHoldsx5
import Derived.Test.YtibkbgaonjdpiaaPPackstreamHoldsx6
namespace Go.Proofs.Ytibkbgaonjdpiaa.PPackstreamHolds
open Go.RowKit Go.Proofs.YtibkbgaonjdpiaaW.PrintWords Go.Proofs.YtibkbgaonjdpiaaW.PrintLast Go.Proofs.YtibkbgaonjdpiaaW.PrintMore
open Go.Proofs.Ytibkbgaonjdpiaa.PPaBase
attribute [local go_sem] max2_int min2_int max_two min_two max_three min_three max_four min_four   -- for this text's walks alone
set_option linter.unusedVariables false
set_option linter.unusedSimpArgs false

/-! ### capnplaw24_PackstreamHolds: function 6 -/
def capnplaw24_PackstreamHolds.j0 : Nat → List Int → List Int → Bool → Option (Bool)
  | 0, _, _, _ => none
  | k + 1, x0, x1, x22 => if x22 = true then ((capnplaw24_awake.f k).bind fun t337 => (some t337)) else ((packstream_New.f).bind fun bt338 => ((packstream_Write.f bt338.1 bt338.2.1 bt338.2.2 x0).bind fun bt345 => (if 0 ≤ (wrap64 ((x0.length : Int) - ((x0.length : Int) % 8))) then (if (wrap64 ((x0.length : Int) - ((x0.length : Int) % 8))) ≤ (x0.length : Int) then ((capnpref01_Words.f k (x0.take ((wrap64 ((x0.length : Int) - ((x0.length : Int) % 8))) : Int).toNat)).bind fun bt357 => (if bt357.1.length + x1.length < 17592186044416 then ((capnpref21_Words.f k (bt357.1 ++ x1)).bind fun t364 => ((packstream_Valid.f k bt345.1 bt345.2.1 bt345.2.2.1).bind fun t367 => (if t367 = true then (if (wrap64 ((bt345.1.length : Int) + (bt345.2.2.1.length : Int))) ≤ 2047 then (if (bt345.1.length : Int) = (wrap64 ((x0.length : Int) - (wrap64 ((x0.length : Int) - ((x0.length : Int) % 8))))) then (if (bt345.2.2.2.length : Int) ≤ (t364.length : Int) then (if 0 ≤ (bt345.2.2.2.length : Int) then ((capnpref01_Same.f k bt345.2.2.2 (t364.take ((bt345.2.2.2.length : Int) : Int).toNat)).bind fun t372 => (some t372)) else (none)) else (none)) else (none)) else (none)) else (none)))) else (none))) else (none)) else (none))))
def capnplaw24_PackstreamHolds.f (k : Nat) (l0 : List Int) (l1 : List Int) : Option (Bool) := (capnplaw24_awake.f k).bind fun t336 => (if t336 = true then (if (l0.length : Int) > 8000 then (capnplaw24_PackstreamHolds.j0 k l0 l1 true) else (capnplaw24_PackstreamHolds.j0 k l0 l1 (decide ((l1.length : Int) > 600)))) else (capnplaw24_PackstreamHolds.j0 k l0 l1 true))
theorem capnplaw24_PackstreamHolds.mono_l : ∀ k, (∀ y0 y1 y2, LeO (capnplaw24_PackstreamHolds.j0 k y0 y1 y2) (capnplaw24_PackstreamHolds.j0 (k + 1) y0 y1 y2))
  | 0 => fun _ _ _ r h => by simp [capnplaw24_PackstreamHolds.j0] at h
  | k + 1 => by
    have ih0 := capnplaw24_PackstreamHolds.mono_l k
    · intro y0 y1 y2
      unfold capnplaw24_PackstreamHolds.j0
      repeat' first
      | (with_reducible exact ih0 _ _ _)
      | (with_reducible exact capnplaw24_awake.mono _)
      | (with_reducible exact capnpref01_Same.mono _ _ _)
      | (with_reducible exact capnpref01_Words.mono _ _)
      | (with_reducible exact capnpref21_Words.mono _ _)
      | (with_reducible exact packstream_Valid.mono _ _ _ _)
      | (with_reducible exact LeO.refl _)
      | (with_reducible exact LeO.none _)
      | (with_reducible refine LeO.ite ?_ ?_)
      | (with_reducible refine LeO.bind ?_ (fun _ => ?_))
      | exact ih0 _ _ _
      | exact capnplaw24_awake.mono _
      | exact capnpref01_Same.mono _ _ _
      | exact capnpref01_Words.mono _ _
      | exact capnpref21_Words.mono _ _
      | exact packstream_Valid.mono _ _ _ _
      | exact LeO.none _
      | refine LeO.ite ?_ ?_
      | refine LeO.bind ?_ (fun _ => ?_)
theorem capnplaw24_PackstreamHolds.mono : ∀ a0 a1 k, LeO (capnplaw24_PackstreamHolds.f k a0 a1) (capnplaw24_PackstreamHolds.f (k + 1) a0 a1) := by
  intro a0 a1 k
  have ih0 := capnplaw24_PackstreamHolds.mono_l k
  unfold capnplaw24_PackstreamHolds.f
  repeat' first
      | (with_reducible exact ih0 _ _ _)
      | (with_reducible exact capnplaw24_awake.mono _)
      | (with_reducible exact capnpref01_Same.mono _ _ _)
      | (with_reducible exact capnpref01_Words.mono _ _)
      | (with_reducible exact capnpref21_Words.mono _ _)
      | (with_reducible exact packstream_Valid.mono _ _ _ _)
      | (with_reducible exact LeO.refl _)
      | (with_reducible exact LeO.none _)
      | (with_reducible refine LeO.ite ?_ ?_)
      | (with_reducible refine LeO.bind ?_ (fun _ => ?_))
      | exact ih0 _ _ _
      | exact capnplaw24_awake.mono _
      | exact capnpref01_Same.mono _ _ _
      | exact capnpref01_Words.mono _ _
      | exact capnpref21_Words.mono _ _
      | exact packstream_Valid.mono _ _ _ _
      | exact LeO.none _
      | refine LeO.ite ?_ ?_
      | refine LeO.bind ?_ (fun _ => ?_)
set_option maxHeartbeats 8000000 in
set_option maxRecDepth 100000 in
theorem capnplaw24_PackstreamHolds.calls (k : Nat) (A0 : Option Addr) (c0 : Nat) (l0 : List Int) (A1 : Option Addr) (c1 : Nat) (l1 : List Int) (r : Bool) (w : World) (hr0 : Kd.C (Kd.int .u8) w A0 l0.length l0) (hc0 : l0.length ≤ c0) (hr1 : Kd.C (Kd.int .u64) w A1 l1.length l1) (hc1 : l1.length ≤ c1) (h : capnplaw24_PackstreamHolds.f k l0 l1 = some r) :
    Calls Try.prog 6 #[.slice A0 l0.length c0, .slice A1 l1.length c1] w fun e w' => e = .returned (.bool r) ∧ Below w.heap.size w w' := by
  have hu24 := Try.underlying24
  have HR0 := Aside0.mk hr0
  have HC0 := Aside0.mk hc0
  clear hr0 hc0
  have HR1 := Aside0.mk hr1
  have HC1 := Aside0.mk hc1
  clear hr1 hc1
  have HB := Aside0.mk (Below.refl w.heap.size w)
  have H : ((capnplaw24_awake.f k).bind fun t336 => (if t336 = true then (if (l0.length : Int) > 8000 then (capnplaw24_PackstreamHolds.j0 k l0 l1 true) else (capnplaw24_PackstreamHolds.j0 k l0 l1 (decide ((l1.length : Int) > 600)))) else (capnplaw24_PackstreamHolds.j0 k l0 l1 true))) = some r := h
  clear h
  have HC3 := Aside0.mk H
  clear H
  go_enter Try.func6, Try.ntmps6
  try simp only [List.append_eq, List.cons_append, List.nil_append]
  go_upto_region 1 with (fail)
  go_cut [22] (fun v22 wc => ∃ (kq : Nat) (x22_2 : Bool), v22 = .bool x22_2 ∧ Aside0 (capnplaw24_PackstreamHolds.j0 kq l0 l1 x22_2 = some r) ∧ Aside0 (kq ≤ k) ∧ Aside0 (Below w.heap.size w wc))
  case first =>
    have H := HC3.out
    clear HC3
    replace H := Option.bind_eq_some_iff.mp H
    obtain ⟨t336, A40, H⟩ := H
    replace H : (if t336 = true then (if (l0.length : Int) > 8000 then (capnplaw24_PackstreamHolds.j0 k l0 l1 true) else (capnplaw24_PackstreamHolds.j0 k l0 l1 (decide ((l1.length : Int) > 600)))) else (capnplaw24_PackstreamHolds.j0 k l0 l1 true)) = some r := H
    have A4 := Aside0.mk A40
    clear A40
    by_cases c5 : t336 = true
    · subst c5
      have H1 : (if (l0.length : Int) > 8000 then (capnplaw24_PackstreamHolds.j0 k l0 l1 true) else (capnplaw24_PackstreamHolds.j0 k l0 l1 (decide ((l1.length : Int) > 600)))) = some r := by rw [if_pos rfl] at H; exact H
      clear H
      have H := H1
      clear H1
      by_cases c6 : (l0.length : Int) > 8000
      · rw [if_pos c6] at H
        have c6b0 : decide (8000 < (l0.length : Int)) = true := decide_eq_true c6
        have c6b1 : decide (8000 < l0.length) = true := decide_eq_true (by omega)
        clear c6
        (first | rw [c6b0] | (simp only [i64_w, i32_w]; rw [c6b0]) | skip)
        have H' := Aside0.mk H
        clear H
        go_wp2_with (first | ((with_reducible refine gate_callee (f := 7) rfl ?_); refine goesL_ (some 11) rfl rfl Try.func7 (by kernel_rfl) rfl #[] rfl (by (try simp only [List.map_toArray, List.map_cons, List.map_nil]); first | done | rfl | (simp only [List.length_drop, List.length_take]; rfl)) ?_; (with_reducible refine (capnplaw24_awake.calls k  true _ A4.out).mono ?_); rintro e w7 ⟨rfl, hb⟩; refine ⟨_, rfl, ?_⟩; have n0_ := Aside0.mk (below_step (by repeat (first | (with_reducible first | exact HB.out | apply below_alloc | apply pw_below_drewN | apply below_drew1) | exact HB.out)) hb); clear HB; have HB := n0_; clear n0_; (try clear hb); (try clear hb2); (try clear hk); (try clear hi)))
        go_meet
        case rel => exact ⟨_, (true), (by first | rfl | (simp; done) | (simp [*]; done)), H', ⟨by first | omega | exact Nat.le_refl _⟩, ⟨by repeat (first | (with_reducible first | exact HB.out | apply below_alloc | apply pw_below_drewN | apply below_drew1) | exact HB.out)⟩⟩
      · rw [if_neg c6] at H
        have c6b0 : decide (8000 < (l0.length : Int)) = false := decide_eq_false c6
        have c6b1 : decide (8000 < l0.length) = false := decide_eq_false (by omega)
        clear c6
        (first | rw [c6b0] | (simp only [i64_w, i32_w]; rw [c6b0]) | skip)
        have H' := Aside0.mk H
        clear H
        go_wp2_with (first | ((with_reducible refine gate_callee (f := 7) rfl ?_); refine goesL_ (some 11) rfl rfl Try.func7 (by kernel_rfl) rfl #[] rfl (by (try simp only [List.map_toArray, List.map_cons, List.map_nil]); first | done | rfl | (simp only [List.length_drop, List.length_take]; rfl)) ?_; (with_reducible refine (capnplaw24_awake.calls k  true _ A4.out).mono ?_); rintro e w8 ⟨rfl, hb⟩; refine ⟨_, rfl, ?_⟩; have n0_ := Aside0.mk (below_step (by repeat (first | (with_reducible first | exact HB.out | apply below_alloc | apply pw_below_drewN | apply below_drew1) | exact HB.out)) hb); clear HB; have HB := n0_; clear n0_; (try clear hb); (try clear hb2); (try clear hk); (try clear hi)))
        go_meet
        case rel => exact ⟨_, (decide ((l1.length : Int) > 600)), (by first | rfl | (simp; done) | (simp [*]; done)), H', ⟨by first | omega | exact Nat.le_refl _⟩, ⟨by repeat (first | (with_reducible first | exact HB.out | apply below_alloc | apply pw_below_drewN | apply below_drew1) | exact HB.out)⟩⟩
    · replace c5 := Bool.eq_false_iff.mpr c5
      subst c5
      have H1 : (capnplaw24_PackstreamHolds.j0 k l0 l1 true) = some r := by rw [if_neg (show ¬ (false = true) by decide)] at H; exact H
      clear H
      have H := H1
      clear H1
      have H' := Aside0.mk H
      clear H
      go_wp2_with (first | ((with_reducible refine gate_callee (f := 7) rfl ?_); refine goesL_ (some 11) rfl rfl Try.func7 (by kernel_rfl) rfl #[] rfl (by (try simp only [List.map_toArray, List.map_cons, List.map_nil]); first | done | rfl | (simp only [List.length_drop, List.length_take]; rfl)) ?_; (with_reducible refine (capnplaw24_awake.calls k  false _ A4.out).mono ?_); rintro e w9 ⟨rfl, hb⟩; refine ⟨_, rfl, ?_⟩; have n0_ := Aside0.mk (below_step (by repeat (first | (with_reducible first | exact HB.out | apply below_alloc | apply pw_below_drewN | apply below_drew1) | exact HB.out)) hb); clear HB; have HB := n0_; clear n0_; (try clear hb); (try clear hb2); (try clear hk); (try clear hi)))
      go_meet
      case rel => exact ⟨_, (true), (by first | rfl | (simp; done) | (simp [*]; done)), H', ⟨by first | omega | exact Nat.le_refl _⟩, ⟨by repeat (first | (with_reducible first | exact HB.out | apply below_alloc | apply pw_below_drewN | apply below_drew1) | exact HB.out)⟩⟩
  case rest =>
    clear HC3
    try clear c1
    try clear p2
    try clear c5
    try clear c6
    try clear c6b0
    try clear c6b1
    try clear c7
    obtain ⟨kq, x22_2, rfl, HA, HJ2, HB⟩ := hcut
    cases kq with
    | zero => exact absurd HA.out (by simp [capnplaw24_PackstreamHolds.j0])
    | succ kj2 =>
      have H := HA.out
      clear HA
      simp only [capnplaw24_PackstreamHolds.j0] at H
      by_cases c10 : x22_2 = true
      · subst c10
        have H1 : ((capnplaw24_awake.f kj2).bind fun t337 => (some t337)) = some r := by rw [if_pos rfl] at H; exact H
        clear H
        have H := H1
        clear H1
        replace H := Option.bind_eq_some_iff.mp H
        obtain ⟨t337, A110, H⟩ := H
        replace H : (some t337) = some r := H
        have A11 := Aside0.mk A110
        clear A110
        obtain rfl := Option.some.inj H
        go_wp2_with (first | ((with_reducible refine gate_callee (f := 7) rfl ?_); refine goesL_ (some 23) rfl rfl Try.func7 (by kernel_rfl) rfl #[] rfl (by (try simp only [List.map_toArray, List.map_cons, List.map_nil]); first | done | rfl | (simp only [List.length_drop, List.length_take]; rfl)) ?_; (with_reducible refine (capnplaw24_awake.calls kj2  t337 _ A11.out).mono ?_); rintro e w12 ⟨rfl, hb⟩; refine ⟨_, rfl, ?_⟩; have n0_ := Aside0.mk (below_step (by repeat (first | (with_reducible first | exact HB.out | apply below_alloc | apply pw_below_drewN | apply below_drew1) | exact HB.out)) hb); clear HB; have HB := n0_; clear n0_; (try clear hb); (try clear hb2); (try clear hk); (try clear hi)))
        go_ret
        exact ⟨by first | rfl | (simp [errW_none, errW_some] <;> rfl) | (simp [*, errW_none, errW_some] <;> rfl), by repeat (first | (with_reducible first | exact HB.out | apply below_alloc | apply pw_below_drewN | apply below_drew1) | exact HB.out)⟩
      · replace c10 := Bool.eq_false_iff.mpr c10
        subst c10
        have H1 : ((packstream_New.f).bind fun bt338 => ((packstream_Write.f bt338.1 bt338.2.1 bt338.2.2 l0).bind fun bt345 => (if 0 ≤ (wrap64 ((l0.length : Int) - ((l0.length : Int) % 8))) then (if (wrap64 ((l0.length : Int) - ((l0.length : Int) % 8))) ≤ (l0.length : Int) then ((capnpref01_Words.f kj2 (l0.take ((wrap64 ((l0.length : Int) - ((l0.length : Int) % 8))) : Int).toNat)).bind fun bt357 => (if bt357.1.length + l1.length < 17592186044416 then ((capnpref21_Words.f kj2 (bt357.1 ++ l1)).bind fun t364 => ((packstream_Valid.f kj2 bt345.1 bt345.2.1 bt345.2.2.1).bind fun t367 => (if t367 = true then (if (wrap64 ((bt345.1.length : Int) + (bt345.2.2.1.length : Int))) ≤ 2047 then (if (bt345.1.length : Int) = (wrap64 ((l0.length : Int) - (wrap64 ((l0.length : Int) - ((l0.length : Int) % 8))))) then (if (bt345.2.2.2.length : Int) ≤ (t364.length : Int) then (if 0 ≤ (bt345.2.2.2.length : Int) then ((capnpref01_Same.f kj2 bt345.2.2.2 (t364.take ((bt345.2.2.2.length : Int) : Int).toNat)).bind fun t372 => (some t372)) else (none)) else (none)) else (none)) else (none)) else (none)))) else (none))) else (none)) else (none)))) = some r := by rw [if_neg (show ¬ (false = true) by decide)] at H; exact H
        clear H
        have H := H1
        clear H1
        replace H := Option.bind_eq_some_iff.mp H
        obtain ⟨⟨t338, t341, t342⟩, A130, H⟩ := H
        replace H : ((packstream_Write.f t338 t341 t342 l0).bind fun bt345 => (if 0 ≤ (wrap64 ((l0.length : Int) - ((l0.length : Int) % 8))) then (if (wrap64 ((l0.length : Int) - ((l0.length : Int) % 8))) ≤ (l0.length : Int) then ((capnpref01_Words.f kj2 (l0.take ((wrap64 ((l0.length : Int) - ((l0.length : Int) % 8))) : Int).toNat)).bind fun bt357 => (if bt357.1.length + l1.length < 17592186044416 then ((capnpref21_Words.f kj2 (bt357.1 ++ l1)).bind fun t364 => ((packstream_Valid.f kj2 bt345.1 bt345.2.1 bt345.2.2.1).bind fun t367 => (if t367 = true then (if (wrap64 ((bt345.1.length : Int) + (bt345.2.2.1.length : Int))) ≤ 2047 then (if (bt345.1.length : Int) = (wrap64 ((l0.length : Int) - (wrap64 ((l0.length : Int) - ((l0.length : Int) % 8))))) then (if (bt345.2.2.2.length : Int) ≤ (t364.length : Int) then (if 0 ≤ (bt345.2.2.2.length : Int) then ((capnpref01_Same.f kj2 bt345.2.2.2 (t364.take ((bt345.2.2.2.length : Int) : Int).toNat)).bind fun t372 => (some t372)) else (none)) else (none)) else (none)) else (none)) else (none)))) else (none))) else (none)) else (none))) = some r := H
        have A13 := Aside0.mk A130
        clear A130
        replace H := Option.bind_eq_some_iff.mp H
        obtain ⟨⟨t345, t348, t349, t352⟩, A140, H⟩ := H
        replace H : (if 0 ≤ (wrap64 ((l0.length : Int) - ((l0.length : Int) % 8))) then (if (wrap64 ((l0.length : Int) - ((l0.length : Int) % 8))) ≤ (l0.length : Int) then ((capnpref01_Words.f kj2 (l0.take ((wrap64 ((l0.length : Int) - ((l0.length : Int) % 8))) : Int).toNat)).bind fun bt357 => (if bt357.1.length + l1.length < 17592186044416 then ((capnpref21_Words.f kj2 (bt357.1 ++ l1)).bind fun t364 => ((packstream_Valid.f kj2 t345 t348 t349).bind fun t367 => (if t367 = true then (if (wrap64 ((t345.length : Int) + (t349.length : Int))) ≤ 2047 then (if (t345.length : Int) = (wrap64 ((l0.length : Int) - (wrap64 ((l0.length : Int) - ((l0.length : Int) % 8))))) then (if (t352.length : Int) ≤ (t364.length : Int) then (if 0 ≤ (t352.length : Int) then ((capnpref01_Same.f kj2 t352 (t364.take ((t352.length : Int) : Int).toNat)).bind fun t372 => (some t372)) else (none)) else (none)) else (none)) else (none)) else (none)))) else (none))) else (none)) else (none)) = some r := H
        have A14 := Aside0.mk A140
        clear A140
        obtain ⟨ji15, hji15⟩ : ∃ j_ : Int, (wrap64 ((l0.length : Int) - ((l0.length : Int) % 8))) = j_ := ⟨_, rfl⟩
        replace H : (if 0 ≤ (ji15) then (if (ji15) ≤ (l0.length : Int) then ((capnpref01_Words.f kj2 (l0.take ((ji15) : Int).toNat)).bind fun bt357 => (if bt357.1.length + l1.length < 17592186044416 then ((capnpref21_Words.f kj2 (bt357.1 ++ l1)).bind fun t364 => ((packstream_Valid.f kj2 t345 t348 t349).bind fun t367 => (if t367 = true then (if (wrap64 ((t345.length : Int) + (t349.length : Int))) ≤ 2047 then (if (t345.length : Int) = (wrap64 ((l0.length : Int) - (ji15))) then (if (t352.length : Int) ≤ (t364.length : Int) then (if 0 ≤ (t352.length : Int) then ((capnpref01_Same.f kj2 t352 (t364.take ((t352.length : Int) : Int).toNat)).bind fun t372 => (some t372)) else (none)) else (none)) else (none)) else (none)) else (none)))) else (none))) else (none)) else (none)) = some r := by first | (rw [hji15] at H; exact H) | (simp only [hji15] at H ⊢; exact H)
        (try rw [hji15] at A13)
        (try rw [hji15] at A14)
        have hji15w : (IntKind.i64.wrap ((l0.length : Int) - ((l0.length : Int) % 8))) = ji15 := (i64_w _).trans hji15
        by_cases c16 : 0 ≤ (ji15)
        · rw [if_pos c16] at H
          have c16b0 := eq_true c16
          have c16b1 : decide (0 ≤ (ji15)) = true := decide_eq_true c16
          clear c16
          by_cases c17 : (ji15) ≤ (l0.length : Int)
          · rw [if_pos c17] at H
            have c17b0 := eq_true c17
            have c17b1 : decide ((ji15) ≤ (l0.length : Int)) = true := decide_eq_true c17
            clear c17
            replace H := Option.bind_eq_some_iff.mp H
            obtain ⟨⟨t357, t358⟩, A180, H⟩ := H
            replace H : (if t357.length + l1.length < 17592186044416 then ((capnpref21_Words.f kj2 (t357 ++ l1)).bind fun t364 => ((packstream_Valid.f kj2 t345 t348 t349).bind fun t367 => (if t367 = true then (if (wrap64 ((t345.length : Int) + (t349.length : Int))) ≤ 2047 then (if (t345.length : Int) = (wrap64 ((l0.length : Int) - (ji15))) then (if (t352.length : Int) ≤ (t364.length : Int) then (if 0 ≤ (t352.length : Int) then ((capnpref01_Same.f kj2 t352 (t364.take ((t352.length : Int) : Int).toNat)).bind fun t372 => (some t372)) else (none)) else (none)) else (none)) else (none)) else (none)))) else (none)) = some r := H
            have A18 := Aside0.mk A180
            clear A180
            by_cases c19 : t357.length + l1.length < 17592186044416
            · rw [if_pos c19] at H
              have LMc19 := Aside0.mk c19
              clear c19
              obtain ⟨y361, hy361⟩ : ∃ y_ : List Int, y_ = (t357 ++ l1) := ⟨_, rfl⟩
              replace H : ((capnpref21_Words.f kj2 y361).bind fun t364 => ((packstream_Valid.f kj2 t345 t348 t349).bind fun t367 => (if t367 = true then (if (wrap64 ((t345.length : Int) + (t349.length : Int))) ≤ 2047 then (if (t345.length : Int) = (wrap64 ((l0.length : Int) - (ji15))) then (if (t352.length : Int) ≤ (t364.length : Int) then (if 0 ≤ (t352.length : Int) then ((capnpref01_Same.f kj2 t352 (t364.take ((t352.length : Int) : Int).toNat)).bind fun t372 => (some t372)) else (none)) else (none)) else (none)) else (none)) else (none)))) = some r := by first | (rw [hy361]; with_reducible exact H) | (have H2_ := (Option.bind_some _ _).symm.trans H; rw [hy361]; with_reducible exact H2_) | (have H2_ := (Option.bind_some _ _).symm.trans H; with_reducible exact H2_) | with_reducible exact H | (rw [hy361]; exact H) | exact H
              have Ny361 := Aside0.mk hy361
              clear hy361
              replace H := Option.bind_eq_some_iff.mp H
              obtain ⟨t364, A200, H⟩ := H
              replace H : ((packstream_Valid.f kj2 t345 t348 t349).bind fun t367 => (if t367 = true then (if (wrap64 ((t345.length : Int) + (t349.length : Int))) ≤ 2047 then (if (t345.length : Int) = (wrap64 ((l0.length : Int) - (ji15))) then (if (t352.length : Int) ≤ (t364.length : Int) then (if 0 ≤ (t352.length : Int) then ((capnpref01_Same.f kj2 t352 (t364.take ((t352.length : Int) : Int).toNat)).bind fun t372 => (some t372)) else (none)) else (none)) else (none)) else (none)) else (none))) = some r := H
              have A20 := Aside0.mk A200
              clear A200
              replace H := Option.bind_eq_some_iff.mp H
              obtain ⟨t367, A210, H⟩ := H
              replace H : (if t367 = true then (if (wrap64 ((t345.length : Int) + (t349.length : Int))) ≤ 2047 then (if (t345.length : Int) = (wrap64 ((l0.length : Int) - (ji15))) then (if (t352.length : Int) ≤ (t364.length : Int) then (if 0 ≤ (t352.length : Int) then ((capnpref01_Same.f kj2 t352 (t364.take ((t352.length : Int) : Int).toNat)).bind fun t372 => (some t372)) else (none)) else (none)) else (none)) else (none)) else (none)) = some r := H
              have A21 := Aside0.mk A210
              clear A210
              by_cases c22 : t367 = true
              · subst c22
                have H1 : (if (wrap64 ((t345.length : Int) + (t349.length : Int))) ≤ 2047 then (if (t345.length : Int) = (wrap64 ((l0.length : Int) - (ji15))) then (if (t352.length : Int) ≤ (t364.length : Int) then (if 0 ≤ (t352.length : Int) then ((capnpref01_Same.f kj2 t352 (t364.take ((t352.length : Int) : Int).toNat)).bind fun t372 => (some t372)) else (none)) else (none)) else (none)) else (none)) = some r := by rw [if_pos rfl] at H; exact H
                clear H
                have H := H1
                clear H1
                by_cases c23 : (wrap64 ((t345.length : Int) + (t349.length : Int))) ≤ 2047
                · rw [if_pos c23] at H
                  have c23b0 : decide ((wrap64 ((t345.length : Int) + (t349.length : Int))) ≤ 2047) = true := decide_eq_true c23
                  clear c23
                  by_cases c24 : (t345.length : Int) = (wrap64 ((l0.length : Int) - (ji15)))
                  · rw [if_pos c24] at H
                    have c24b0 : ((t345.length : Int) == (wrap64 ((l0.length : Int) - (ji15)))) = true := beq_iff_eq.mpr c24
                    have c24b1 : ((t345.length : Int) != (wrap64 ((l0.length : Int) - (ji15)))) = false := bne_eq_false_iff_eq.mpr c24
                    clear c24
                    by_cases c25 : (t352.length : Int) ≤ (t364.length : Int)
                    · rw [if_pos c25] at H
                      have c25b0 : decide ((t352.length : Int) ≤ (t364.length : Int)) = true := decide_eq_true c25
                      have c25b1 : decide (t352.length ≤ t364.length) = true := decide_eq_true (Int.ofNat_le.mp c25)
                      clear c25
                      by_cases c26 : 0 ≤ (t352.length : Int)
                      · rw [if_pos c26] at H
                        have c26b0 := eq_true c26
                        have c26b1 : decide (0 ≤ (t352.length : Int)) = true := decide_eq_true c26
                        clear c26
                        have c27b0 := eq_true (of_decide_eq_true (by first | (with_reducible assumption) | assumption) : (t352.length : Int) ≤ (t364.length : Int))
                        obtain ⟨y368, hy368⟩ : ∃ y_ : List Int, y_ = (t364.take ((t352.length : Int) : Int).toNat) := ⟨_, rfl⟩
                        replace H : ((capnpref01_Same.f kj2 t352 y368).bind fun t372 => (some t372)) = some r := by first | (rw [hy368]; with_reducible exact H) | (have H2_ := (Option.bind_some _ _).symm.trans H; rw [hy368]; with_reducible exact H2_) | (have H2_ := (Option.bind_some _ _).symm.trans H; with_reducible exact H2_) | with_reducible exact H | (rw [hy368]; exact H) | exact H
                        have Ny368 := Aside0.mk hy368
                        clear hy368
                        replace H := Option.bind_eq_some_iff.mp H
                        obtain ⟨t372, A280, H⟩ := H
                        replace H : (some t372) = some r := H
                        have A28 := Aside0.mk A280
                        clear A280
                        obtain rfl := Option.some.inj H
                        go_wp2_with (first | ((with_reducible refine gate_callee (f := 17) rfl ?_); refine goesL_ (some 25) rfl rfl Try.func17 (by kernel_rfl) rfl #[] rfl (by (try simp only [List.map_toArray, List.map_cons, List.map_nil]); first | done | rfl | (simp only [List.length_drop, List.length_take]; rfl)) ?_; (with_reducible refine (packstream_New.calls  t338 t341 t342 _ A13.out).mono ?_); rintro e w29 ⟨v339, v343, rfl, ho0, ho1, hb⟩; refine ⟨_, rfl, ?_⟩; have n0_ := Aside0.mk (Kd.R_lower ho0 (below_size (by repeat (first | (with_reducible first | exact HB.out | apply below_alloc | apply pw_below_drewN | apply below_drew1) | exact HB.out)))); have n1_ := Aside0.mk (Kd.R_lower ho1 (below_size (by repeat (first | (with_reducible first | exact HB.out | apply below_alloc | apply pw_below_drewN | apply below_drew1) | exact HB.out)))); have n2_ := Aside0.mk (below_step (by repeat (first | (with_reducible first | exact HB.out | apply below_alloc | apply pw_below_drewN | apply below_drew1) | exact HB.out)) hb); clear HB; have HO340 := n0_; have HO344 := n1_; have HB := n2_; clear n0_ n1_ n2_; (try clear hb); (try clear hb2); (try clear hk); (try clear hi); (try clear ho0); (try clear ho1); obtain ⟨Ao30, co30, eo30⟩ := Kd.R_slice HO340.out; subst eo30; obtain ⟨Ao31, co31, eo31⟩ := Kd.R_slice HO344.out; subst eo31) | ((with_reducible refine gate_callee (f := 8) rfl ?_); refine goesL_ (some 27) rfl rfl Try.func8 (by kernel_rfl) rfl #[.agg #[.slice Ao30 t338.length co30, .int .i64 t341, .slice Ao31 t342.length co31], .slice A0 l0.length c0] rfl (by (try simp only [List.map_toArray, List.map_cons, List.map_nil]); first | done | rfl | (simp only [List.length_drop, List.length_take]; rfl)) ?_; (with_reducible refine (packstream_Write.calls _ _ t338 t341 _ _ t342 _ _ l0 t345 t348 t349 t352 _ ?side1 ?side2 ?side3 ?side4 ?side5 ?side6 A14.out).mono ?_); (case side1 => repeat (first | exact (Kd.R_reads' HO340.out).2.2 | (with_reducible refine Kd.C_alloc ?_ _) | (with_reducible refine Kd.C_drewN ?_ _) | (with_reducible refine Kd.C_drew ?_))); (case side2 => exact (Kd.R_reads' HO340.out).2.1); (case side3 => repeat (first | exact (Kd.R_reads' HO344.out).2.2 | (with_reducible refine Kd.C_alloc ?_ _) | (with_reducible refine Kd.C_drewN ?_ _) | (with_reducible refine Kd.C_drew ?_))); (case side4 => exact (Kd.R_reads' HO344.out).2.1); (case side5 => repeat (first | exact (Kd.C_below HR0.out HB.out) | (with_reducible refine Kd.C_alloc ?_ _) | (with_reducible refine Kd.C_drewN ?_ _) | (with_reducible refine Kd.C_drew ?_))); (case side6 => exact HC0.out); rintro e w32 ⟨v346, v350, v353, rfl, ho0, ho1, ho2, hb⟩; refine ⟨_, rfl, ?_⟩; have n0_ := Aside0.mk (Kd.R_mono (Kd.R_told (Kd.R_told (Kd.R_told (Kd.R_old (by (with_reducible repeat (first | apply Kd.R_alloc | apply Kd.R_drewN | apply Kd.R_drew)); exact HO340.out) hb) (Kd.R_base ho0)) (Kd.R_base ho1)) (Kd.R_base ho2)) (fun _ h_ => h_.1)); have n1_ := Aside0.mk (Kd.R_mono (Kd.R_told (Kd.R_told (Kd.R_told (Kd.R_old (by (with_reducible repeat (first | apply Kd.R_alloc | apply Kd.R_drewN | apply Kd.R_drew)); exact HO344.out) hb) (Kd.R_base ho0)) (Kd.R_base ho1)) (Kd.R_base ho2)) (fun _ h_ => h_.1)); have n2_ := Aside0.mk (Kd.R_lower (Kd.R_new' (Kd.R_new' ho0 (Kd.R_lt (by (with_reducible repeat (first | apply Kd.R_alloc | apply Kd.R_drewN | apply Kd.R_drew)); exact HO340.out))) (Kd.R_lt (by (with_reducible repeat (first | apply Kd.R_alloc | apply Kd.R_drewN | apply Kd.R_drew)); exact HO344.out))) (below_size (by repeat (first | (with_reducible first | exact HB.out | apply below_alloc | apply pw_below_drewN | apply below_drew1) | exact HB.out)))); have n3_ := Aside0.mk (Kd.R_lower (Kd.R_new' (Kd.R_new' ho1 (Kd.R_lt (by (with_reducible repeat (first | apply Kd.R_alloc | apply Kd.R_drewN | apply Kd.R_drew)); exact HO340.out))) (Kd.R_lt (by (with_reducible repeat (first | apply Kd.R_alloc | apply Kd.R_drewN | apply Kd.R_drew)); exact HO344.out))) (below_size (by repeat (first | (with_reducible first | exact HB.out | apply below_alloc | apply pw_below_drewN | apply below_drew1) | exact HB.out)))); have n4_ := Aside0.mk (Kd.R_lower (Kd.R_new' (Kd.R_new' ho2 (Kd.R_lt (by (with_reducible repeat (first | apply Kd.R_alloc | apply Kd.R_drewN | apply Kd.R_drew)); exact HO340.out))) (Kd.R_lt (by (with_reducible repeat (first | apply Kd.R_alloc | apply Kd.R_drewN | apply Kd.R_drew)); exact HO344.out))) (below_size (by repeat (first | (with_reducible first | exact HB.out | apply below_alloc | apply pw_below_drewN | apply below_drew1) | exact HB.out)))); have n5_ := Aside0.mk (below_step (by repeat (first | (with_reducible first | exact HB.out | apply below_alloc | apply pw_below_drewN | apply below_drew1) | exact HB.out)) hb); clear HO340; clear HO344; clear HB; have HO340 := n0_; have HO344 := n1_; have HO347 := n2_; have HO351 := n3_; have HO354 := n4_; have HB := n5_; clear n0_ n1_ n2_ n3_ n4_ n5_; (try clear hb); (try clear hb2); (try clear hk); (try clear hi); (try clear ho0); (try clear ho1); (try clear ho2)) | ((with_reducible refine gate_dst (N := 5) rfl ?_); (try (refine gate_guard (by rfl) ?_; dsimp only)); refine box_event ?hg (N := 5) ?hd (cs := #[.slice none 0 0, .int .i64 0, .slice none 0 0]) (t := 24) ?hr ?_; (case hd => rfl); (case hg => rfl); (case hr => first | (go_simp; done) | (go_simp; rfl)); intro gb355 hg w33 hbox hb; have n0_ := Aside0.mk (Kd.R_below (by (with_reducible repeat (first | apply Kd.R_alloc | apply Kd.R_drewN | apply Kd.R_drew)); exact HO340.out) hb); have n1_ := Aside0.mk (Kd.R_below (by (with_reducible repeat (first | apply Kd.R_alloc | apply Kd.R_drewN | apply Kd.R_drew)); exact HO344.out) hb); have n2_ := Aside0.mk (Kd.R_below (by (with_reducible repeat (first | apply Kd.R_alloc | apply Kd.R_drewN | apply Kd.R_drew)); exact HO347.out) hb); have n3_ := Aside0.mk (Kd.R_below (by (with_reducible repeat (first | apply Kd.R_alloc | apply Kd.R_drewN | apply Kd.R_drew)); exact HO351.out) hb); have n4_ := Aside0.mk (Kd.R_below (by (with_reducible repeat (first | apply Kd.R_alloc | apply Kd.R_drewN | apply Kd.R_drew)); exact HO354.out) hb); have n5_ := Aside0.mk (below_step (by repeat (first | (with_reducible first | exact HB.out | apply below_alloc | apply pw_below_drewN | apply below_drew1) | exact HB.out)) hb); have n6_ := Aside0.mk (hbox); have n7_ := Aside0.mk ((by rw [hg]; exact (below_size (by repeat (first | (with_reducible first | exact HB.out | apply below_alloc | apply pw_below_drewN | apply below_drew1) | exact HB.out))) : w.heap.size ≤ gb355)); have n8_ := Aside0.mk ((by rw [hg]; exact (below_size (by repeat (first | (with_reducible first | exact HB.out | apply below_alloc | apply pw_below_drewN | apply below_drew1) | exact HB.out))) : w.heap.size ≤ gb355)); clear HO340; clear HO344; clear HO347; clear HO351; clear HO354; clear HB; have HO340 := n0_; have HO344 := n1_; have HO347 := n2_; have HO351 := n3_; have HO354 := n4_; have HB := n5_; have BK355 := n6_; have GW355 := n7_; have GE355 := n8_; clear n0_ n1_ n2_ n3_ n4_ n5_ n6_ n7_ n8_; clear hb hbox hg; obtain ⟨Ao34, co34, eo34⟩ := Kd.R_slice HO347.out; subst eo34; have hcz35_0 : w33.cell? ⟨gb355, 0, none⟩ = some (.slice none 0 0) := (blk_cell BK355.out 0).trans rfl; have hcz35_1 : w33.cell? ⟨gb355, 1, none⟩ = some (.int .i64 0) := (blk_cell BK355.out 1).trans rfl; have hcz35_2 : w33.cell? ⟨gb355, 2, none⟩ = some (.slice none 0 0) := (blk_cell BK355.out 2).trans rfl; have hfz35_0 := blk_frozen BK355.out 0; have hfz35_1 := blk_frozen BK355.out 1; have hfz35_2 := blk_frozen BK355.out 2; obtain ⟨Ao36, co36, eo36⟩ := Kd.R_slice HO351.out; subst eo36; obtain ⟨i037, hi037, _, hsz37, _⟩ := info_parts info5; obtain ⟨hcut37, hA37, hC37⟩ := print_take_of (P := Try.prog) (Value.int .u8) 0 22 5 .i64 Try.underlying22 hi037 hsz37 A0 c0 l0 (ji15) (of_decide_eq_true (by first | (with_reducible assumption) | assumption)) (of_decide_eq_true (by first | (with_reducible assumption) | assumption)) HC0.out; have HR356 := Aside0.mk (Kd.C_of_reads (h1 := fun _ => rfl) (hA37 _ (Kd.reads_of_C HR0.out))); have HC356 := Aside0.mk hC37; clear hA37 hC37 hi037 hsz37) | ((with_reducible refine gate_callee (f := 19) rfl ?_); refine goesL_ (some 40) rfl rfl Try.func19 (by kernel_rfl) rfl #[.slice A0 (l0.take ((ji15) : Int).toNat).length c0] rfl (by (try simp only [List.map_toArray, List.map_cons, List.map_nil]); first | done | (rw [show (l0.take ((ji15) : Int).toNat).length = (ji15).toNat from (by rw [List.length_take]; have h_ : ((ji15) : Int) ≤ (l0.length : Int) := of_decide_eq_true (by first | (with_reducible assumption) | assumption); omega)] <;> rfl) | (simp only [hji15]; rfl) | rfl | (simp only [List.length_drop, List.length_take]; rfl)) ?_; (with_reducible refine (capnpref01_Words.calls kj2 _ _ (l0.take ((ji15) : Int).toNat) t357 t358 _ ?side1 ?side2 A18.out).mono ?_); (case side1 => exact Kd.C_below HR356.out (by repeat (first | (with_reducible first | exact HB.out | apply below_alloc | apply pw_below_drewN | apply below_drew1 | refine below_set ?_ GE355.out) | exact HB.out))); (case side2 => exact HC356.out); rintro e w38 ⟨v359, rfl, ho0, hb⟩; refine ⟨_, rfl, ?_⟩; have n0_ := Aside0.mk (Kd.R_below (by (with_reducible repeat (first | apply Kd.R_alloc | apply Kd.R_drewN | apply Kd.R_drew)); exact (Kd.R_mono (Kd.R_far (p := ⟨gb355, 2, none⟩) (Kd.R_far (p := ⟨gb355, 1, none⟩) (Kd.R_far (p := ⟨gb355, 0, none⟩) (Kd.R_types HO340.out BK355.out (by decide)) (fun _ hk => hk.2) (.slice Ao34 t345.length co34)) (fun _ hk => hk.2) (.int .i64 t348)) (fun _ hk => hk.2) (.slice Ao36 t349.length co36)) (fun _ h_ => h_.1))) hb); have n1_ := Aside0.mk (Kd.R_below (by (with_reducible repeat (first | apply Kd.R_alloc | apply Kd.R_drewN | apply Kd.R_drew)); exact (Kd.R_mono (Kd.R_far (p := ⟨gb355, 2, none⟩) (Kd.R_far (p := ⟨gb355, 1, none⟩) (Kd.R_far (p := ⟨gb355, 0, none⟩) (Kd.R_types HO344.out BK355.out (by decide)) (fun _ hk => hk.2) (.slice Ao34 t345.length co34)) (fun _ hk => hk.2) (.int .i64 t348)) (fun _ hk => hk.2) (.slice Ao36 t349.length co36)) (fun _ h_ => h_.1))) hb); have n2_ := Aside0.mk (Kd.R_below (by (with_reducible repeat (first | apply Kd.R_alloc | apply Kd.R_drewN | apply Kd.R_drew)); exact (Kd.R_mono (Kd.R_far (p := ⟨gb355, 2, none⟩) (Kd.R_far (p := ⟨gb355, 1, none⟩) (Kd.R_far (p := ⟨gb355, 0, none⟩) (Kd.R_types HO347.out BK355.out (by decide)) (fun _ hk => hk.2) (.slice Ao34 t345.length co34)) (fun _ hk => hk.2) (.int .i64 t348)) (fun _ hk => hk.2) (.slice Ao36 t349.length co36)) (fun _ h_ => h_.1))) hb); have n3_ := Aside0.mk (Kd.R_below (by (with_reducible repeat (first | apply Kd.R_alloc | apply Kd.R_drewN | apply Kd.R_drew)); exact (Kd.R_mono (Kd.R_far (p := ⟨gb355, 2, none⟩) (Kd.R_far (p := ⟨gb355, 1, none⟩) (Kd.R_far (p := ⟨gb355, 0, none⟩) (Kd.R_types HO351.out BK355.out (by decide)) (fun _ hk => hk.2) (.slice Ao34 t345.length co34)) (fun _ hk => hk.2) (.int .i64 t348)) (fun _ hk => hk.2) (.slice Ao36 t349.length co36)) (fun _ h_ => h_.1))) hb); have n4_ := Aside0.mk (Kd.R_below (by (with_reducible repeat (first | apply Kd.R_alloc | apply Kd.R_drewN | apply Kd.R_drew)); exact (Kd.R_mono (Kd.R_far (p := ⟨gb355, 2, none⟩) (Kd.R_far (p := ⟨gb355, 1, none⟩) (Kd.R_far (p := ⟨gb355, 0, none⟩) (Kd.R_types HO354.out BK355.out (by decide)) (fun _ hk => hk.2) (.slice Ao34 t345.length co34)) (fun _ hk => hk.2) (.int .i64 t348)) (fun _ hk => hk.2) (.slice Ao36 t349.length co36)) (fun _ h_ => h_.1))) hb); have n5_ := Aside0.mk (Kd.R_lower ho0 (below_size (by repeat (first | (with_reducible first | exact HB.out | apply below_alloc | apply pw_below_drewN | apply below_drew1 | refine below_set ?_ GE355.out) | exact HB.out)))); have n6_ := Aside0.mk (blk_below (g := gb355) (o := .cells #[.slice Ao34 t345.length co34, .int .i64 t348, .slice Ao36 t349.length co36] 24 (0, 0)) (by (with_reducible repeat (first | refine blk_drewN ?_ _ | refine blk_drew ?_ | refine blk_alloc ?_ _)); refine blk_put (cs := #[.slice Ao34 t345.length co34, .int .i64 t348, .slice none 0 0]) ?_ 2 _ rfl; (with_reducible repeat (first | refine blk_drewN ?_ _ | refine blk_drew ?_ | refine blk_alloc ?_ _)); refine blk_put (cs := #[.slice Ao34 t345.length co34, .int .i64 0, .slice none 0 0]) ?_ 1 _ rfl; (with_reducible repeat (first | refine blk_drewN ?_ _ | refine blk_drew ?_ | refine blk_alloc ?_ _)); refine blk_put (cs := #[.slice none 0 0, .int .i64 0, .slice none 0 0]) ?_ 0 _ rfl; (with_reducible repeat (first | refine blk_drewN ?_ _ | refine blk_drew ?_ | refine blk_alloc ?_ _)); exact BK355.out) hb); have n7_ := Aside0.mk (below_step (by repeat (first | (with_reducible first | exact HB.out | apply below_alloc | apply pw_below_drewN | apply below_drew1 | refine below_set ?_ GE355.out) | exact HB.out)) hb); clear HO340; clear HO344; clear HO347; clear HO351; clear HO354; clear BK355; clear HB; have HO340 := n0_; have HO344 := n1_; have HO347 := n2_; have HO351 := n3_; have HO354 := n4_; have HO360 := n5_; have BK355 := n6_; have HB := n7_; clear n0_ n1_ n2_ n3_ n4_ n5_ n6_ n7_; (try clear hb); (try clear hb2); (try clear hk); (try clear hi); (try clear ho0)) | ((with_reducible refine gate_builtin (b := .append) (xs := #[.tmp 43, .tmp 44]) rfl ?_); (try (refine gate_guard (by rfl) ?_; dsimp only)); at_builtin; refine Kd.R_append_rows (Kd.int .u64) (w0 := w) w.heap.size rfl (.tmp 43) (.tmp 44) 44 53 (.int .u64 0) 8 rfl Try.underlying44 info53 rfl (by decide) (by omega) v359 t357 l1 _ _ _ (fun _ => True) (fun _ => False) rfl rfl ?aO ?aR (fun _ _ h => h) (fun _ h => h.elim) ?aF ?aB ?aS ?aL ?_; (case aR => repeat (first | exact (Kd.C_below HR1.out HB.out) | (with_reducible refine Kd.C_alloc ?_ _) | (with_reducible refine Kd.C_drewN ?_ _) | (with_reducible refine Kd.C_drew ?_))); (case aB => exact (by repeat (first | (with_reducible first | exact HB.out | apply below_alloc | apply pw_below_drewN | apply below_drew1 | refine below_set ?_ GE355.out) | exact HB.out))); (case aF => exact (fun _ _ => trivial)); (case aO => exact (by (with_reducible repeat (first | apply Kd.R_alloc | apply Kd.R_drewN | apply Kd.R_drew)); exact HO360.out)); (case aS => exact (below_size (by repeat (first | (with_reducible first | exact HB.out | apply below_alloc | apply pw_below_drewN | apply below_drew1 | refine below_set ?_ GE355.out) | exact HB.out)))); (case aL => have := LMc19.out; omega); intro v362 w39 ho hb hg hat; rw [← Ny361.out] at ho; have n0_ := Aside0.mk (Kd.R_over' (by (with_reducible repeat (first | apply Kd.R_alloc | apply Kd.R_drewN | apply Kd.R_drew)); exact HO340.out) (Kd.R_typed (by (with_reducible repeat (first | apply Kd.R_alloc | apply Kd.R_drewN | apply Kd.R_drew)); exact HO360.out)) (by decide) hg); have n1_ := Aside0.mk (Kd.R_over' (by (with_reducible repeat (first | apply Kd.R_alloc | apply Kd.R_drewN | apply Kd.R_drew)); exact HO344.out) (Kd.R_typed (by (with_reducible repeat (first | apply Kd.R_alloc | apply Kd.R_drewN | apply Kd.R_drew)); exact HO360.out)) (by decide) hg); have n2_ := Aside0.mk (Kd.R_over' (by (with_reducible repeat (first | apply Kd.R_alloc | apply Kd.R_drewN | apply Kd.R_drew)); exact HO347.out) (Kd.R_typed (by (with_reducible repeat (first | apply Kd.R_alloc | apply Kd.R_drewN | apply Kd.R_drew)); exact HO360.out)) (by decide) hg); have n3_ := Aside0.mk (Kd.R_over' (by (with_reducible repeat (first | apply Kd.R_alloc | apply Kd.R_drewN | apply Kd.R_drew)); exact HO351.out) (Kd.R_typed (by (with_reducible repeat (first | apply Kd.R_alloc | apply Kd.R_drewN | apply Kd.R_drew)); exact HO360.out)) (by decide) hg); have n4_ := Aside0.mk (Kd.R_over' (by (with_reducible repeat (first | apply Kd.R_alloc | apply Kd.R_drewN | apply Kd.R_drew)); exact HO354.out) (Kd.R_typed (by (with_reducible repeat (first | apply Kd.R_alloc | apply Kd.R_drewN | apply Kd.R_drew)); exact HO360.out)) (by decide) hg); have n5_ := Aside0.mk (blk_grown (g := gb355) (o := .cells #[.slice Ao34 t345.length co34, .int .i64 t348, .slice Ao36 t349.length co36] 24 (0, 0)) (by (with_reducible repeat (first | refine blk_drewN ?_ _ | refine blk_drew ?_ | refine blk_alloc ?_ _)); exact BK355.out) hg (Kd.R_ne HO360.out BK355.out (by decide))); have n6_ := Aside0.mk (hb); have n7_ := Aside0.mk (ho); clear HO340; clear HO344; clear HO347; clear HO351; clear HO354; clear BK355; clear HB; clear HO360; have HO340 := n0_; have HO344 := n1_; have HO347 := n2_; have HO351 := n3_; have HO354 := n4_; have BK355 := n5_; have HB := n6_; have HO363 := n7_; clear n0_ n1_ n2_ n3_ n4_ n5_ n6_ n7_; clear ho hb hg hat; obtain ⟨Ao40, co40, eo40⟩ := Kd.R_slice HO363.out; subst eo40) | ((with_reducible refine gate_callee (f := 20) rfl ?_); refine goesL_ (some 46) rfl rfl Try.func20 (by kernel_rfl) rfl #[.slice Ao40 y361.length co40] rfl (by (try simp only [List.map_toArray, List.map_cons, List.map_nil]); first | done | rfl | (simp only [List.length_drop, List.length_take]; rfl)) ?_; (with_reducible refine (capnpref21_Words.calls kj2 _ _ y361 t364 _ ?side1 ?side2 A20.out).mono ?_); (case side1 => repeat (first | exact (Kd.R_reads' HO363.out).2.2 | (with_reducible refine Kd.C_alloc ?_ _) | (with_reducible refine Kd.C_drewN ?_ _) | (with_reducible refine Kd.C_drew ?_))); (case side2 => exact (Kd.R_reads' HO363.out).2.1); rintro e w41 ⟨v365, rfl, ho0, hb⟩; refine ⟨_, rfl, ?_⟩; have n0_ := Aside0.mk (Kd.R_elder' (by (with_reducible repeat (first | apply Kd.R_alloc | apply Kd.R_drewN | apply Kd.R_drew)); exact HO340.out) (Kd.R_base ho0) hb); have n1_ := Aside0.mk (Kd.R_elder' (by (with_reducible repeat (first | apply Kd.R_alloc | apply Kd.R_drewN | apply Kd.R_drew)); exact HO344.out) (Kd.R_base ho0) hb); have n2_ := Aside0.mk (Kd.R_elder' (by (with_reducible repeat (first | apply Kd.R_alloc | apply Kd.R_drewN | apply Kd.R_drew)); exact HO347.out) (Kd.R_base ho0) hb); have n3_ := Aside0.mk (Kd.R_elder' (by (with_reducible repeat (first | apply Kd.R_alloc | apply Kd.R_drewN | apply Kd.R_drew)); exact HO351.out) (Kd.R_base ho0) hb); have n4_ := Aside0.mk (Kd.R_elder' (by (with_reducible repeat (first | apply Kd.R_alloc | apply Kd.R_drewN | apply Kd.R_drew)); exact HO354.out) (Kd.R_base ho0) hb); have n5_ := Aside0.mk (Kd.R_below (by (with_reducible repeat (first | apply Kd.R_alloc | apply Kd.R_drewN | apply Kd.R_drew)); exact HO363.out) hb); have n6_ := Aside0.mk (Kd.R_lower (Kd.R_new' (Kd.R_new' (Kd.R_new' (Kd.R_new' (Kd.R_new' ho0 (Kd.R_lt (by (with_reducible repeat (first | apply Kd.R_alloc | apply Kd.R_drewN | apply Kd.R_drew)); exact HO340.out))) (Kd.R_lt (by (with_reducible repeat (first | apply Kd.R_alloc | apply Kd.R_drewN | apply Kd.R_drew)); exact HO344.out))) (Kd.R_lt (by (with_reducible repeat (first | apply Kd.R_alloc | apply Kd.R_drewN | apply Kd.R_drew)); exact HO347.out))) (Kd.R_lt (by (with_reducible repeat (first | apply Kd.R_alloc | apply Kd.R_drewN | apply Kd.R_drew)); exact HO351.out))) (Kd.R_lt (by (with_reducible repeat (first | apply Kd.R_alloc | apply Kd.R_drewN | apply Kd.R_drew)); exact HO354.out))) (below_size (by repeat (first | (with_reducible first | exact HB.out | apply below_alloc | apply pw_below_drewN | apply below_drew1 | refine below_set ?_ GE355.out) | exact HB.out)))); have n7_ := Aside0.mk (blk_below (g := gb355) (o := .cells #[.slice Ao34 t345.length co34, .int .i64 t348, .slice Ao36 t349.length co36] 24 (0, 0)) (by (with_reducible repeat (first | refine blk_drewN ?_ _ | refine blk_drew ?_ | refine blk_alloc ?_ _)); exact BK355.out) hb); have n8_ := Aside0.mk (below_step (by repeat (first | (with_reducible first | exact HB.out | apply below_alloc | apply pw_below_drewN | apply below_drew1 | refine below_set ?_ GE355.out) | exact HB.out)) hb); clear HO340; clear HO344; clear HO347; clear HO351; clear HO354; clear HO363; clear BK355; clear HB; have HO340 := n0_; have HO344 := n1_; have HO347 := n2_; have HO351 := n3_; have HO354 := n4_; have HO363 := n5_; have HO366 := n6_; have BK355 := n7_; have HB := n8_; clear n0_ n1_ n2_ n3_ n4_ n5_ n6_ n7_ n8_; (try clear hb); (try clear hb2); (try clear hk); (try clear hi); (try clear ho0); have hcz42_0 : w41.cell? ⟨gb355, 0, none⟩ = some (.slice Ao34 t345.length co34) := (blk_cell BK355.out 0).trans rfl; have hcz42_1 : w41.cell? ⟨gb355, 1, none⟩ = some (.int .i64 t348) := (blk_cell BK355.out 1).trans rfl; have hcz42_2 : w41.cell? ⟨gb355, 2, none⟩ = some (.slice Ao36 t349.length co36) := (blk_cell BK355.out 2).trans rfl; have hfz42_0 := blk_frozen BK355.out 0; have hfz42_1 := blk_frozen BK355.out 1; have hfz42_2 := blk_frozen BK355.out 2) | ((with_reducible refine gate_callee (f := 11) rfl ?_); refine goesL_ (some 48) rfl rfl Try.func11 (by kernel_rfl) rfl #[.agg #[.slice Ao34 t345.length co34, .int .i64 t348, .slice Ao36 t349.length co36]] rfl (by (try simp only [List.map_toArray, List.map_cons, List.map_nil]); first | done | rfl | (simp only [List.length_drop, List.length_take]; rfl)) ?_; (with_reducible refine (packstream_Valid.calls kj2 _ _ t345 t348 _ _ t349 true _ ?side1 ?side2 ?side3 ?side4 A21.out).mono ?_); (case side1 => repeat (first | exact (Kd.R_reads' HO347.out).2.2 | (with_reducible refine Kd.C_alloc ?_ _) | (with_reducible refine Kd.C_drewN ?_ _) | (with_reducible refine Kd.C_drew ?_))); (case side2 => exact (Kd.R_reads' HO347.out).2.1); (case side3 => repeat (first | exact (Kd.R_reads' HO351.out).2.2 | (with_reducible refine Kd.C_alloc ?_ _) | (with_reducible refine Kd.C_drewN ?_ _) | (with_reducible refine Kd.C_drew ?_))); (case side4 => exact (Kd.R_reads' HO351.out).2.1); rintro e w43 ⟨rfl, hb⟩; refine ⟨_, rfl, ?_⟩; have n0_ := Aside0.mk (Kd.R_below (by (with_reducible repeat (first | apply Kd.R_alloc | apply Kd.R_drewN | apply Kd.R_drew)); exact HO340.out) hb); have n1_ := Aside0.mk (Kd.R_below (by (with_reducible repeat (first | apply Kd.R_alloc | apply Kd.R_drewN | apply Kd.R_drew)); exact HO344.out) hb); have n2_ := Aside0.mk (Kd.R_below (by (with_reducible repeat (first | apply Kd.R_alloc | apply Kd.R_drewN | apply Kd.R_drew)); exact HO347.out) hb); have n3_ := Aside0.mk (Kd.R_below (by (with_reducible repeat (first | apply Kd.R_alloc | apply Kd.R_drewN | apply Kd.R_drew)); exact HO351.out) hb); have n4_ := Aside0.mk (Kd.R_below (by (with_reducible repeat (first | apply Kd.R_alloc | apply Kd.R_drewN | apply Kd.R_drew)); exact HO354.out) hb); have n5_ := Aside0.mk (Kd.R_below (by (with_reducible repeat (first | apply Kd.R_alloc | apply Kd.R_drewN | apply Kd.R_drew)); exact HO363.out) hb); have n6_ := Aside0.mk (Kd.R_below (by (with_reducible repeat (first | apply Kd.R_alloc | apply Kd.R_drewN | apply Kd.R_drew)); exact HO366.out) hb); have n7_ := Aside0.mk (blk_below (g := gb355) (o := .cells #[.slice Ao34 t345.length co34, .int .i64 t348, .slice Ao36 t349.length co36] 24 (0, 0)) (by (with_reducible repeat (first | refine blk_drewN ?_ _ | refine blk_drew ?_ | refine blk_alloc ?_ _)); exact BK355.out) hb); have n8_ := Aside0.mk (below_step (by repeat (first | (with_reducible first | exact HB.out | apply below_alloc | apply pw_below_drewN | apply below_drew1 | refine below_set ?_ GE355.out) | exact HB.out)) hb); clear HO340; clear HO344; clear HO347; clear HO351; clear HO354; clear HO363; clear HO366; clear BK355; clear HB; have HO340 := n0_; have HO344 := n1_; have HO347 := n2_; have HO351 := n3_; have HO354 := n4_; have HO363 := n5_; have HO366 := n6_; have BK355 := n7_; have HB := n8_; clear n0_ n1_ n2_ n3_ n4_ n5_ n6_ n7_ n8_; (try clear hb); (try clear hb2); (try clear hk); (try clear hi); have hcz44_0 : w43.cell? ⟨gb355, 0, none⟩ = some (.slice Ao34 t345.length co34) := (blk_cell BK355.out 0).trans rfl; have hcz44_1 : w43.cell? ⟨gb355, 1, none⟩ = some (.int .i64 t348) := (blk_cell BK355.out 1).trans rfl; have hcz44_2 : w43.cell? ⟨gb355, 2, none⟩ = some (.slice Ao36 t349.length co36) := (blk_cell BK355.out 2).trans rfl; have hfz44_0 := blk_frozen BK355.out 0; have hfz44_1 := blk_frozen BK355.out 1; have hfz44_2 := blk_frozen BK355.out 2; obtain ⟨Ao45, co45, eo45⟩ := Kd.R_slice HO354.out; subst eo45; obtain ⟨Ao46, co46, eo46⟩ := Kd.R_slice HO366.out; subst eo46; have q47 : ((t352.length : Int) : Int) ≤ ((t364.length : Int) : Int) := of_decide_eq_true (by first | (with_reducible assumption) | assumption); obtain ⟨i047, hi047, _, hsz47, _⟩ := info_parts info5; have hroom47 : t364.length ≤ co46 := (Kd.R_reads' HO366.out).2.1; have hC47 : Kd.C (Kd.int .u8) _ Ao46 t364.length t364 := (Kd.R_reads' HO366.out).2.2; have hcut47 := cut_to (P := Try.prog) 22 5 .i64 Try.underlying22 hi047 Ao46 t364.length co46 (t352.length : Int) (of_decide_eq_true (by first | (with_reducible assumption) | assumption)) q47 hroom47; have hr47 := Kd.C_take (m := ((t352.length : Int) : Int).toNat) hC47 (by omega); have hy47 : y368.length = ((t352.length : Int) : Int).toNat := (by rw [Ny368.out, List.length_take]; omega); rw [← Ny368.out] at hr47; rw [← hy47] at hcut47; have HR371 := Aside0.mk hr47; have HC371 := Aside0.mk (show y368.length ≤ co46 from by omega); clear hr47 hC47 hroom47 hi047 hsz47; have KY47 := Aside0.mk hy47; clear hy47; have KL47 := Aside0.mk (show ((t352.length : Int) : Int).toNat ≤ t364.length from by omega); replace q47 := eq_true q47) | (go_at_call 16; (with_reducible refine (capnpref01_Same.calls kj2 _ _ t352 _ _ y368 t372 _ ?side1 ?side2 ?side3 ?side4 A28.out).mono ?_); (case side1 => repeat (first | exact (Kd.R_reads' HO354.out).2.2 | (with_reducible refine Kd.C_alloc ?_ _) | (with_reducible refine Kd.C_drewN ?_ _) | (with_reducible refine Kd.C_drew ?_))); (case side2 => exact (Kd.R_reads' HO354.out).2.1); (case side3 => repeat (first | exact (by repeat (first | (with_reducible exact HR371.out) | (with_reducible refine Kd.C_alloc ?_ _) | (with_reducible refine Kd.C_drewN ?_ _) | (with_reducible refine Kd.C_drew ?_) | exact HR371.out)) | (with_reducible refine Kd.C_alloc ?_ _) | (with_reducible refine Kd.C_drewN ?_ _) | (with_reducible refine Kd.C_drew ?_))); (case side4 => exact HC371.out); rintro e w' ⟨rfl, ⟨nd, rfl⟩⟩))
                        go_ret
                        exact ⟨by first | rfl | (simp [errW_none, errW_some] <;> rfl) | (simp only [← hji15]; first | rfl | (simp [errW_none, errW_some] <;> rfl)) | (simp [*, errW_none, errW_some] <;> rfl), by repeat (first | (with_reducible first | exact HB.out | apply below_alloc | apply pw_below_drewN | apply below_drew1 | refine below_set ?_ GE355.out) | exact HB.out)⟩
                      · rw [if_neg c26] at H
                        exact absurd H (by simp)
                    · rw [if_neg c25] at H
                      exact absurd H (by simp)
                  · rw [if_neg c24] at H
                    exact absurd H (by simp)
                · rw [if_neg c23] at H
                  exact absurd H (by simp)
              · replace c22 := Bool.eq_false_iff.mpr c22
                subst c22
                have H1 : (none) = some r := by rw [if_neg (show ¬ (false = true) by decide)] at H; exact H
                clear H
                have H := H1
                clear H1
                exact absurd H (by simp)
            · rw [if_neg c19] at H
              exact absurd H (by simp)
          · rw [if_neg c17] at H
            exact absurd H (by simp)
        · rw [if_neg c16] at H
          exact absurd H (by simp)

/-- THE ONE PURE STATEMENT of capnplaw24_PackstreamHolds: yours. -/
def capnplaw24_PackstreamHolds.Pure : Prop := ∀ (l0 : List Int) (l1 : List Int), l0.length ≤ maxLen → l0.length * 1 ≤ 140737488351232 → (∀ x ∈ l0, (Lit.int .u8 x).wf = true) → l1.length ≤ maxLen → l1.length * 8 ≤ 140737488351232 → (∀ x ∈ l1, (Lit.int .u64 x).wf = true) → ∃ k, capnplaw24_PackstreamHolds.f k l0 l1 = some true
theorem capnplaw24_PackstreamHolds.walk (P : capnplaw24_PackstreamHolds.Pure) (a0 : Option Addr) (len0 cap0 : Nat) (z0 : List Int) (a1 : Option Addr) (len1 cap1 : Nat) (z1 : List Int) (w : World) (w0 : (a0 = none ∧ len0 = 0 ∧ cap0 = 0 ∧ z0 = []) ∨ ∃ x, a0 = some x ∧ len0 ≤ cap0 ∧ cap0 ≤ maxLen ∧ z0.length = cap0 ∧ (∀ i, i < z0.length → w.cell? (x.add i) = some (.int .u8 (z0.getD i 0))) ∧ ∀ n ∈ z0, (Lit.int .u8 n).wf = true) (y0 : len0 * 1 ≤ 140737488351232) (w1 : (a1 = none ∧ len1 = 0 ∧ cap1 = 0 ∧ z1 = []) ∨ ∃ x, a1 = some x ∧ len1 ≤ cap1 ∧ cap1 ≤ maxLen ∧ z1.length = cap1 ∧ (∀ i, i < z1.length → w.cell? (x.add i) = some (.int .u64 (z1.getD i 0))) ∧ ∀ n ∈ z1, (Lit.int .u64 n).wf = true) (y1 : len1 * 8 ≤ 140737488351232) :
    Calls Try.prog 6 #[.slice a0 len0 cap0, .slice a1 len1 cap1] w fun e w' => e = .returned (.bool true) ∧ Below w.heap.size w w' := by
  obtain ⟨l0, rfl, hr0, hm0, hw0, hc0⟩ := ReadsInt.ofRowC w0
  obtain ⟨l1, rfl, hr1, hm1, hw1, hc1⟩ := ReadsInt.ofRowC w1
  obtain ⟨k, h⟩ := P l0 l1 hm0 y0 hw0 hm1 y1 hw1
  refine (capnplaw24_PackstreamHolds.calls k _ _ l0 _ _ l1 true w (Kd.C_of_reads (d := (0 : Int)) (h1 := fun _ => rfl) hr0) hc0 (Kd.C_of_reads (d := (0 : Int)) (h1 := fun _ => rfl) hr1) hc1 h).mono ?_
  rintro e w' ⟨rfl, hd⟩
  exact ⟨rfl, hd⟩

end Go.Proofs.Ytibkbgaonjdpiaa.PPackstreamHolds
