/- Written by myprint.py, a program of this session: printed functions of a law, and the proofs that the Go code comes to them. -/
import Derived.Test.YtpffoecblcfndaaDoorPUnpackstreamRoundTripx0T
import Derived.Test.YtpffoecblcfndaaDoorPUnpackstreamRoundTripx3T
import Derived.Test.YtpffoecblcfndaaDoorPUnpackstreamRoundTripx5T
namespace Go.Proofs.YtpffoecblcfndaaDoor.PUnpackstreamRoundTrip
open Go.RowKit Go.Proofs.YtpffoecblcfndaaDoorW.PrintWords Go.Proofs.YtpffoecblcfndaaDoorW.PrintLast Go.Proofs.YtpffoecblcfndaaDoorW.PrintMore
attribute [local go_sem] max2_int min2_int max_two min_two max_three min_three max_four min_four   -- for this text's walks alone
set_option linter.unusedVariables false
set_option linter.unusedSimpArgs false
/-! ### capnplaw25_UnpackstreamRoundTrip: function 7 -/
mutual
def capnplaw25_UnpackstreamRoundTrip.j0 : Nat → List Int → Int → Bool → Option (Bool)
  | 0, _, _, _ => none
  | k + 1, x0, x1, x19 => if x19 = true then ((capnplaw25_awake.f k).bind fun t293 => (some t293)) else ((capnpref21_Words.f k x0).bind fun t294 => ((capnpref01_Bytes.f k x0).bind fun t297 => ((unpackstream_New.f).bind fun bt300 => (capnplaw25_UnpackstreamRoundTrip.l0 k x1 t294 t297 ([] : List Int) 0 bt300.1 bt300.2.1 bt300.2.2.1 bt300.2.2.2.1 bt300.2.2.2.2.1 bt300.2.2.2.2.2))))
def capnplaw25_UnpackstreamRoundTrip.l0 : Nat → Int → List Int → List Int → List Int → Int → Int → Int → List Int → Int → Int → Int → Option (Bool)
  | 0, _, _, _, _, _, _, _, _, _, _, _ => none
  | k + 1, x1, x5, x6, x8, x9, x309000, x309001, x309002, x309003, x309004, x309005 => if x9 < (x5.length : Int) then (if 0 ≤ x9 then (if x9 ≤ (wrap64 (x9 + 1)) then (if (wrap64 (x9 + 1)) ≤ (x5.length : Int) then ((unpackstream_Write.f x309000 x309001 x309002 x309003 x309004 x309005 ((x5.take ((wrap64 (x9 + 1)) : Int).toNat).drop (x9 : Int).toNat) x1).bind fun bt313 => (if x8.length + bt313.2.2.2.2.2.2.1.length < 140737488355328 then (capnplaw25_UnpackstreamRoundTrip.l0 k x1 x5 x6 (x8 ++ bt313.2.2.2.2.2.2.1) (wrap64 (x9 + 1)) bt313.1 bt313.2.1 bt313.2.2.1 bt313.2.2.2.1 bt313.2.2.2.2.1 bt313.2.2.2.2.2.1) else (none))) else (none)) else (none)) else (none)) else (if (x6.length : Int) > (mx x1 0) then (if x309005 = 11 then (if (x8.length : Int) = (wrap64 ((wrap64 ((mx x1 0) / 8)) * 8)) then (if 0 ≤ (x8.length : Int) then (if (x8.length : Int) ≤ (x6.length : Int) then ((capnpref01_Same.f k x8 (x6.take ((x8.length : Int) : Int).toNat)).bind fun t333 => (some t333)) else (none)) else (none)) else (none)) else (none)) else ((unpackstream_Close.f k x309000 x309001 x309002 x309003 x309004 x309005).bind fun t334 => (if t334 = 0 then ((capnpref01_Same.f k x8 x6).bind fun t335 => (some t335)) else (none))))
end
def capnplaw25_UnpackstreamRoundTrip.f (k : Nat) (l0 : List Int) (a1 : Int) : Option (Bool) := (capnplaw25_awake.f k).bind fun t292 => (if t292 = true then (capnplaw25_UnpackstreamRoundTrip.j0 k l0 a1 (decide ((l0.length : Int) > 300))) else (capnplaw25_UnpackstreamRoundTrip.j0 k l0 a1 true))
theorem capnplaw25_UnpackstreamRoundTrip.mono_l : ∀ k, (∀ y0 y1 y2, LeO (capnplaw25_UnpackstreamRoundTrip.j0 k y0 y1 y2) (capnplaw25_UnpackstreamRoundTrip.j0 (k + 1) y0 y1 y2)) ∧ (∀ y0 y1 y2 y3 y4 y5 y6 y7 y8 y9 y10, LeO (capnplaw25_UnpackstreamRoundTrip.l0 k y0 y1 y2 y3 y4 y5 y6 y7 y8 y9 y10) (capnplaw25_UnpackstreamRoundTrip.l0 (k + 1) y0 y1 y2 y3 y4 y5 y6 y7 y8 y9 y10))
  | 0 => ⟨fun _ _ _ r h => by simp [capnplaw25_UnpackstreamRoundTrip.j0] at h, fun _ _ _ _ _ _ _ _ _ _ _ r h => by simp [capnplaw25_UnpackstreamRoundTrip.l0] at h⟩
  | k + 1 => by
    obtain ⟨ih0, ih1⟩ := capnplaw25_UnpackstreamRoundTrip.mono_l k
    refine ⟨?_, ?_⟩
    · intro y0 y1 y2
      unfold capnplaw25_UnpackstreamRoundTrip.j0
      repeat' first
      | (with_reducible exact ih0 _ _ _)
      | (with_reducible exact ih1 _ _ _ _ _ _ _ _ _ _ _)
      | (with_reducible exact capnplaw25_awake.mono _)
      | (with_reducible exact capnpref01_Bytes.mono _ _)
      | (with_reducible exact capnpref01_Same.mono _ _ _)
      | (with_reducible exact capnpref21_Words.mono _ _)
      | (with_reducible exact unpackstream_Close.mono _ _ _ _ _ _ _)
      | (with_reducible exact LeO.refl _)
      | (with_reducible exact LeO.none _)
      | (with_reducible refine LeO.ite ?_ ?_)
      | (with_reducible refine LeO.bind ?_ (fun _ => ?_))
      | exact ih0 _ _ _
      | exact ih1 _ _ _ _ _ _ _ _ _ _ _
      | exact capnplaw25_awake.mono _
      | exact capnpref01_Bytes.mono _ _
      | exact capnpref01_Same.mono _ _ _
      | exact capnpref21_Words.mono _ _
      | exact unpackstream_Close.mono _ _ _ _ _ _ _
      | exact LeO.none _
      | refine LeO.ite ?_ ?_
      | refine LeO.bind ?_ (fun _ => ?_)
    · intro y0 y1 y2 y3 y4 y5 y6 y7 y8 y9 y10
      unfold capnplaw25_UnpackstreamRoundTrip.l0
      repeat' first
      | (with_reducible exact ih0 _ _ _)
      | (with_reducible exact ih1 _ _ _ _ _ _ _ _ _ _ _)
      | (with_reducible exact capnplaw25_awake.mono _)
      | (with_reducible exact capnpref01_Bytes.mono _ _)
      | (with_reducible exact capnpref01_Same.mono _ _ _)
      | (with_reducible exact capnpref21_Words.mono _ _)
      | (with_reducible exact unpackstream_Close.mono _ _ _ _ _ _ _)
      | (with_reducible exact LeO.refl _)
      | (with_reducible exact LeO.none _)
      | (with_reducible refine LeO.ite ?_ ?_)
      | (with_reducible refine LeO.bind ?_ (fun _ => ?_))
      | exact ih0 _ _ _
      | exact ih1 _ _ _ _ _ _ _ _ _ _ _
      | exact capnplaw25_awake.mono _
      | exact capnpref01_Bytes.mono _ _
      | exact capnpref01_Same.mono _ _ _
      | exact capnpref21_Words.mono _ _
      | exact unpackstream_Close.mono _ _ _ _ _ _ _
      | exact LeO.none _
      | refine LeO.ite ?_ ?_
      | refine LeO.bind ?_ (fun _ => ?_)
theorem capnplaw25_UnpackstreamRoundTrip.mono : ∀ a0 a1 k, LeO (capnplaw25_UnpackstreamRoundTrip.f k a0 a1) (capnplaw25_UnpackstreamRoundTrip.f (k + 1) a0 a1) := by
  intro a0 a1 k
  obtain ⟨ih0, ih1⟩ := capnplaw25_UnpackstreamRoundTrip.mono_l k
  unfold capnplaw25_UnpackstreamRoundTrip.f
  repeat' first
      | (with_reducible exact ih0 _ _ _)
      | (with_reducible exact ih1 _ _ _ _ _ _ _ _ _ _ _)
      | (with_reducible exact capnplaw25_awake.mono _)
      | (with_reducible exact capnpref01_Bytes.mono _ _)
      | (with_reducible exact capnpref01_Same.mono _ _ _)
      | (with_reducible exact capnpref21_Words.mono _ _)
      | (with_reducible exact unpackstream_Close.mono _ _ _ _ _ _ _)
      | (with_reducible exact LeO.refl _)
      | (with_reducible exact LeO.none _)
      | (with_reducible refine LeO.ite ?_ ?_)
      | (with_reducible refine LeO.bind ?_ (fun _ => ?_))
      | exact ih0 _ _ _
      | exact ih1 _ _ _ _ _ _ _ _ _ _ _
      | exact capnplaw25_awake.mono _
      | exact capnpref01_Bytes.mono _ _
      | exact capnpref01_Same.mono _ _ _
      | exact capnpref21_Words.mono _ _
      | exact unpackstream_Close.mono _ _ _ _ _ _ _
      | exact LeO.none _
      | refine LeO.ite ?_ ?_
      | refine LeO.bind ?_ (fun _ => ?_)
def capnplaw25_UnpackstreamRoundTrip.T10 : Bool × List (List Nat × List Nat) := (true, [([], []), ([], []), ([], []), ([], []), ([3], [3]), ([1, 2, 4], [1, 2, 4]), ([], []), ([0, 5, 6], [0, 5, 6]), ([7], [7]), ([8], [8]), ([8], [8]), ([8], [8]), ([], []), ([12, 9, 7, 0, 1, 2, 3, 4, 5, 6, 7, 8, 9, 12], [9, 12]), ([10, 13, 0, 1, 2, 3, 4, 5, 6, 7, 8, 9, 10, 12, 13], [10]), ([11, 14, 0, 1, 2, 3, 4, 5, 6, 7, 8, 9, 10, 11, 12, 13, 14], [11])])
def capnplaw25_UnpackstreamRoundTrip.B10 : List Nat := [0, 0, 0, 0, 8, 30, 0, 127, 255, 511, 511, 511, 0, 5119, 14335, 32767]
theorem capnplaw25_UnpackstreamRoundTrip.tab10 : rtab .any (opsOf Tryd.f7 10) = capnplaw25_UnpackstreamRoundTrip.T10 := by kernel_rfl
theorem capnplaw25_UnpackstreamRoundTrip.bits10 : waitsOk capnplaw25_UnpackstreamRoundTrip.T10.2 capnplaw25_UnpackstreamRoundTrip.B10 = true := by kernel_rfl
set_option maxHeartbeats 8000000 in
set_option maxRecDepth 100000 in
theorem capnplaw25_UnpackstreamRoundTrip.calls (k : Nat) (A0 : Option Addr) (c0 : Nat) (l0 : List Int) (a1 : Int) (r : Bool) (w : World) (hr0 : Kd.C (Kd.int .u64) w A0 l0.length l0) (hc0 : l0.length ≤ c0) (h : capnplaw25_UnpackstreamRoundTrip.f k l0 a1 = some r) (hL : Go.Proofs.YtpffoecblcfndaaDoor.Us.StepsL w) :
    Calls Tryd.prog 7 #[.slice A0 l0.length c0, .int .i64 a1] w fun e w' => e = .returned (.bool r) ∧ Below w.heap.size w w' := by
  have HL := Aside0.mk hL
  clear hL
  have hu25 := Tryd.underlying25
  have HR0 := Aside0.mk hr0
  have HC0 := Aside0.mk hc0
  clear hr0 hc0
  have HB := Aside0.mk (Below.refl w.heap.size w)
  have H : ((capnplaw25_awake.f k).bind fun t292 => (if t292 = true then (capnplaw25_UnpackstreamRoundTrip.j0 k l0 a1 (decide ((l0.length : Int) > 300))) else (capnplaw25_UnpackstreamRoundTrip.j0 k l0 a1 true))) = some r := h
  clear h
  have HC3 := Aside0.mk H
  clear H
  go_enter Tryd.func7, Tryd.ntmps7
  try simp only [List.append_eq, List.cons_append, List.nil_append]
  go_upto_region 1 with (fail)
  go_cut [19] (fun v19 wc => ∃ (kq : Nat) (x19_2 : Bool), v19 = .bool x19_2 ∧ Aside0 (capnplaw25_UnpackstreamRoundTrip.j0 kq l0 a1 x19_2 = some r) ∧ Aside0 (kq ≤ k) ∧ Aside0 (Below w.heap.size w wc))
  case first =>
    have H := HC3.out
    clear HC3
    replace H := Option.bind_eq_some_iff.mp H
    obtain ⟨t292, A40, H⟩ := H
    replace H : (if t292 = true then (capnplaw25_UnpackstreamRoundTrip.j0 k l0 a1 (decide ((l0.length : Int) > 300))) else (capnplaw25_UnpackstreamRoundTrip.j0 k l0 a1 true)) = some r := H
    have A4 := Aside0.mk A40
    clear A40
    by_cases c5 : t292 = true
    · subst c5
      have H1 : (capnplaw25_UnpackstreamRoundTrip.j0 k l0 a1 (decide ((l0.length : Int) > 300))) = some r := by rw [if_pos rfl] at H; exact H
      clear H
      have H := H1
      clear H1
      have H' := Aside0.mk H
      clear H
      go_wp2_with (first | ((with_reducible refine gate_callee (f := 8) rfl ?_); refine goesL_ (some 13) rfl rfl Tryd.func8 (by kernel_rfl) rfl #[] rfl (by (try simp only [List.map_toArray, List.map_cons, List.map_nil]); first | done | rfl | (simp only [List.length_drop, List.length_take]; rfl)) ?_; (with_reducible refine (capnplaw25_awake.calls k  true _ A4.out (Go.Proofs.YtpffoecblcfndaaDoor.Us.StepsL.below HL.out (by repeat (first | (with_reducible first | exact HB.out | apply below_alloc | apply pw_below_drewN | apply below_drew1) | exact HB.out)))).mono ?_); rintro e w6 ⟨rfl, hb⟩; refine ⟨_, rfl, ?_⟩; have n0_ := Aside0.mk (below_step (by repeat (first | (with_reducible first | exact HB.out | apply below_alloc | apply pw_below_drewN | apply below_drew1) | exact HB.out)) hb); clear HB; have HB := n0_; clear n0_; (try clear hb); (try clear hb2); (try clear hk); (try clear hi)))
      go_meet
      case rel => exact ⟨_, (decide ((l0.length : Int) > 300)), (by first | rfl | (simp; done) | (simp [*]; done)), H', ⟨by first | omega | exact Nat.le_refl _⟩, ⟨by repeat (first | (with_reducible first | exact HB.out | apply below_alloc | apply pw_below_drewN | apply below_drew1) | exact HB.out)⟩⟩
    · replace c5 := Bool.eq_false_iff.mpr c5
      subst c5
      have H1 : (capnplaw25_UnpackstreamRoundTrip.j0 k l0 a1 true) = some r := by rw [if_neg (show ¬ (false = true) by decide)] at H; exact H
      clear H
      have H := H1
      clear H1
      have H' := Aside0.mk H
      clear H
      go_wp2_with (first | ((with_reducible refine gate_callee (f := 8) rfl ?_); refine goesL_ (some 13) rfl rfl Tryd.func8 (by kernel_rfl) rfl #[] rfl (by (try simp only [List.map_toArray, List.map_cons, List.map_nil]); first | done | rfl | (simp only [List.length_drop, List.length_take]; rfl)) ?_; (with_reducible refine (capnplaw25_awake.calls k  false _ A4.out (Go.Proofs.YtpffoecblcfndaaDoor.Us.StepsL.below HL.out (by repeat (first | (with_reducible first | exact HB.out | apply below_alloc | apply pw_below_drewN | apply below_drew1) | exact HB.out)))).mono ?_); rintro e w7 ⟨rfl, hb⟩; refine ⟨_, rfl, ?_⟩; have n0_ := Aside0.mk (below_step (by repeat (first | (with_reducible first | exact HB.out | apply below_alloc | apply pw_below_drewN | apply below_drew1) | exact HB.out)) hb); clear HB; have HB := n0_; clear n0_; (try clear hb); (try clear hb2); (try clear hk); (try clear hi)))
      go_meet
      case rel => exact ⟨_, (true), (by first | rfl | (simp; done) | (simp [*]; done)), H', ⟨by first | omega | exact Nat.le_refl _⟩, ⟨by repeat (first | (with_reducible first | exact HB.out | apply below_alloc | apply pw_below_drewN | apply below_drew1) | exact HB.out)⟩⟩
  case rest =>
    clear HC3
    try clear p2
    try clear c5
    try clear c7
    obtain ⟨kq, x19_2, rfl, HA, HJ2, HB⟩ := hcut
    cases kq with
    | zero => exact absurd HA.out (by simp [capnplaw25_UnpackstreamRoundTrip.j0])
    | succ kj2 =>
      have H := HA.out
      clear HA
      simp only [capnplaw25_UnpackstreamRoundTrip.j0] at H
      by_cases c8 : x19_2 = true
      · subst c8
        have H1 : ((capnplaw25_awake.f kj2).bind fun t293 => (some t293)) = some r := by rw [if_pos rfl] at H; exact H
        clear H
        have H := H1
        clear H1
        replace H := Option.bind_eq_some_iff.mp H
        obtain ⟨t293, A90, H⟩ := H
        replace H : (some t293) = some r := H
        have A9 := Aside0.mk A90
        clear A90
        obtain rfl := Option.some.inj H
        go_wp2_with (first | ((with_reducible refine gate_callee (f := 8) rfl ?_); refine goesL_ (some 20) rfl rfl Tryd.func8 (by kernel_rfl) rfl #[] rfl (by (try simp only [List.map_toArray, List.map_cons, List.map_nil]); first | done | rfl | (simp only [List.length_drop, List.length_take]; rfl)) ?_; (with_reducible refine (capnplaw25_awake.calls kj2  t293 _ A9.out (Go.Proofs.YtpffoecblcfndaaDoor.Us.StepsL.below HL.out (by repeat (first | (with_reducible first | exact HB.out | apply below_alloc | apply pw_below_drewN | apply below_drew1) | exact HB.out)))).mono ?_); rintro e w10 ⟨rfl, hb⟩; refine ⟨_, rfl, ?_⟩; have n0_ := Aside0.mk (below_step (by repeat (first | (with_reducible first | exact HB.out | apply below_alloc | apply pw_below_drewN | apply below_drew1) | exact HB.out)) hb); clear HB; have HB := n0_; clear n0_; (try clear hb); (try clear hb2); (try clear hk); (try clear hi)))
        go_ret
        exact ⟨by first | rfl | (simp [errW_none, errW_some] <;> rfl) | (simp [*, errW_none, errW_some] <;> rfl), by repeat (first | (with_reducible first | exact HB.out | apply below_alloc | apply pw_below_drewN | apply below_drew1) | exact HB.out)⟩
      · replace c8 := Bool.eq_false_iff.mpr c8
        subst c8
        have H1 : ((capnpref21_Words.f kj2 l0).bind fun t294 => ((capnpref01_Bytes.f kj2 l0).bind fun t297 => ((unpackstream_New.f).bind fun bt300 => (capnplaw25_UnpackstreamRoundTrip.l0 kj2 a1 t294 t297 ([] : List Int) 0 bt300.1 bt300.2.1 bt300.2.2.1 bt300.2.2.2.1 bt300.2.2.2.2.1 bt300.2.2.2.2.2)))) = some r := by rw [if_neg (show ¬ (false = true) by decide)] at H; exact H
        clear H
        have H := H1
        clear H1
        replace H := Option.bind_eq_some_iff.mp H
        obtain ⟨t294, A110, H⟩ := H
        replace H : ((capnpref01_Bytes.f kj2 l0).bind fun t297 => ((unpackstream_New.f).bind fun bt300 => (capnplaw25_UnpackstreamRoundTrip.l0 kj2 a1 t294 t297 ([] : List Int) 0 bt300.1 bt300.2.1 bt300.2.2.1 bt300.2.2.2.1 bt300.2.2.2.2.1 bt300.2.2.2.2.2))) = some r := H
        have A11 := Aside0.mk A110
        clear A110
        replace H := Option.bind_eq_some_iff.mp H
        obtain ⟨t297, A120, H⟩ := H
        replace H : ((unpackstream_New.f).bind fun bt300 => (capnplaw25_UnpackstreamRoundTrip.l0 kj2 a1 t294 t297 ([] : List Int) 0 bt300.1 bt300.2.1 bt300.2.2.1 bt300.2.2.2.1 bt300.2.2.2.2.1 bt300.2.2.2.2.2)) = some r := H
        have A12 := Aside0.mk A120
        clear A120
        replace H := Option.bind_eq_some_iff.mp H
        obtain ⟨⟨t300, t301, t302, t305, t306, t307⟩, A130, H⟩ := H
        replace H : (capnplaw25_UnpackstreamRoundTrip.l0 kj2 a1 t294 t297 ([] : List Int) 0 t300 t301 t302 t305 t306 t307) = some r := H
        have A13 := Aside0.mk A130
        clear A130
        have H' := Aside0.mk H
        clear H
        go_wp2_with (first | ((with_reducible refine gate_callee (f := 19) rfl ?_); refine goesL_ (some 22) rfl rfl Tryd.func19 (by kernel_rfl) rfl #[.slice A0 l0.length c0] rfl (by (try simp only [List.map_toArray, List.map_cons, List.map_nil]); first | done | rfl | (simp only [List.length_drop, List.length_take]; rfl)) ?_; (with_reducible refine (capnpref21_Words.calls kj2 _ _ l0 t294 _ ?side1 ?side2 A11.out).mono ?_); (case side1 => repeat (first | exact (Kd.C_below HR0.out HB.out) | (with_reducible refine Kd.C_alloc ?_ _) | (with_reducible refine Kd.C_drewN ?_ _) | (with_reducible refine Kd.C_drew ?_))); (case side2 => exact HC0.out); rintro e w14 ⟨v295, rfl, ho0, hb⟩; refine ⟨_, rfl, ?_⟩; have n0_ := Aside0.mk (Kd.R_lower ho0 (below_size (by repeat (first | (with_reducible first | exact HB.out | apply below_alloc | apply pw_below_drewN | apply below_drew1) | exact HB.out)))); have n1_ := Aside0.mk (below_step (by repeat (first | (with_reducible first | exact HB.out | apply below_alloc | apply pw_below_drewN | apply below_drew1) | exact HB.out)) hb); clear HB; have HO296 := n0_; have HB := n1_; clear n0_ n1_; (try clear hb); (try clear hb2); (try clear hk); (try clear hi); (try clear ho0)) | ((with_reducible refine gate_callee (f := 20) rfl ?_); refine goesL_ (some 24) rfl rfl Tryd.func20 (by kernel_rfl) rfl #[.slice A0 l0.length c0] rfl (by (try simp only [List.map_toArray, List.map_cons, List.map_nil]); first | done | rfl | (simp only [List.length_drop, List.length_take]; rfl)) ?_; (with_reducible refine (capnpref01_Bytes.calls kj2 _ _ l0 t297 _ ?side1 ?side2 A12.out).mono ?_); (case side1 => repeat (first | exact (Kd.C_below HR0.out HB.out) | (with_reducible refine Kd.C_alloc ?_ _) | (with_reducible refine Kd.C_drewN ?_ _) | (with_reducible refine Kd.C_drew ?_))); (case side2 => exact HC0.out); rintro e w15 ⟨v298, rfl, ho0, hb⟩; refine ⟨_, rfl, ?_⟩; have n0_ := Aside0.mk (Kd.R_elder' (by (with_reducible repeat (first | apply Kd.R_alloc | apply Kd.R_drewN | apply Kd.R_drew)); exact HO296.out) (Kd.R_base ho0) hb); have n1_ := Aside0.mk (Kd.R_lower (Kd.R_new' ho0 (Kd.R_lt (by (with_reducible repeat (first | apply Kd.R_alloc | apply Kd.R_drewN | apply Kd.R_drew)); exact HO296.out))) (below_size (by repeat (first | (with_reducible first | exact HB.out | apply below_alloc | apply pw_below_drewN | apply below_drew1) | exact HB.out)))); have n2_ := Aside0.mk (below_step (by repeat (first | (with_reducible first | exact HB.out | apply below_alloc | apply pw_below_drewN | apply below_drew1) | exact HB.out)) hb); clear HO296; clear HB; have HO296 := n0_; have HO299 := n1_; have HB := n2_; clear n0_ n1_ n2_; (try clear hb); (try clear hb2); (try clear hk); (try clear hi); (try clear ho0)) | ((with_reducible refine gate_callee (f := 17) rfl ?_); refine goesL_ (some 25) rfl rfl Tryd.func17 (by kernel_rfl) rfl #[] rfl (by (try simp only [List.map_toArray, List.map_cons, List.map_nil]); first | done | rfl | (simp only [List.length_drop, List.length_take]; rfl)) ?_; (with_reducible refine (unpackstream_New.calls  t300 t301 t302 t305 t306 t307 _ A13.out).mono ?_); rintro e w16 ⟨v303, rfl, ho0, hb⟩; refine ⟨_, rfl, ?_⟩; have n0_ := Aside0.mk (Kd.R_elder' (by (with_reducible repeat (first | apply Kd.R_alloc | apply Kd.R_drewN | apply Kd.R_drew)); exact HO296.out) (Kd.R_base ho0) hb); have n1_ := Aside0.mk (Kd.R_elder' (by (with_reducible repeat (first | apply Kd.R_alloc | apply Kd.R_drewN | apply Kd.R_drew)); exact HO299.out) (Kd.R_base ho0) hb); have n2_ := Aside0.mk (Kd.R_lower (Kd.R_new' (Kd.R_new' ho0 (Kd.R_lt (by (with_reducible repeat (first | apply Kd.R_alloc | apply Kd.R_drewN | apply Kd.R_drew)); exact HO296.out))) (Kd.R_lt (by (with_reducible repeat (first | apply Kd.R_alloc | apply Kd.R_drewN | apply Kd.R_drew)); exact HO299.out))) (below_size (by repeat (first | (with_reducible first | exact HB.out | apply below_alloc | apply pw_below_drewN | apply below_drew1) | exact HB.out)))); have n3_ := Aside0.mk (below_step (by repeat (first | (with_reducible first | exact HB.out | apply below_alloc | apply pw_below_drewN | apply below_drew1) | exact HB.out)) hb); clear HO296; clear HO299; clear HB; have HO296 := n0_; have HO299 := n1_; have HO304 := n2_; have HB := n3_; clear n0_ n1_ n2_ n3_; (try clear hb); (try clear hb2); (try clear hk); (try clear hi); (try clear ho0)) | ((with_reducible refine gate_dst (N := 7) rfl ?_); (try (refine gate_guard (by rfl) ?_; dsimp only)); refine box_event ?hg (N := 7) ?hd (cs := #[.int .i64 0, .int .u8 0, .slice none 0 0, .int .i64 0, .int .i64 0, .int .i64 0]) (t := 25) ?hr ?_; (case hd => rfl); (case hg => rfl); (case hr => first | (go_simp; done) | (go_simp; rfl)); intro gb308 hg w17 hbox hb; have n0_ := Aside0.mk (Kd.R_below (by (with_reducible repeat (first | apply Kd.R_alloc | apply Kd.R_drewN | apply Kd.R_drew)); exact HO296.out) hb); have n1_ := Aside0.mk (Kd.R_below (by (with_reducible repeat (first | apply Kd.R_alloc | apply Kd.R_drewN | apply Kd.R_drew)); exact HO299.out) hb); have n2_ := Aside0.mk (Kd.R_below (by (with_reducible repeat (first | apply Kd.R_alloc | apply Kd.R_drewN | apply Kd.R_drew)); exact HO304.out) hb); have n3_ := Aside0.mk (below_step (by repeat (first | (with_reducible first | exact HB.out | apply below_alloc | apply pw_below_drewN | apply below_drew1) | exact HB.out)) hb); have n4_ := Aside0.mk (hbox); have n5_ := Aside0.mk ((by rw [hg]; exact (below_size (by repeat (first | (with_reducible first | exact HB.out | apply below_alloc | apply pw_below_drewN | apply below_drew1) | exact HB.out))) : w.heap.size ≤ gb308)); have n6_ := Aside0.mk ((by rw [hg]; exact (below_size (by repeat (first | (with_reducible first | exact HB.out | apply below_alloc | apply pw_below_drewN | apply below_drew1) | exact HB.out))) : w.heap.size ≤ gb308)); clear HO296; clear HO299; clear HO304; clear HB; have HO296 := n0_; have HO299 := n1_; have HO304 := n2_; have HB := n3_; have BK308 := n4_; have GW308 := n5_; have GE308 := n6_; clear n0_ n1_ n2_ n3_ n4_ n5_ n6_; clear hb hbox hg; have hcz18_0 : w17.cell? ⟨gb308, 0, none⟩ = some (.int .i64 0) := (blk_cell BK308.out 0).trans rfl; have hcz18_1 : w17.cell? ⟨gb308, 1, none⟩ = some (.int .u8 0) := (blk_cell BK308.out 1).trans rfl; have hcz18_2 : w17.cell? ⟨gb308, 2, none⟩ = some (.slice none 0 0) := (blk_cell BK308.out 2).trans rfl; have hcz18_3 : w17.cell? ⟨gb308, 3, none⟩ = some (.int .i64 0) := (blk_cell BK308.out 3).trans rfl; have hcz18_4 : w17.cell? ⟨gb308, 4, none⟩ = some (.int .i64 0) := (blk_cell BK308.out 4).trans rfl; have hcz18_5 : w17.cell? ⟨gb308, 5, none⟩ = some (.int .i64 0) := (blk_cell BK308.out 5).trans rfl; have hfz18_0 := blk_frozen BK308.out 0; have hfz18_1 := blk_frozen BK308.out 1; have hfz18_2 := blk_frozen BK308.out 2; have hfz18_3 := blk_frozen BK308.out 3; have hfz18_4 := blk_frozen BK308.out 4; have hfz18_5 := blk_frozen BK308.out 5; obtain ⟨Ao19, co19, eo19⟩ := Kd.R_slice HO304.out; subst eo19))
        go_loopg [8, 9] kj2 (fun kq v8 v9 w' => ∃ (x8_2 : List Int) (x9_2 : Int) (x309000_2 : Int) (x309001_2 : Int) (x309002_2 : List Int) (x309003_2 : Int) (x309004_2 : Int) (x309005_2 : Int) (u309002 : Value), v9 = .int .i64 x9_2 ∧ Aside0 (capnplaw25_UnpackstreamRoundTrip.l0 kq a1 t294 t297 x8_2 x9_2 x309000_2 x309001_2 x309002_2 x309003_2 x309004_2 x309005_2 = some r) ∧ Aside0 (kq ≤ kj2) ∧ Aside0 (Kd.R (Kd.int .u8) 5 w' w.heap.size (fun k_ => some k_ ≠ (v298 : Value).ownBlock ∧ some k_ ≠ (v8 : Value).ownBlock ∧ some k_ ≠ (u309002 : Value).ownBlock) v295 t294) ∧ Aside0 (Kd.R (Kd.int .u8) 5 w' w.heap.size (fun k_ => some k_ ≠ (v295 : Value).ownBlock ∧ some k_ ≠ (v8 : Value).ownBlock ∧ some k_ ≠ (u309002 : Value).ownBlock) v298 t297) ∧ Aside0 (Kd.R (Kd.int .u8) 5 w' w.heap.size (fun k_ => some k_ ≠ (v295 : Value).ownBlock ∧ some k_ ≠ (v298 : Value).ownBlock ∧ some k_ ≠ (u309002 : Value).ownBlock) v8 x8_2) ∧ Aside0 (Kd.R (Kd.int .u8) 5 w' w.heap.size (fun k_ => some k_ ≠ (v295 : Value).ownBlock ∧ some k_ ≠ (v298 : Value).ownBlock ∧ some k_ ≠ (v8 : Value).ownBlock) u309002 x309002_2) ∧ Aside0 (w'.heap[gb308]? = some (.cells #[.int .i64 x309000_2, .int .u8 x309001_2, u309002, .int .i64 x309003_2, .int .i64 x309004_2, .int .i64 x309005_2] 25 (0, 0))) ∧ Aside0 (Below w.heap.size w w'))
        case atStart => exact ⟨(([] : List Int)), (0), (t300), (t301), (t302), (t305), (t306), (t307), (.slice Ao19 t302.length co19), (by first | rfl | (simp; done) | (simp [*]; done)), H', ⟨Nat.le_refl _⟩, ⟨by (with_reducible repeat (first | apply Kd.R_alloc | apply Kd.R_drewN | apply Kd.R_drew)); exact Kd.R_mono (Kd.R_far (p := ⟨gb308, 5, none⟩) (Kd.R_far (p := ⟨gb308, 4, none⟩) (Kd.R_far (p := ⟨gb308, 3, none⟩) (Kd.R_far (p := ⟨gb308, 2, none⟩) (Kd.R_far (p := ⟨gb308, 1, none⟩) (Kd.R_far (p := ⟨gb308, 0, none⟩) (Kd.R_types HO296.out BK308.out (by decide)) (fun _ hk => hk.2) (.int .i64 t300)) (fun _ hk => hk.2) (.int .u8 t301)) (fun _ hk => hk.2) (.slice Ao19 t302.length co19)) (fun _ hk => hk.2) (.int .i64 t305)) (fun _ hk => hk.2) (.int .i64 t306)) (fun _ hk => hk.2) (.int .i64 t307)) (fun _ hk => ⟨hk.1.1.2, ⟨(by simp [Value.ownBlock]), hk.1.2⟩⟩)⟩, ⟨by (with_reducible repeat (first | apply Kd.R_alloc | apply Kd.R_drewN | apply Kd.R_drew)); exact Kd.R_mono (Kd.R_far (p := ⟨gb308, 5, none⟩) (Kd.R_far (p := ⟨gb308, 4, none⟩) (Kd.R_far (p := ⟨gb308, 3, none⟩) (Kd.R_far (p := ⟨gb308, 2, none⟩) (Kd.R_far (p := ⟨gb308, 1, none⟩) (Kd.R_far (p := ⟨gb308, 0, none⟩) (Kd.R_types HO299.out BK308.out (by decide)) (fun _ hk => hk.2) (.int .i64 t300)) (fun _ hk => hk.2) (.int .u8 t301)) (fun _ hk => hk.2) (.slice Ao19 t302.length co19)) (fun _ hk => hk.2) (.int .i64 t305)) (fun _ hk => hk.2) (.int .i64 t306)) (fun _ hk => hk.2) (.int .i64 t307)) (fun _ hk => ⟨hk.1.1.2, ⟨(by simp [Value.ownBlock]), hk.1.2⟩⟩)⟩, ⟨by first | exact Kd.R_nil _ _ _ _ _ | exact Kd.N_nil _ _ _ _ _ | exact Kd.V_nil _ _ _ _ _ | exact Kd.Q_nil _ _ _ _ _ | exact Kd.S_nil _ _ _ _ _⟩, ⟨by (with_reducible repeat (first | apply Kd.R_alloc | apply Kd.R_drewN | apply Kd.R_drew)); exact Kd.R_mono (Kd.R_far (p := ⟨gb308, 5, none⟩) (Kd.R_far (p := ⟨gb308, 4, none⟩) (Kd.R_far (p := ⟨gb308, 3, none⟩) (Kd.R_far (p := ⟨gb308, 2, none⟩) (Kd.R_far (p := ⟨gb308, 1, none⟩) (Kd.R_far (p := ⟨gb308, 0, none⟩) (Kd.R_types HO304.out BK308.out (by decide)) (fun _ hk => hk.2) (.int .i64 t300)) (fun _ hk => hk.2) (.int .u8 t301)) (fun _ hk => hk.2) (.slice Ao19 t302.length co19)) (fun _ hk => hk.2) (.int .i64 t305)) (fun _ hk => hk.2) (.int .i64 t306)) (fun _ hk => hk.2) (.int .i64 t307)) (fun _ hk => ⟨hk.1.1.2, ⟨hk.1.2, (by simp [Value.ownBlock])⟩⟩)⟩, ⟨by (with_reducible repeat (first | refine blk_drewN ?_ _ | refine blk_drew ?_ | refine blk_alloc ?_ _)); refine blk_put (cs := #[.int .i64 t300, .int .u8 t301, .slice Ao19 t302.length co19, .int .i64 t305, .int .i64 t306, .int .i64 0]) ?_ 5 _ rfl; (with_reducible repeat (first | refine blk_drewN ?_ _ | refine blk_drew ?_ | refine blk_alloc ?_ _)); refine blk_put (cs := #[.int .i64 t300, .int .u8 t301, .slice Ao19 t302.length co19, .int .i64 t305, .int .i64 0, .int .i64 0]) ?_ 4 _ rfl; (with_reducible repeat (first | refine blk_drewN ?_ _ | refine blk_drew ?_ | refine blk_alloc ?_ _)); refine blk_put (cs := #[.int .i64 t300, .int .u8 t301, .slice Ao19 t302.length co19, .int .i64 0, .int .i64 0, .int .i64 0]) ?_ 3 _ rfl; (with_reducible repeat (first | refine blk_drewN ?_ _ | refine blk_drew ?_ | refine blk_alloc ?_ _)); refine blk_put (cs := #[.int .i64 t300, .int .u8 t301, .slice none 0 0, .int .i64 0, .int .i64 0, .int .i64 0]) ?_ 2 _ rfl; (with_reducible repeat (first | refine blk_drewN ?_ _ | refine blk_drew ?_ | refine blk_alloc ?_ _)); refine blk_put (cs := #[.int .i64 t300, .int .u8 0, .slice none 0 0, .int .i64 0, .int .i64 0, .int .i64 0]) ?_ 1 _ rfl; (with_reducible repeat (first | refine blk_drewN ?_ _ | refine blk_drew ?_ | refine blk_alloc ?_ _)); refine blk_put (cs := #[.int .i64 0, .int .u8 0, .slice none 0 0, .int .i64 0, .int .i64 0, .int .i64 0]) ?_ 0 _ rfl; (with_reducible repeat (first | refine blk_drewN ?_ _ | refine blk_drew ?_ | refine blk_alloc ?_ _)); exact BK308.out⟩, ⟨by repeat (first | (with_reducible first | exact HB.out | apply below_alloc | apply pw_below_drewN | apply below_drew1 | refine below_set ?_ GE308.out) | exact HB.out)⟩⟩
        case round =>
          clear H'
          try clear c1
          try clear c2
          try clear p2
          try clear c5
          try clear c7
          try clear c8
          try clear c17
          try clear c19
          try clear hcz18_0
          try clear hcz18_1
          try clear hcz18_2
          try clear hcz18_3
          try clear hcz18_4
          try clear hcz18_5
          try clear hfz18_0
          try clear hfz18_1
          try clear hfz18_2
          try clear hfz18_3
          try clear hfz18_4
          try clear hfz18_5
          try clear p2
          obtain ⟨x8_2, x9_2, x309000_2, x309001_2, x309002_2, x309003_2, x309004_2, x309005_2, u309002, rfl, HA, HK2, HO_5, HO_6, HO_8, HO_309002, BK308, HB⟩ := hrel
          cases gk with
          | zero => exact absurd HA.out (by simp [capnplaw25_UnpackstreamRoundTrip.l0])
          | succ k2 =>
            have H := HA.out
            clear HA
            simp only [capnplaw25_UnpackstreamRoundTrip.l0] at H
            by_cases c20 : x9_2 < (t294.length : Int)
            · rw [if_pos c20] at H
              have c20b0 : decide (x9_2 < (t294.length : Int)) = true := decide_eq_true c20
              clear c20
              by_cases c21 : 0 ≤ x9_2
              · rw [if_pos c21] at H
                have c21b0 := eq_true c21
                have c21b1 : decide (0 ≤ x9_2) = true := decide_eq_true c21
                clear c21
                by_cases c22 : x9_2 ≤ (wrap64 (x9_2 + 1))
                · rw [if_pos c22] at H
                  have c22b0 := eq_true c22
                  have c22b1 : decide (x9_2 ≤ (wrap64 (x9_2 + 1))) = true := decide_eq_true c22
                  by_cases c23 : (wrap64 (x9_2 + 1)) ≤ (t294.length : Int)
                  · rw [if_pos c23] at H
                    have c23b0 := eq_true c23
                    have c23b1 : decide ((wrap64 (x9_2 + 1)) ≤ (t294.length : Int)) = true := decide_eq_true c23
                    obtain ⟨y309, hy309⟩ : ∃ y_ : List Int, y_ = ((t294.take ((wrap64 (x9_2 + 1)) : Int).toNat).drop (x9_2 : Int).toNat) := ⟨_, rfl⟩
                    replace H : ((unpackstream_Write.f x309000_2 x309001_2 x309002_2 x309003_2 x309004_2 x309005_2 y309 a1).bind fun bt313 => (if x8_2.length + bt313.2.2.2.2.2.2.1.length < 140737488355328 then (capnplaw25_UnpackstreamRoundTrip.l0 k2 a1 t294 t297 (x8_2 ++ bt313.2.2.2.2.2.2.1) (wrap64 (x9_2 + 1)) bt313.1 bt313.2.1 bt313.2.2.1 bt313.2.2.2.1 bt313.2.2.2.2.1 bt313.2.2.2.2.2.1) else (none))) = some r := by first | (rw [hy309]; with_reducible exact H) | (have H2_ := (Option.bind_some _ _).symm.trans H; rw [hy309]; with_reducible exact H2_) | (have H2_ := (Option.bind_some _ _).symm.trans H; with_reducible exact H2_) | with_reducible exact H | (rw [hy309]; exact H) | exact H
                    have Ny309 := Aside0.mk hy309
                    clear hy309
                    replace H := Option.bind_eq_some_iff.mp H
                    obtain ⟨⟨t313, t314, t315, t318, t319, t320, t321, t324⟩, A240, H⟩ := H
                    replace H : (if x8_2.length + t321.length < 140737488355328 then (capnplaw25_UnpackstreamRoundTrip.l0 k2 a1 t294 t297 (x8_2 ++ t321) (wrap64 (x9_2 + 1)) t313 t314 t315 t318 t319 t320) else (none)) = some r := H
                    have A24 := Aside0.mk A240
                    clear A240
                    by_cases c25 : x8_2.length + t321.length < 140737488355328
                    · rw [if_pos c25] at H
                      have LMc25 := Aside0.mk c25
                      clear c25
                      obtain ⟨y326, hy326⟩ : ∃ y_ : List Int, y_ = (x8_2 ++ t321) := ⟨_, rfl⟩
                      replace H : (capnplaw25_UnpackstreamRoundTrip.l0 k2 a1 t294 t297 y326 (wrap64 (x9_2 + 1)) t313 t314 t315 t318 t319 t320) = some r := by first | (rw [hy326]; with_reducible exact H) | (have H2_ := (Option.bind_some _ _).symm.trans H; rw [hy326]; with_reducible exact H2_) | (have H2_ := (Option.bind_some _ _).symm.trans H; with_reducible exact H2_) | with_reducible exact H | (rw [hy326]; exact H) | exact H
                      have Ny326 := Aside0.mk hy326
                      clear hy326
                      have H' := Aside0.mk H
                      clear H
                      obtain ⟨Ao26, co26, eo26⟩ := Kd.R_slice HO_5.out
                      subst eo26
                      obtain ⟨Ao27, co27, eo27⟩ := Kd.R_slice HO_309002.out
                      subst eo27
                      try go_wp2
                      have n0_ := Aside0.mk (Kd.R_drew HO_5.out)
                      have n1_ := Aside0.mk (Kd.R_drew HO_6.out)
                      have n2_ := Aside0.mk (Kd.R_drew HO_8.out)
                      have n3_ := Aside0.mk (Kd.R_drew HO_309002.out)
                      have n4_ := Aside0.mk (blk_drew BK308.out)
                      have n5_ := Aside0.mk (below_drew1 HB.out)
                      clear HO_5
                      clear HO_6
                      clear HO_8
                      clear HO_309002
                      clear BK308
                      clear HB
                      have HO_5 := n0_
                      have HO_6 := n1_
                      have HO_8 := n2_
                      have HO_309002 := n3_
                      have BK308 := n4_
                      have HB := n5_
                      clear n0_ n1_ n2_ n3_ n4_ n5_
                      have q29 : ((wrap64 (x9_2 + 1)) : Int) ≤ ((t294.length : Int) : Int) := of_decide_eq_true (by first | (with_reducible assumption) | assumption)
                      obtain ⟨i029, hi029, _, hsz29, _⟩ := info_parts info5
                      have hroom29 : t294.length ≤ co26 := (Kd.R_reads' HO_5.out).2.1
                      have hC29 : Kd.C (Kd.int .u8) _ Ao26 t294.length t294 := (Kd.R_reads' HO_5.out).2.2
                      have ql29 : (x9_2 : Int) ≤ ((wrap64 (x9_2 + 1)) : Int) := of_decide_eq_true (by first | (with_reducible assumption) | assumption)
                      have q029 : (0 : Int) ≤ (x9_2 : Int) := of_decide_eq_true (by first | (with_reducible assumption) | assumption)
                      have hcut29 := cut_mid (P := Tryd.prog) 22 5 .i64 .i64 Tryd.underlying22 hi029 1 hsz29 Ao26 t294.length co26 x9_2 (wrap64 (x9_2 + 1)) q029 ql29 q29 hroom29
                      have hr29 := Kd.C_mid (lo := (x9_2 : Int).toNat) (hi := ((wrap64 (x9_2 + 1)) : Int).toNat) (c := co26) hC29 (by omega) (by omega) hroom29
                      obtain ⟨A29, hA29⟩ : ∃ A1, A1 = (if co26 = (x9_2 : Int).toNat then Ao26 else (Ao26 : Option Addr).map (·.add ((x9_2 : Int).toNat * 1))) := ⟨_, rfl⟩
                      obtain ⟨c29, hc29⟩ : ∃ c1, c1 = co26 - (x9_2 : Int).toNat := ⟨_, rfl⟩
                      have hy29 : y309.length = ((wrap64 (x9_2 + 1)) : Int).toNat - (x9_2 : Int).toNat := (by rw [Ny309.out, List.length_drop, List.length_take] <;> omega)
                      rw [show ((t294).take ((wrap64 (x9_2 + 1)) : Int).toNat).drop (x9_2 : Int).toNat = y309 from Ny309.out.symm] at hr29
                      replace hr29 : Kd.C (Kd.int .u8) _ A29 y309.length y309 := (by rw [hA29]; exact hr29)
                      rw [← hy29, ← hA29, ← hc29] at hcut29
                      have HR312 := Aside0.mk hr29
                      have HC312 := Aside0.mk (show y309.length ≤ c29 from by rw [hy29, hc29]; exact Nat.sub_le_sub_right (Nat.le_trans (by omega) hroom29) _)
                      clear hr29 hC29 hroom29 hi029 hsz29 hc29
                      have KY29 := Aside0.mk hy29
                      have KA29 := Aside0.mk hA29
                      clear hy29 hA29
                      have KL29 := Aside0.mk (show ((wrap64 (x9_2 + 1)) : Int).toNat ≤ t294.length from by omega)
                      have KM29 := Aside0.mk (show (x9_2 : Int).toNat ≤ ((wrap64 (x9_2 + 1)) : Int).toNat from by omega)
                      replace q29 := eq_true q29
                      refine start_ (n := 16) (S := fun w' => w'.cell? ⟨gb308, 0, none⟩ = some (.int .i64 x309000_2) ∧ w'.cell? ⟨gb308, 1, none⟩ = some (.int .u8 x309001_2) ∧ w'.cell? ⟨gb308, 2, none⟩ = some (.slice Ao27 x309002_2.length co27) ∧ w'.cell? ⟨gb308, 3, none⟩ = some (.int .i64 x309003_2) ∧ w'.cell? ⟨gb308, 4, none⟩ = some (.int .i64 x309004_2) ∧ w'.cell? ⟨gb308, 5, none⟩ = some (.int .i64 x309005_2)) (ds := []) #[false, false, false, false, false, false, false, false, false, false, false, false, false, false, false, false] (by kernel_rfl) rfl rfl ⟨(blk_cell BK308.out 0).trans rfl, (blk_cell BK308.out 1).trans rfl, (blk_cell BK308.out 2).trans rfl, (blk_cell BK308.out 3).trans rfl, (blk_cell BK308.out 4).trans rfl, (blk_cell BK308.out 5).trans rfl⟩ (fun hHeld => ?_); refine with_tabW capnplaw25_UnpackstreamRoundTrip.tab10 capnplaw25_UnpackstreamRoundTrip.bits10 (fun HT_ HW_ => ?_)
                      generalize wr.drew = w28 at HO_5 HO_6 HO_8 HO_309002 BK308 HB HR312 hHeld ⊢
                      refine pure_ (i := 1) (N := some 34) (v := ?_) (a' := ?_) #[false, true, false, false, false, false, false, false, false, false, false, false, false, false, false, false] rfl rfl (any_of HT_.out (by kernel_rfl)) (fun _ _ _ h => h) (Or.inl ⟨by rfl, ?_⟩) ?_ ?_
                      rotate_left
                      · intro w'
                        go_simp
                        with_reducible rfl
                      rotate_left
                      · simp only [Act.put, List.setIfInBounds_toArray, List.set_cons_zero, List.set_cons_succ, i64_w, i32_w]
                        rfl
                      refine pure_ (i := 2) (N := some 35) (v := ?_) (a' := ?_) #[false, true, true, false, false, false, false, false, false, false, false, false, false, false, false, false] rfl rfl (any_of HT_.out (by kernel_rfl)) (fun _ _ _ h => h) (Or.inl ⟨by rfl, ?_⟩) ?_ ?_
                      rotate_left
                      · intro w'
                        go_simp
                        with_reducible rfl
                      rotate_left
                      · simp only [Act.put, List.setIfInBounds_toArray, List.set_cons_zero, List.set_cons_succ, i64_w, i32_w]
                        rfl
                      refine pure_ (i := 3) (N := some 36) (v := ?_) (a' := ?_) #[false, true, true, true, false, false, false, false, false, false, false, false, false, false, false, false] rfl rfl (any_of HT_.out (by kernel_rfl)) (fun _ _ _ h => h) (Or.inl ⟨by rfl, ?_⟩) ?_ ?_
                      rotate_left
                      · intro w'
                        go_simp
                        with_reducible rfl
                      rotate_left
                      · simp only [Act.put, List.setIfInBounds_toArray, List.set_cons_zero, List.set_cons_succ, i64_w, i32_w]
                        rfl
                      refine pure_ (i := 4) (N := some 37) (v := ?_) (a' := ?_) #[false, true, true, true, true, false, false, false, false, false, false, false, false, false, false, false] rfl rfl (any_of HT_.out (by kernel_rfl)) (fun _ _ _ h => h) (Or.inl ⟨by rfl, ?_⟩) ?_ ?_
                      rotate_left
                      · intro w'
                        go_simp
                        with_reducible rfl
                      rotate_left
                      · simp only [Act.put, List.setIfInBounds_toArray, List.set_cons_zero, List.set_cons_succ, i64_w, i32_w]
                        rfl
                      refine pure_ (i := 5) (N := some 38) (v := ?_) (a' := ?_) #[false, true, true, true, true, true, false, false, false, false, false, false, false, false, false, false] rfl rfl (any_of HT_.out (by kernel_rfl)) (fun _ _ _ h => h) (Or.inl ⟨by rfl, ?_⟩) ?_ ?_
                      rotate_left
                      · intro w'
                        go_simp
                        with_reducible rfl
                      rotate_left
                      · simp only [Act.put, List.setIfInBounds_toArray, List.set_cons_zero, List.set_cons_succ, i64_w, i32_w]
                        rfl
                      refine pure_ (i := 6) (N := some 39) (v := ?_) (a' := ?_) #[false, true, true, true, true, true, true, false, false, false, false, false, false, false, false, false] rfl rfl (any_of HT_.out (by kernel_rfl)) (fun _ _ _ h => h) (Or.inl ⟨by rfl, ?_⟩) ?_ ?_
                      rotate_left
                      · intro w'
                        go_simp
                        with_reducible rfl
                      rotate_left
                      · simp only [Act.put, List.setIfInBounds_toArray, List.set_cons_zero, List.set_cons_succ, i64_w, i32_w]
                        rfl
                      refine take_ (i := 0) (N := some 33) (v := ?_) (a' := ?_) #[true, true, true, true, true, true, true, false, false, false, false, false, false, false, false, false] rfl rfl (take_ofW HT_.out HW_.out (by kernel_rfl)) (fun _ _ _ h => h) (Or.inl ⟨by rfl, ?_⟩) hHeld ?_ ?_
                      rotate_left
                      · rintro w' ⟨s0, s1, s2, s3, s4, s5⟩
                        go_simp
                        with_reducible rfl
                      rotate_left
                      · simp only [Act.put, List.setIfInBounds_toArray, List.set_cons_zero, List.set_cons_succ, i64_w, i32_w]
                        rfl
                      refine join_ (σ := Value × Value × Nat) 3 #[true, true, true, true, true, true, true, true, true, true, true, true, true, false, false, false] (fun s_ => [(40, .tuple #[.agg #[.int .i64 t313, .int .u8 t314, s_.1, .int .i64 t318, .int .i64 t319, .int .i64 t320], s_.2.1, .int .i64 t324]), (10, .pointer (some ⟨s_.2.2, 0, none⟩)), (32, .tuple #[.agg #[.int .i64 t313, .int .u8 t314, s_.1, .int .i64 t318, .int .i64 t319, .int .i64 t320], s_.2.1, .int .i64 t324]), (41, .agg #[.int .i64 t313, .int .u8 t314, s_.1, .int .i64 t318, .int .i64 t319, .int .i64 t320]), (42, s_.2.1), (43, .int .i64 t324)]) (fun s_ w' => (w'.cell? ⟨gb308, 0, none⟩ = some (.int .i64 x309000_2) ∧ w'.cell? ⟨gb308, 1, none⟩ = some (.int .u8 x309001_2) ∧ w'.cell? ⟨gb308, 2, none⟩ = some (.slice Ao27 x309002_2.length co27) ∧ w'.cell? ⟨gb308, 3, none⟩ = some (.int .i64 x309003_2) ∧ w'.cell? ⟨gb308, 4, none⟩ = some (.int .i64 x309004_2) ∧ w'.cell? ⟨gb308, 5, none⟩ = some (.int .i64 x309005_2)) ∧ (Kd.R (Kd.int .u8) 5 w' w.heap.size (fun k_ => some k_ ≠ (s_.2.1 : Value).ownBlock ∧ some k_ ≠ (.slice Ao27 x309002_2.length co27 : Value).ownBlock ∧ some k_ ≠ (.slice Ao26 t294.length co26 : Value).ownBlock ∧ some k_ ≠ (v298 : Value).ownBlock ∧ some k_ ≠ (u8 : Value).ownBlock) s_.1 t315) ∧ (Kd.R (Kd.int .u8) 5 w' w.heap.size (fun k_ => some k_ ≠ (s_.1 : Value).ownBlock ∧ some k_ ≠ (.slice Ao27 x309002_2.length co27 : Value).ownBlock ∧ some k_ ≠ (.slice Ao26 t294.length co26 : Value).ownBlock ∧ some k_ ≠ (v298 : Value).ownBlock ∧ some k_ ≠ (u8 : Value).ownBlock) s_.2.1 t321) ∧ (Kd.R (Kd.int .u8) 5 w' w.heap.size (fun k_ => some k_ ≠ (s_.1 : Value).ownBlock ∧ some k_ ≠ (s_.2.1 : Value).ownBlock ∧ some k_ ≠ (.slice Ao26 t294.length co26 : Value).ownBlock ∧ some k_ ≠ (v298 : Value).ownBlock ∧ some k_ ≠ (u8 : Value).ownBlock) (.slice Ao27 x309002_2.length co27) x309002_2) ∧ (Kd.R (Kd.int .u8) 5 w' w.heap.size (fun k_ => some k_ ≠ (s_.1 : Value).ownBlock ∧ some k_ ≠ (s_.2.1 : Value).ownBlock ∧ some k_ ≠ (.slice Ao27 x309002_2.length co27 : Value).ownBlock ∧ some k_ ≠ (v298 : Value).ownBlock ∧ some k_ ≠ (u8 : Value).ownBlock) (.slice Ao26 t294.length co26) t294) ∧ (Kd.R (Kd.int .u8) 5 w' w.heap.size (fun k_ => some k_ ≠ (s_.1 : Value).ownBlock ∧ some k_ ≠ (s_.2.1 : Value).ownBlock ∧ some k_ ≠ (.slice Ao27 x309002_2.length co27 : Value).ownBlock ∧ some k_ ≠ (.slice Ao26 t294.length co26 : Value).ownBlock ∧ some k_ ≠ (u8 : Value).ownBlock) v298 t297) ∧ (Kd.R (Kd.int .u8) 5 w' w.heap.size (fun k_ => some k_ ≠ (s_.1 : Value).ownBlock ∧ some k_ ≠ (s_.2.1 : Value).ownBlock ∧ some k_ ≠ (.slice Ao27 x309002_2.length co27 : Value).ownBlock ∧ some k_ ≠ (.slice Ao26 t294.length co26 : Value).ownBlock ∧ some k_ ≠ (v298 : Value).ownBlock) u8 x8_2) ∧ (w'.heap[gb308]? = some (.cells #[.int .i64 x309000_2, .int .u8 x309001_2, .slice Ao27 x309002_2.length co27, .int .i64 x309003_2, .int .i64 x309004_2, .int .i64 x309005_2] 25 (0, 0))) ∧ (w'.heap[s_.2.2]? = some (.cells #[.int .i64 0, .int .u8 0, .slice none 0 0, .int .i64 0, .int .i64 0, .int .i64 0] 25 (0, 0))) ∧ (w.heap.size ≤ s_.2.2) ∧ (w.heap.size ≤ s_.2.2) ∧ (gb308 ≠ s_.2.2) ∧ (s_.2.2 ≠ gb308) ∧ (Below w.heap.size w w')) ?_ ?_
                      rotate_left
                      · intro hCont
                        refine two_ (i := 7) (j := 12) (Ni := some 40) (Nj := some 10) #[true, true, true, true, true, true, true, true, false, false, false, false, false, false, false, false] #[true, true, true, true, true, true, true, false, false, false, false, false, true, false, false, false] rfl rfl rfl rfl (two_of HT_.out (by kernel_rfl)) (by decide) (by decide) (fun K hK => ?_) (fun K hK => ?_)
                        · skip
                          refine goes_ Tryd.func9 (by kernel_rfl) rfl #[.agg #[.int .i64 x309000_2, .int .u8 x309001_2, .slice Ao27 x309002_2.length co27, .int .i64 x309003_2, .int .i64 x309004_2, .int .i64 x309005_2], .slice A29 y309.length c29, .int .i64 a1] (by rfl) rfl rfl (by (try simp only [List.map_toArray, List.map_cons, List.map_nil]); first | done | rfl | (simp only [List.length_drop, List.length_take]; rfl)) ?_
                          with_reducible refine (unpackstream_Write.calls x309000_2 x309001_2 _ _ x309002_2 x309003_2 x309004_2 x309005_2 _ _ y309 a1 t313 t314 t315 t318 t319 t320 t321 t324 _ ?side1 ?side2 ?side3 ?side4 A24.out (Go.Proofs.YtpffoecblcfndaaDoor.Us.StepsL.below HL.out (by repeat (first | (with_reducible first | exact HB.out | apply below_alloc | apply pw_below_drewN | apply below_drew1) | exact HB.out)))).mono ?_
                          (case side1 => repeat (first | exact (Kd.R_reads' HO_309002.out).2.2 | (with_reducible refine Kd.C_alloc ?_ _) | (with_reducible refine Kd.C_drewN ?_ _) | (with_reducible refine Kd.C_drew ?_)))
                          (case side2 => exact (Kd.R_reads' HO_309002.out).2.1)
                          (case side3 => repeat (first | exact (by repeat (first | (with_reducible exact HR312.out) | (with_reducible refine Kd.C_alloc ?_ _) | (with_reducible refine Kd.C_drewN ?_ _) | (with_reducible refine Kd.C_drew ?_) | exact HR312.out)) | (with_reducible refine Kd.C_alloc ?_ _) | (with_reducible refine Kd.C_drewN ?_ _) | (with_reducible refine Kd.C_drew ?_)))
                          (case side4 => exact HC312.out)
                          rintro e w30 ⟨v316, v322, rfl, ho0, ho1, hb⟩
                          refine ⟨_, rfl, ?_⟩
                          have n0_ := Aside0.mk (Kd.R_mono (Kd.R_told (Kd.R_told (Kd.R_old (by (with_reducible repeat (first | apply Kd.R_alloc | apply Kd.R_drewN | apply Kd.R_drew)); exact HO_5.out) hb) (Kd.R_base ho0)) (Kd.R_base ho1)) (fun _ h_ => h_.1))
                          have n1_ := Aside0.mk (Kd.R_mono (Kd.R_told (Kd.R_told (Kd.R_old (by (with_reducible repeat (first | apply Kd.R_alloc | apply Kd.R_drewN | apply Kd.R_drew)); exact HO_6.out) hb) (Kd.R_base ho0)) (Kd.R_base ho1)) (fun _ h_ => h_.1))
                          have n2_ := Aside0.mk (Kd.R_mono (Kd.R_told (Kd.R_told (Kd.R_old (by (with_reducible repeat (first | apply Kd.R_alloc | apply Kd.R_drewN | apply Kd.R_drew)); exact HO_8.out) hb) (Kd.R_base ho0)) (Kd.R_base ho1)) (fun _ h_ => h_.1))
                          have n3_ := Aside0.mk (Kd.R_mono (Kd.R_told (Kd.R_told (Kd.R_old (by (with_reducible repeat (first | apply Kd.R_alloc | apply Kd.R_drewN | apply Kd.R_drew)); exact HO_309002.out) hb) (Kd.R_base ho0)) (Kd.R_base ho1)) (fun _ h_ => h_.1))
                          have n4_ := Aside0.mk (Kd.R_lower (Kd.R_new' (Kd.R_new' (Kd.R_new' (Kd.R_new' ho0 (Kd.R_lt (by (with_reducible repeat (first | apply Kd.R_alloc | apply Kd.R_drewN | apply Kd.R_drew)); exact HO_5.out))) (Kd.R_lt (by (with_reducible repeat (first | apply Kd.R_alloc | apply Kd.R_drewN | apply Kd.R_drew)); exact HO_6.out))) (Kd.R_lt (by (with_reducible repeat (first | apply Kd.R_alloc | apply Kd.R_drewN | apply Kd.R_drew)); exact HO_8.out))) (Kd.R_lt (by (with_reducible repeat (first | apply Kd.R_alloc | apply Kd.R_drewN | apply Kd.R_drew)); exact HO_309002.out))) (below_size (by repeat (first | (with_reducible first | exact HB.out | apply below_alloc | apply pw_below_drewN | apply below_drew1 | refine below_set ?_ GE308.out) | exact HB.out))))
                          have n5_ := Aside0.mk (Kd.R_lower (Kd.R_new' (Kd.R_new' (Kd.R_new' (Kd.R_new' ho1 (Kd.R_lt (by (with_reducible repeat (first | apply Kd.R_alloc | apply Kd.R_drewN | apply Kd.R_drew)); exact HO_5.out))) (Kd.R_lt (by (with_reducible repeat (first | apply Kd.R_alloc | apply Kd.R_drewN | apply Kd.R_drew)); exact HO_6.out))) (Kd.R_lt (by (with_reducible repeat (first | apply Kd.R_alloc | apply Kd.R_drewN | apply Kd.R_drew)); exact HO_8.out))) (Kd.R_lt (by (with_reducible repeat (first | apply Kd.R_alloc | apply Kd.R_drewN | apply Kd.R_drew)); exact HO_309002.out))) (below_size (by repeat (first | (with_reducible first | exact HB.out | apply below_alloc | apply pw_below_drewN | apply below_drew1 | refine below_set ?_ GE308.out) | exact HB.out))))
                          have n6_ := Aside0.mk (blk_below (g := gb308) (o := .cells #[.int .i64 x309000_2, .int .u8 x309001_2, .slice Ao27 x309002_2.length co27, .int .i64 x309003_2, .int .i64 x309004_2, .int .i64 x309005_2] 25 (0, 0)) (by (with_reducible repeat (first | refine blk_drewN ?_ _ | refine blk_drew ?_ | refine blk_alloc ?_ _)); exact BK308.out) hb)
                          have n7_ := Aside0.mk (Kd.C_below (by repeat (first | (with_reducible exact HR312.out) | (with_reducible refine Kd.C_alloc ?_ _) | (with_reducible refine Kd.C_drewN ?_ _) | (with_reducible refine Kd.C_drew ?_) | exact HR312.out)) hb)
                          have n8_ := Aside0.mk (below_step (by repeat (first | (with_reducible first | exact HB.out | apply below_alloc | apply pw_below_drewN | apply below_drew1 | refine below_set ?_ GE308.out) | exact HB.out)) hb)
                          clear HO_5
                          clear HO_6
                          clear HO_8
                          clear HO_309002
                          clear BK308
                          clear HR312
                          clear HB
                          have HO_5 := n0_
                          have HO_6 := n1_
                          have HO_8 := n2_
                          have HO_309002 := n3_
                          have HO317 := n4_
                          have HO323 := n5_
                          have BK308 := n6_
                          have HR312 := n7_
                          have HB := n8_
                          clear n0_ n1_ n2_ n3_ n4_ n5_ n6_ n7_ n8_
                          (try clear hb)
                          (try clear hb2)
                          (try clear hk)
                          (try clear hi)
                          (try clear ho0)
                          (try clear ho1)
                          refine hK.out _ _ ⟨(blk_cell BK308.out 0).trans rfl, (blk_cell BK308.out 1).trans rfl, (blk_cell BK308.out 2).trans rfl, (blk_cell BK308.out 3).trans rfl, (blk_cell BK308.out 4).trans rfl, (blk_cell BK308.out 5).trans rfl⟩ (fun hHeld => ?_)
                          clear hK K
                          refine norm_ (a' := ?_) ?_ ?_
                          rotate_left
                          · show Act.put _ (some 40) _ = _
                            simp only [Act.put, List.setIfInBounds_toArray, List.set_cons_zero, List.set_cons_succ, i64_w, i32_w]
                            rfl
                          refine pure_ (i := 8) (N := some 32) (v := ?_) (a' := ?_) #[true, true, true, true, true, true, true, true, true, false, false, false, false, false, false, false] rfl rfl (any_of HT_.out (by kernel_rfl)) (fun _ _ _ h => h) (Or.inl ⟨by rfl, ?_⟩) ?_ ?_
                          rotate_left
                          · intro w'
                            go_simp
                            with_reducible rfl
                          rotate_left
                          · simp only [Act.put, List.setIfInBounds_toArray, List.set_cons_zero, List.set_cons_succ, i64_w, i32_w]
                            rfl
                          refine pure_ (i := 9) (N := some 41) (v := ?_) (a' := ?_) #[true, true, true, true, true, true, true, true, true, true, false, false, false, false, false, false] rfl rfl (any_of HT_.out (by kernel_rfl)) (fun _ _ _ h => h) (Or.inl ⟨by rfl, ?_⟩) ?_ ?_
                          rotate_left
                          · intro w'
                            go_simp
                            with_reducible rfl
                          rotate_left
                          · simp only [Act.put, List.setIfInBounds_toArray, List.set_cons_zero, List.set_cons_succ, i64_w, i32_w]
                            rfl
                          refine pure_ (i := 10) (N := some 42) (v := ?_) (a' := ?_) #[true, true, true, true, true, true, true, true, true, true, true, false, false, false, false, false] rfl rfl (any_of HT_.out (by kernel_rfl)) (fun _ _ _ h => h) (Or.inl ⟨by rfl, ?_⟩) ?_ ?_
                          rotate_left
                          · intro w'
                            go_simp
                            with_reducible rfl
                          rotate_left
                          · simp only [Act.put, List.setIfInBounds_toArray, List.set_cons_zero, List.set_cons_succ, i64_w, i32_w]
                            rfl
                          refine pure_ (i := 11) (N := some 43) (v := ?_) (a' := ?_) #[true, true, true, true, true, true, true, true, true, true, true, true, false, false, false, false] rfl rfl (any_of HT_.out (by kernel_rfl)) (fun _ _ _ h => h) (Or.inl ⟨by rfl, ?_⟩) ?_ ?_
                          rotate_left
                          · intro w'
                            go_simp
                            with_reducible rfl
                          rotate_left
                          · simp only [Act.put, List.setIfInBounds_toArray, List.set_cons_zero, List.set_cons_succ, i64_w, i32_w]
                            rfl
                          refine one_ (i := 12) (N := some 10) #[true, true, true, true, true, true, true, true, true, true, true, true, true, false, false, false] rfl rfl (one_of HT_.out (by kernel_rfl)) (by decide) (fun K hK => ?_)
                          refine box_step ?hg (N := 10) ?hd (cs := #[.int .i64 0, .int .u8 0, .slice none 0 0, .int .i64 0, .int .i64 0, .int .i64 0]) (t := 25) ?hr ?_; (case hd => rfl); (case hg => rfl); (case hr => first | (go_simp; done) | (go_simp; rfl))
                          intro gb325 hg w31 hbox hb
                          have n0_ := Aside0.mk (Kd.R_below (by (with_reducible repeat (first | apply Kd.R_alloc | apply Kd.R_drewN | apply Kd.R_drew)); exact HO_5.out) hb)
                          have n1_ := Aside0.mk (Kd.R_below (by (with_reducible repeat (first | apply Kd.R_alloc | apply Kd.R_drewN | apply Kd.R_drew)); exact HO_6.out) hb)
                          have n2_ := Aside0.mk (Kd.R_below (by (with_reducible repeat (first | apply Kd.R_alloc | apply Kd.R_drewN | apply Kd.R_drew)); exact HO_8.out) hb)
                          have n3_ := Aside0.mk (Kd.R_below (by (with_reducible repeat (first | apply Kd.R_alloc | apply Kd.R_drewN | apply Kd.R_drew)); exact HO_309002.out) hb)
                          have n4_ := Aside0.mk (Kd.R_below (by (with_reducible repeat (first | apply Kd.R_alloc | apply Kd.R_drewN | apply Kd.R_drew)); exact HO317.out) hb)
                          have n5_ := Aside0.mk (Kd.R_below (by (with_reducible repeat (first | apply Kd.R_alloc | apply Kd.R_drewN | apply Kd.R_drew)); exact HO323.out) hb)
                          have n6_ := Aside0.mk (blk_below (g := gb308) (o := .cells #[.int .i64 x309000_2, .int .u8 x309001_2, .slice Ao27 x309002_2.length co27, .int .i64 x309003_2, .int .i64 x309004_2, .int .i64 x309005_2] 25 (0, 0)) (by (with_reducible repeat (first | refine blk_drewN ?_ _ | refine blk_drew ?_ | refine blk_alloc ?_ _)); exact BK308.out) hb)
                          have n7_ := Aside0.mk (Kd.C_below (by repeat (first | (with_reducible exact HR312.out) | (with_reducible refine Kd.C_alloc ?_ _) | (with_reducible refine Kd.C_drewN ?_ _) | (with_reducible refine Kd.C_drew ?_) | exact HR312.out)) hb)
                          have n8_ := Aside0.mk (below_step (by repeat (first | (with_reducible first | exact HB.out | apply below_alloc | apply pw_below_drewN | apply below_drew1 | refine below_set ?_ GE308.out) | exact HB.out)) hb)
                          have n9_ := Aside0.mk (hbox)
                          have n10_ := Aside0.mk ((by rw [hg]; exact (below_size (by repeat (first | (with_reducible first | exact HB.out | apply below_alloc | apply pw_below_drewN | apply below_drew1 | refine below_set ?_ GE308.out) | exact HB.out))) : w.heap.size ≤ gb325))
                          have n11_ := Aside0.mk ((by rw [hg]; exact (below_size (by repeat (first | (with_reducible first | exact HB.out | apply below_alloc | apply pw_below_drewN | apply below_drew1 | refine below_set ?_ GE308.out) | exact HB.out))) : w.heap.size ≤ gb325))
                          have n12_ := Aside0.mk ((by rw [hg]; exact Nat.ne_of_lt (blk_lt (g := gb308) (o := .cells #[.int .i64 x309000_2, .int .u8 x309001_2, .slice Ao27 x309002_2.length co27, .int .i64 x309003_2, .int .i64 x309004_2, .int .i64 x309005_2] 25 (0, 0)) (by (with_reducible repeat (first | refine blk_drewN ?_ _ | refine blk_drew ?_ | refine blk_alloc ?_ _)); exact BK308.out)) : gb308 ≠ gb325))
                          have n13_ := Aside0.mk ((by rw [hg]; exact Nat.ne_of_gt (blk_lt (g := gb308) (o := .cells #[.int .i64 x309000_2, .int .u8 x309001_2, .slice Ao27 x309002_2.length co27, .int .i64 x309003_2, .int .i64 x309004_2, .int .i64 x309005_2] 25 (0, 0)) (by (with_reducible repeat (first | refine blk_drewN ?_ _ | refine blk_drew ?_ | refine blk_alloc ?_ _)); exact BK308.out)) : gb325 ≠ gb308))
                          clear HO_5
                          clear HO_6
                          clear HO_8
                          clear HO_309002
                          clear HO317
                          clear HO323
                          clear BK308
                          clear HR312
                          clear HB
                          have HO_5 := n0_
                          have HO_6 := n1_
                          have HO_8 := n2_
                          have HO_309002 := n3_
                          have HO317 := n4_
                          have HO323 := n5_
                          have BK308 := n6_
                          have HR312 := n7_
                          have HB := n8_
                          have BK325 := n9_
                          have GW325 := n10_
                          have GE325 := n11_
                          have NB308_325 := n12_
                          have NB325_308 := n13_
                          clear n0_ n1_ n2_ n3_ n4_ n5_ n6_ n7_ n8_ n9_ n10_ n11_ n12_ n13_
                          clear hb hbox hg
                          refine hK.out _ _ ⟨(blk_cell BK308.out 0).trans rfl, (blk_cell BK308.out 1).trans rfl, (blk_cell BK308.out 2).trans rfl, (blk_cell BK308.out 3).trans rfl, (blk_cell BK308.out 4).trans rfl, (blk_cell BK308.out 5).trans rfl⟩ (fun hHeld => ?_)
                          clear hK K
                          refine norm_ (a' := ?_) ?_ ?_
                          rotate_left
                          · show Act.put _ (some 10) _ = _
                            simp only [Act.put, List.setIfInBounds_toArray, List.set_cons_zero, List.set_cons_succ, i64_w, i32_w]
                            rfl
                          exact norm_ (by simp only [putAll, Act.put, List.setIfInBounds_toArray, List.set_cons_zero, List.set_cons_succ]) (hCont (v316, v322, gb325) _ ⟨hHeld, (by (with_reducible repeat (first | apply Kd.R_alloc | apply Kd.R_drewN | apply Kd.R_drew)); exact Kd.R_mono HO317.out (fun _ hk => ⟨hk.1.1.1.1, ⟨hk.2, ⟨hk.1.1.1.2, ⟨hk.1.1.2, hk.1.2⟩⟩⟩⟩)), (by (with_reducible repeat (first | apply Kd.R_alloc | apply Kd.R_drewN | apply Kd.R_drew)); exact Kd.R_mono HO323.out (fun _ hk => ⟨hk.1.1.1.1, ⟨hk.2, ⟨hk.1.1.1.2, ⟨hk.1.1.2, hk.1.2⟩⟩⟩⟩)), (by (with_reducible repeat (first | apply Kd.R_alloc | apply Kd.R_drewN | apply Kd.R_drew)); exact Kd.R_mono HO_309002.out (fun _ hk => ⟨hk.1.2, ⟨hk.2, ⟨hk.1.1.1, ⟨hk.1.1.2.1, hk.1.1.2.2⟩⟩⟩⟩)), (by (with_reducible repeat (first | apply Kd.R_alloc | apply Kd.R_drewN | apply Kd.R_drew)); exact Kd.R_mono HO_5.out (fun _ hk => ⟨hk.1.2, ⟨hk.2, ⟨hk.1.1.2.2, ⟨hk.1.1.1, hk.1.1.2.1⟩⟩⟩⟩)), (by (with_reducible repeat (first | apply Kd.R_alloc | apply Kd.R_drewN | apply Kd.R_drew)); exact Kd.R_mono HO_6.out (fun _ hk => ⟨hk.1.2, ⟨hk.2, ⟨hk.1.1.2.2, ⟨hk.1.1.1, hk.1.1.2.1⟩⟩⟩⟩)), (by (with_reducible repeat (first | apply Kd.R_alloc | apply Kd.R_drewN | apply Kd.R_drew)); exact Kd.R_mono HO_8.out (fun _ hk => ⟨hk.1.2, ⟨hk.2, ⟨hk.1.1.2.2, ⟨hk.1.1.1, hk.1.1.2.1⟩⟩⟩⟩)), (by (with_reducible repeat (first | refine blk_drewN ?_ _ | refine blk_drew ?_ | refine blk_alloc ?_ _)); exact BK308.out), (by (with_reducible repeat (first | refine blk_drewN ?_ _ | refine blk_drew ?_ | refine blk_alloc ?_ _)); exact BK325.out), GW325.out, GE325.out, NB308_325.out, NB325_308.out, (by repeat (first | (with_reducible first | exact HB.out | apply below_alloc | apply pw_below_drewN | apply below_drew1 | refine below_set ?_ GE308.out | refine below_set ?_ GE325.out) | exact HB.out))⟩)
                        · skip
                          refine box_step ?hg (N := 10) ?hd (cs := #[.int .i64 0, .int .u8 0, .slice none 0 0, .int .i64 0, .int .i64 0, .int .i64 0]) (t := 25) ?hr ?_; (case hd => rfl); (case hg => rfl); (case hr => first | (go_simp; done) | (go_simp; rfl))
                          intro gb325 hg w30 hbox hb
                          have n0_ := Aside0.mk (Kd.R_below (by (with_reducible repeat (first | apply Kd.R_alloc | apply Kd.R_drewN | apply Kd.R_drew)); exact HO_5.out) hb)
                          have n1_ := Aside0.mk (Kd.R_below (by (with_reducible repeat (first | apply Kd.R_alloc | apply Kd.R_drewN | apply Kd.R_drew)); exact HO_6.out) hb)
                          have n2_ := Aside0.mk (Kd.R_below (by (with_reducible repeat (first | apply Kd.R_alloc | apply Kd.R_drewN | apply Kd.R_drew)); exact HO_8.out) hb)
                          have n3_ := Aside0.mk (Kd.R_below (by (with_reducible repeat (first | apply Kd.R_alloc | apply Kd.R_drewN | apply Kd.R_drew)); exact HO_309002.out) hb)
                          have n4_ := Aside0.mk (blk_below (g := gb308) (o := .cells #[.int .i64 x309000_2, .int .u8 x309001_2, .slice Ao27 x309002_2.length co27, .int .i64 x309003_2, .int .i64 x309004_2, .int .i64 x309005_2] 25 (0, 0)) (by (with_reducible repeat (first | refine blk_drewN ?_ _ | refine blk_drew ?_ | refine blk_alloc ?_ _)); exact BK308.out) hb)
                          have n5_ := Aside0.mk (Kd.C_below (by repeat (first | (with_reducible exact HR312.out) | (with_reducible refine Kd.C_alloc ?_ _) | (with_reducible refine Kd.C_drewN ?_ _) | (with_reducible refine Kd.C_drew ?_) | exact HR312.out)) hb)
                          have n6_ := Aside0.mk (below_step (by repeat (first | (with_reducible first | exact HB.out | apply below_alloc | apply pw_below_drewN | apply below_drew1 | refine below_set ?_ GE308.out) | exact HB.out)) hb)
                          have n7_ := Aside0.mk (hbox)
                          have n8_ := Aside0.mk ((by rw [hg]; exact (below_size (by repeat (first | (with_reducible first | exact HB.out | apply below_alloc | apply pw_below_drewN | apply below_drew1 | refine below_set ?_ GE308.out) | exact HB.out))) : w.heap.size ≤ gb325))
                          have n9_ := Aside0.mk ((by rw [hg]; exact (below_size (by repeat (first | (with_reducible first | exact HB.out | apply below_alloc | apply pw_below_drewN | apply below_drew1 | refine below_set ?_ GE308.out) | exact HB.out))) : w.heap.size ≤ gb325))
                          have n10_ := Aside0.mk ((by rw [hg]; exact Nat.ne_of_lt (blk_lt (g := gb308) (o := .cells #[.int .i64 x309000_2, .int .u8 x309001_2, .slice Ao27 x309002_2.length co27, .int .i64 x309003_2, .int .i64 x309004_2, .int .i64 x309005_2] 25 (0, 0)) (by (with_reducible repeat (first | refine blk_drewN ?_ _ | refine blk_drew ?_ | refine blk_alloc ?_ _)); exact BK308.out)) : gb308 ≠ gb325))
                          have n11_ := Aside0.mk ((by rw [hg]; exact Nat.ne_of_gt (blk_lt (g := gb308) (o := .cells #[.int .i64 x309000_2, .int .u8 x309001_2, .slice Ao27 x309002_2.length co27, .int .i64 x309003_2, .int .i64 x309004_2, .int .i64 x309005_2] 25 (0, 0)) (by (with_reducible repeat (first | refine blk_drewN ?_ _ | refine blk_drew ?_ | refine blk_alloc ?_ _)); exact BK308.out)) : gb325 ≠ gb308))
                          clear HO_5
                          clear HO_6
                          clear HO_8
                          clear HO_309002
                          clear BK308
                          clear HR312
                          clear HB
                          have HO_5 := n0_
                          have HO_6 := n1_
                          have HO_8 := n2_
                          have HO_309002 := n3_
                          have BK308 := n4_
                          have HR312 := n5_
                          have HB := n6_
                          have BK325 := n7_
                          have GW325 := n8_
                          have GE325 := n9_
                          have NB308_325 := n10_
                          have NB325_308 := n11_
                          clear n0_ n1_ n2_ n3_ n4_ n5_ n6_ n7_ n8_ n9_ n10_ n11_
                          clear hb hbox hg
                          refine hK.out _ _ ⟨(blk_cell BK308.out 0).trans rfl, (blk_cell BK308.out 1).trans rfl, (blk_cell BK308.out 2).trans rfl, (blk_cell BK308.out 3).trans rfl, (blk_cell BK308.out 4).trans rfl, (blk_cell BK308.out 5).trans rfl⟩ (fun hHeld => ?_)
                          clear hK K
                          refine norm_ (a' := ?_) ?_ ?_
                          rotate_left
                          · show Act.put _ (some 10) _ = _
                            simp only [Act.put, List.setIfInBounds_toArray, List.set_cons_zero, List.set_cons_succ, i64_w, i32_w]
                            rfl
                          refine one_ (i := 7) (N := some 40) #[true, true, true, true, true, true, true, true, false, false, false, false, true, false, false, false] rfl rfl (one_of HT_.out (by kernel_rfl)) (by decide) (fun K hK => ?_)
                          refine goes_ Tryd.func9 (by kernel_rfl) rfl #[.agg #[.int .i64 x309000_2, .int .u8 x309001_2, .slice Ao27 x309002_2.length co27, .int .i64 x309003_2, .int .i64 x309004_2, .int .i64 x309005_2], .slice A29 y309.length c29, .int .i64 a1] (by rfl) rfl rfl (by (try simp only [List.map_toArray, List.map_cons, List.map_nil]); first | done | rfl | (simp only [List.length_drop, List.length_take]; rfl)) ?_
                          with_reducible refine (unpackstream_Write.calls x309000_2 x309001_2 _ _ x309002_2 x309003_2 x309004_2 x309005_2 _ _ y309 a1 t313 t314 t315 t318 t319 t320 t321 t324 _ ?side1 ?side2 ?side3 ?side4 A24.out (Go.Proofs.YtpffoecblcfndaaDoor.Us.StepsL.below HL.out (by repeat (first | (with_reducible first | exact HB.out | apply below_alloc | apply pw_below_drewN | apply below_drew1) | exact HB.out)))).mono ?_
                          (case side1 => repeat (first | exact (Kd.R_reads' HO_309002.out).2.2 | (with_reducible refine Kd.C_alloc ?_ _) | (with_reducible refine Kd.C_drewN ?_ _) | (with_reducible refine Kd.C_drew ?_)))
                          (case side2 => exact (Kd.R_reads' HO_309002.out).2.1)
                          (case side3 => repeat (first | exact (by repeat (first | (with_reducible exact HR312.out) | (with_reducible refine Kd.C_alloc ?_ _) | (with_reducible refine Kd.C_drewN ?_ _) | (with_reducible refine Kd.C_drew ?_) | exact HR312.out)) | (with_reducible refine Kd.C_alloc ?_ _) | (with_reducible refine Kd.C_drewN ?_ _) | (with_reducible refine Kd.C_drew ?_)))
                          (case side4 => exact HC312.out)
                          rintro e w31 ⟨v316, v322, rfl, ho0, ho1, hb⟩
                          refine ⟨_, rfl, ?_⟩
                          have n0_ := Aside0.mk (Kd.R_mono (Kd.R_told (Kd.R_told (Kd.R_old (by (with_reducible repeat (first | apply Kd.R_alloc | apply Kd.R_drewN | apply Kd.R_drew)); exact HO_5.out) hb) (Kd.R_base ho0)) (Kd.R_base ho1)) (fun _ h_ => h_.1))
                          have n1_ := Aside0.mk (Kd.R_mono (Kd.R_told (Kd.R_told (Kd.R_old (by (with_reducible repeat (first | apply Kd.R_alloc | apply Kd.R_drewN | apply Kd.R_drew)); exact HO_6.out) hb) (Kd.R_base ho0)) (Kd.R_base ho1)) (fun _ h_ => h_.1))
                          have n2_ := Aside0.mk (Kd.R_mono (Kd.R_told (Kd.R_told (Kd.R_old (by (with_reducible repeat (first | apply Kd.R_alloc | apply Kd.R_drewN | apply Kd.R_drew)); exact HO_8.out) hb) (Kd.R_base ho0)) (Kd.R_base ho1)) (fun _ h_ => h_.1))
                          have n3_ := Aside0.mk (Kd.R_mono (Kd.R_told (Kd.R_told (Kd.R_old (by (with_reducible repeat (first | apply Kd.R_alloc | apply Kd.R_drewN | apply Kd.R_drew)); exact HO_309002.out) hb) (Kd.R_base ho0)) (Kd.R_base ho1)) (fun _ h_ => h_.1))
                          have n4_ := Aside0.mk (Kd.R_lower (Kd.R_new' (Kd.R_new' (Kd.R_new' (Kd.R_new' ho0 (Kd.R_lt (by (with_reducible repeat (first | apply Kd.R_alloc | apply Kd.R_drewN | apply Kd.R_drew)); exact HO_5.out))) (Kd.R_lt (by (with_reducible repeat (first | apply Kd.R_alloc | apply Kd.R_drewN | apply Kd.R_drew)); exact HO_6.out))) (Kd.R_lt (by (with_reducible repeat (first | apply Kd.R_alloc | apply Kd.R_drewN | apply Kd.R_drew)); exact HO_8.out))) (Kd.R_lt (by (with_reducible repeat (first | apply Kd.R_alloc | apply Kd.R_drewN | apply Kd.R_drew)); exact HO_309002.out))) (below_size (by repeat (first | (with_reducible first | exact HB.out | apply below_alloc | apply pw_below_drewN | apply below_drew1 | refine below_set ?_ GE308.out | refine below_set ?_ GE325.out) | exact HB.out))))
                          have n5_ := Aside0.mk (Kd.R_lower (Kd.R_new' (Kd.R_new' (Kd.R_new' (Kd.R_new' ho1 (Kd.R_lt (by (with_reducible repeat (first | apply Kd.R_alloc | apply Kd.R_drewN | apply Kd.R_drew)); exact HO_5.out))) (Kd.R_lt (by (with_reducible repeat (first | apply Kd.R_alloc | apply Kd.R_drewN | apply Kd.R_drew)); exact HO_6.out))) (Kd.R_lt (by (with_reducible repeat (first | apply Kd.R_alloc | apply Kd.R_drewN | apply Kd.R_drew)); exact HO_8.out))) (Kd.R_lt (by (with_reducible repeat (first | apply Kd.R_alloc | apply Kd.R_drewN | apply Kd.R_drew)); exact HO_309002.out))) (below_size (by repeat (first | (with_reducible first | exact HB.out | apply below_alloc | apply pw_below_drewN | apply below_drew1 | refine below_set ?_ GE308.out | refine below_set ?_ GE325.out) | exact HB.out))))
                          have n6_ := Aside0.mk (blk_below (g := gb308) (o := .cells #[.int .i64 x309000_2, .int .u8 x309001_2, .slice Ao27 x309002_2.length co27, .int .i64 x309003_2, .int .i64 x309004_2, .int .i64 x309005_2] 25 (0, 0)) (by (with_reducible repeat (first | refine blk_drewN ?_ _ | refine blk_drew ?_ | refine blk_alloc ?_ _)); exact BK308.out) hb)
                          have n7_ := Aside0.mk (Kd.C_below (by repeat (first | (with_reducible exact HR312.out) | (with_reducible refine Kd.C_alloc ?_ _) | (with_reducible refine Kd.C_drewN ?_ _) | (with_reducible refine Kd.C_drew ?_) | exact HR312.out)) hb)
                          have n8_ := Aside0.mk (blk_below (g := gb325) (o := .cells #[.int .i64 0, .int .u8 0, .slice none 0 0, .int .i64 0, .int .i64 0, .int .i64 0] 25 (0, 0)) (by (with_reducible repeat (first | refine blk_drewN ?_ _ | refine blk_drew ?_ | refine blk_alloc ?_ _)); exact BK325.out) hb)
                          have n9_ := Aside0.mk (below_step (by repeat (first | (with_reducible first | exact HB.out | apply below_alloc | apply pw_below_drewN | apply below_drew1 | refine below_set ?_ GE308.out | refine below_set ?_ GE325.out) | exact HB.out)) hb)
                          clear HO_5
                          clear HO_6
                          clear HO_8
                          clear HO_309002
                          clear BK308
                          clear HR312
                          clear BK325
                          clear HB
                          have HO_5 := n0_
                          have HO_6 := n1_
                          have HO_8 := n2_
                          have HO_309002 := n3_
                          have HO317 := n4_
                          have HO323 := n5_
                          have BK308 := n6_
                          have HR312 := n7_
                          have BK325 := n8_
                          have HB := n9_
                          clear n0_ n1_ n2_ n3_ n4_ n5_ n6_ n7_ n8_ n9_
                          (try clear hb)
                          (try clear hb2)
                          (try clear hk)
                          (try clear hi)
                          (try clear ho0)
                          (try clear ho1)
                          refine hK.out _ _ ⟨(blk_cell BK308.out 0).trans rfl, (blk_cell BK308.out 1).trans rfl, (blk_cell BK308.out 2).trans rfl, (blk_cell BK308.out 3).trans rfl, (blk_cell BK308.out 4).trans rfl, (blk_cell BK308.out 5).trans rfl⟩ (fun hHeld => ?_)
                          clear hK K
                          refine norm_ (a' := ?_) ?_ ?_
                          rotate_left
                          · show Act.put _ (some 40) _ = _
                            simp only [Act.put, List.setIfInBounds_toArray, List.set_cons_zero, List.set_cons_succ, i64_w, i32_w]
                            rfl
                          refine pure_ (i := 8) (N := some 32) (v := ?_) (a' := ?_) #[true, true, true, true, true, true, true, true, true, false, false, false, true, false, false, false] rfl rfl (any_of HT_.out (by kernel_rfl)) (fun _ _ _ h => h) (Or.inl ⟨by rfl, ?_⟩) ?_ ?_
                          rotate_left
                          · intro w'
                            go_simp
                            with_reducible rfl
                          rotate_left
                          · simp only [Act.put, List.setIfInBounds_toArray, List.set_cons_zero, List.set_cons_succ, i64_w, i32_w]
                            rfl
                          refine pure_ (i := 9) (N := some 41) (v := ?_) (a' := ?_) #[true, true, true, true, true, true, true, true, true, true, false, false, true, false, false, false] rfl rfl (any_of HT_.out (by kernel_rfl)) (fun _ _ _ h => h) (Or.inl ⟨by rfl, ?_⟩) ?_ ?_
                          rotate_left
                          · intro w'
                            go_simp
                            with_reducible rfl
                          rotate_left
                          · simp only [Act.put, List.setIfInBounds_toArray, List.set_cons_zero, List.set_cons_succ, i64_w, i32_w]
                            rfl
                          refine pure_ (i := 10) (N := some 42) (v := ?_) (a' := ?_) #[true, true, true, true, true, true, true, true, true, true, true, false, true, false, false, false] rfl rfl (any_of HT_.out (by kernel_rfl)) (fun _ _ _ h => h) (Or.inl ⟨by rfl, ?_⟩) ?_ ?_
                          rotate_left
                          · intro w'
                            go_simp
                            with_reducible rfl
                          rotate_left
                          · simp only [Act.put, List.setIfInBounds_toArray, List.set_cons_zero, List.set_cons_succ, i64_w, i32_w]
                            rfl
                          refine pure_ (i := 11) (N := some 43) (v := ?_) (a' := ?_) #[true, true, true, true, true, true, true, true, true, true, true, true, true, false, false, false] rfl rfl (any_of HT_.out (by kernel_rfl)) (fun _ _ _ h => h) (Or.inl ⟨by rfl, ?_⟩) ?_ ?_
                          rotate_left
                          · intro w'
                            go_simp
                            with_reducible rfl
                          rotate_left
                          · simp only [Act.put, List.setIfInBounds_toArray, List.set_cons_zero, List.set_cons_succ, i64_w, i32_w]
                            rfl
                          exact norm_ (by simp only [putAll, Act.put, List.setIfInBounds_toArray, List.set_cons_zero, List.set_cons_succ]) (hCont (v316, v322, gb325) _ ⟨hHeld, (by (with_reducible repeat (first | apply Kd.R_alloc | apply Kd.R_drewN | apply Kd.R_drew)); exact Kd.R_mono HO317.out (fun _ hk => ⟨hk.1.1.1.1, ⟨hk.2, ⟨hk.1.1.1.2, ⟨hk.1.1.2, hk.1.2⟩⟩⟩⟩)), (by (with_reducible repeat (first | apply Kd.R_alloc | apply Kd.R_drewN | apply Kd.R_drew)); exact Kd.R_mono HO323.out (fun _ hk => ⟨hk.1.1.1.1, ⟨hk.2, ⟨hk.1.1.1.2, ⟨hk.1.1.2, hk.1.2⟩⟩⟩⟩)), (by (with_reducible repeat (first | apply Kd.R_alloc | apply Kd.R_drewN | apply Kd.R_drew)); exact Kd.R_mono HO_309002.out (fun _ hk => ⟨hk.1.2, ⟨hk.2, ⟨hk.1.1.1, ⟨hk.1.1.2.1, hk.1.1.2.2⟩⟩⟩⟩)), (by (with_reducible repeat (first | apply Kd.R_alloc | apply Kd.R_drewN | apply Kd.R_drew)); exact Kd.R_mono HO_5.out (fun _ hk => ⟨hk.1.2, ⟨hk.2, ⟨hk.1.1.2.2, ⟨hk.1.1.1, hk.1.1.2.1⟩⟩⟩⟩)), (by (with_reducible repeat (first | apply Kd.R_alloc | apply Kd.R_drewN | apply Kd.R_drew)); exact Kd.R_mono HO_6.out (fun _ hk => ⟨hk.1.2, ⟨hk.2, ⟨hk.1.1.2.2, ⟨hk.1.1.1, hk.1.1.2.1⟩⟩⟩⟩)), (by (with_reducible repeat (first | apply Kd.R_alloc | apply Kd.R_drewN | apply Kd.R_drew)); exact Kd.R_mono HO_8.out (fun _ hk => ⟨hk.1.2, ⟨hk.2, ⟨hk.1.1.2.2, ⟨hk.1.1.1, hk.1.1.2.1⟩⟩⟩⟩)), (by (with_reducible repeat (first | refine blk_drewN ?_ _ | refine blk_drew ?_ | refine blk_alloc ?_ _)); exact BK308.out), (by (with_reducible repeat (first | refine blk_drewN ?_ _ | refine blk_drew ?_ | refine blk_alloc ?_ _)); exact BK325.out), GW325.out, GE325.out, NB308_325.out, NB325_308.out, (by repeat (first | (with_reducible first | exact HB.out | apply below_alloc | apply pw_below_drewN | apply below_drew1 | refine below_set ?_ GE308.out | refine below_set ?_ GE325.out) | exact HB.out))⟩)
                      rintro ⟨v316, v322, gb325⟩ w32 ⟨hS_, h0_, h1_, h2_, h3_, h4_, h5_, h6_, h7_, h8_, h9_, h10_, h11_, h12_⟩
                      have n0_ : Aside0 (Kd.R (Kd.int .u8) 5 w32 w.heap.size (fun k_ => some k_ ≠ (v322 : Value).ownBlock ∧ some k_ ≠ (.slice Ao27 x309002_2.length co27 : Value).ownBlock ∧ some k_ ≠ (.slice Ao26 t294.length co26 : Value).ownBlock ∧ some k_ ≠ (v298 : Value).ownBlock ∧ some k_ ≠ (u8 : Value).ownBlock) v316 t315) := ⟨h0_⟩
                      have n1_ : Aside0 (Kd.R (Kd.int .u8) 5 w32 w.heap.size (fun k_ => some k_ ≠ (v316 : Value).ownBlock ∧ some k_ ≠ (.slice Ao27 x309002_2.length co27 : Value).ownBlock ∧ some k_ ≠ (.slice Ao26 t294.length co26 : Value).ownBlock ∧ some k_ ≠ (v298 : Value).ownBlock ∧ some k_ ≠ (u8 : Value).ownBlock) v322 t321) := ⟨h1_⟩
                      have n2_ : Aside0 (Kd.R (Kd.int .u8) 5 w32 w.heap.size (fun k_ => some k_ ≠ (v316 : Value).ownBlock ∧ some k_ ≠ (v322 : Value).ownBlock ∧ some k_ ≠ (.slice Ao26 t294.length co26 : Value).ownBlock ∧ some k_ ≠ (v298 : Value).ownBlock ∧ some k_ ≠ (u8 : Value).ownBlock) (.slice Ao27 x309002_2.length co27) x309002_2) := ⟨h2_⟩
                      have n3_ : Aside0 (Kd.R (Kd.int .u8) 5 w32 w.heap.size (fun k_ => some k_ ≠ (v316 : Value).ownBlock ∧ some k_ ≠ (v322 : Value).ownBlock ∧ some k_ ≠ (.slice Ao27 x309002_2.length co27 : Value).ownBlock ∧ some k_ ≠ (v298 : Value).ownBlock ∧ some k_ ≠ (u8 : Value).ownBlock) (.slice Ao26 t294.length co26) t294) := ⟨h3_⟩
                      have n4_ : Aside0 (Kd.R (Kd.int .u8) 5 w32 w.heap.size (fun k_ => some k_ ≠ (v316 : Value).ownBlock ∧ some k_ ≠ (v322 : Value).ownBlock ∧ some k_ ≠ (.slice Ao27 x309002_2.length co27 : Value).ownBlock ∧ some k_ ≠ (.slice Ao26 t294.length co26 : Value).ownBlock ∧ some k_ ≠ (u8 : Value).ownBlock) v298 t297) := ⟨h4_⟩
                      have n5_ : Aside0 (Kd.R (Kd.int .u8) 5 w32 w.heap.size (fun k_ => some k_ ≠ (v316 : Value).ownBlock ∧ some k_ ≠ (v322 : Value).ownBlock ∧ some k_ ≠ (.slice Ao27 x309002_2.length co27 : Value).ownBlock ∧ some k_ ≠ (.slice Ao26 t294.length co26 : Value).ownBlock ∧ some k_ ≠ (v298 : Value).ownBlock) u8 x8_2) := ⟨h5_⟩
                      have n6_ : Aside0 (w32.heap[gb308]? = some (.cells #[.int .i64 x309000_2, .int .u8 x309001_2, .slice Ao27 x309002_2.length co27, .int .i64 x309003_2, .int .i64 x309004_2, .int .i64 x309005_2] 25 (0, 0))) := ⟨h6_⟩
                      have n7_ : Aside0 (w32.heap[gb325]? = some (.cells #[.int .i64 0, .int .u8 0, .slice none 0 0, .int .i64 0, .int .i64 0, .int .i64 0] 25 (0, 0))) := ⟨h7_⟩
                      have n8_ : Aside0 (w.heap.size ≤ gb325) := ⟨h8_⟩
                      have n9_ : Aside0 (w.heap.size ≤ gb325) := ⟨h9_⟩
                      have n10_ : Aside0 (gb308 ≠ gb325) := ⟨h10_⟩
                      have n11_ : Aside0 (gb325 ≠ gb308) := ⟨h11_⟩
                      have n12_ : Aside0 (Below w.heap.size w w32) := ⟨h12_⟩
                      clear HO_5
                      clear HO_6
                      clear HO_8
                      clear HO_309002
                      clear BK308
                      clear HB
                      clear h0_ h1_ h2_ h3_ h4_ h5_ h6_ h7_ h8_ h9_ h10_ h11_ h12_
                      have HO317 := n0_
                      have HO323 := n1_
                      have HO_309002 := n2_
                      have HO_5 := n3_
                      have HO_6 := n4_
                      have HO_8 := n5_
                      have BK308 := n6_
                      have BK325 := n7_
                      have GW325 := n8_
                      have GE325 := n9_
                      have NB308_325 := n10_
                      have NB325_308 := n11_
                      have HB := n12_
                      clear n0_ n1_ n2_ n3_ n4_ n5_ n6_ n7_ n8_ n9_ n10_ n11_ n12_
                      have hHeld : w32.cell? ⟨gb308, 0, none⟩ = some (.int .i64 x309000_2) ∧ w32.cell? ⟨gb308, 1, none⟩ = some (.int .u8 x309001_2) ∧ w32.cell? ⟨gb308, 2, none⟩ = some (.slice Ao27 x309002_2.length co27) ∧ w32.cell? ⟨gb308, 3, none⟩ = some (.int .i64 x309003_2) ∧ w32.cell? ⟨gb308, 4, none⟩ = some (.int .i64 x309004_2) ∧ w32.cell? ⟨gb308, 5, none⟩ = some (.int .i64 x309005_2) := hS_
                      obtain ⟨Ao35, co35, eo35⟩ := Kd.R_slice HO317.out
                      (first | subst eo35 | (injection eo35 with f1_ f2_ f3_; have f4_ := f1_.symm; have f5_ := f3_.symm; clear f1_ f2_ f3_; subst f4_; subst f5_))
                      refine norm_ (a' := ?_) ?_ ?_
                      rotate_left
                      · simp only [putAll, Act.put, List.setIfInBounds_toArray, List.set_cons_zero, List.set_cons_succ]
                        rfl
                      refine one_ (i := 13) (N := none) #[true, true, true, true, true, true, true, true, true, true, true, true, true, true, false, false] rfl rfl (one_of HT_.out (by kernel_rfl)) (by decide) (fun K hK => ?_)
                      have hs33 : w32.cell? ⟨gb325, 0, none⟩ = some (.int .i64 0) := (blk_cell BK325.out 0).trans rfl
                      have hfs33 := blk_frozen BK325.out 0
                      have hns33_0 := NB308_325.out
                      have hms33_0 := NB325_308.out
                      have hs34 : w32.cell? ⟨gb325, 1, none⟩ = some (.int .u8 0) := (blk_cell BK325.out 1).trans rfl
                      have hfs34 := blk_frozen BK325.out 1
                      have hns34_0 := NB308_325.out
                      have hms34_0 := NB325_308.out
                      have hs36 : w32.cell? ⟨gb325, 2, none⟩ = some (.slice none 0 0) := (blk_cell BK325.out 2).trans rfl
                      have hfs36 := blk_frozen BK325.out 2
                      have hns36_0 := NB308_325.out
                      have hms36_0 := NB325_308.out
                      have hs37 : w32.cell? ⟨gb325, 3, none⟩ = some (.int .i64 0) := (blk_cell BK325.out 3).trans rfl
                      have hfs37 := blk_frozen BK325.out 3
                      have hns37_0 := NB308_325.out
                      have hms37_0 := NB325_308.out
                      have hs38 : w32.cell? ⟨gb325, 4, none⟩ = some (.int .i64 0) := (blk_cell BK325.out 4).trans rfl
                      have hfs38 := blk_frozen BK325.out 4
                      have hns38_0 := NB308_325.out
                      have hms38_0 := NB325_308.out
                      have hs39 : w32.cell? ⟨gb325, 5, none⟩ = some (.int .i64 0) := (blk_cell BK325.out 5).trans rfl
                      have hfs39 := blk_frozen BK325.out 5
                      have hns39_0 := NB308_325.out
                      have hms39_0 := NB325_308.out
                      refine skip_ (w1 := ?_) (by rfl) rfl ?_ ?_
                      rotate_left
                      · go_simp
                        rfl
                      refine hK.out _ _ ⟨((cell_far (p := ⟨gb325, _, none⟩) NB308_325.out _).trans (((cell_far (p := ⟨gb325, _, none⟩) NB308_325.out _).trans (((cell_far (p := ⟨gb325, _, none⟩) NB308_325.out _).trans (((cell_far (p := ⟨gb325, _, none⟩) NB308_325.out _).trans (((cell_far (p := ⟨gb325, _, none⟩) NB308_325.out _).trans (((cell_far (p := ⟨gb325, _, none⟩) NB308_325.out _).trans (hHeld.1)))))))))))), ((cell_far (p := ⟨gb325, _, none⟩) NB308_325.out _).trans (((cell_far (p := ⟨gb325, _, none⟩) NB308_325.out _).trans (((cell_far (p := ⟨gb325, _, none⟩) NB308_325.out _).trans (((cell_far (p := ⟨gb325, _, none⟩) NB308_325.out _).trans (((cell_far (p := ⟨gb325, _, none⟩) NB308_325.out _).trans (((cell_far (p := ⟨gb325, _, none⟩) NB308_325.out _).trans (hHeld.2.1)))))))))))), ((cell_far (p := ⟨gb325, _, none⟩) NB308_325.out _).trans (((cell_far (p := ⟨gb325, _, none⟩) NB308_325.out _).trans (((cell_far (p := ⟨gb325, _, none⟩) NB308_325.out _).trans (((cell_far (p := ⟨gb325, _, none⟩) NB308_325.out _).trans (((cell_far (p := ⟨gb325, _, none⟩) NB308_325.out _).trans (((cell_far (p := ⟨gb325, _, none⟩) NB308_325.out _).trans (hHeld.2.2.1)))))))))))), ((cell_far (p := ⟨gb325, _, none⟩) NB308_325.out _).trans (((cell_far (p := ⟨gb325, _, none⟩) NB308_325.out _).trans (((cell_far (p := ⟨gb325, _, none⟩) NB308_325.out _).trans (((cell_far (p := ⟨gb325, _, none⟩) NB308_325.out _).trans (((cell_far (p := ⟨gb325, _, none⟩) NB308_325.out _).trans (((cell_far (p := ⟨gb325, _, none⟩) NB308_325.out _).trans (hHeld.2.2.2.1)))))))))))), ((cell_far (p := ⟨gb325, _, none⟩) NB308_325.out _).trans (((cell_far (p := ⟨gb325, _, none⟩) NB308_325.out _).trans (((cell_far (p := ⟨gb325, _, none⟩) NB308_325.out _).trans (((cell_far (p := ⟨gb325, _, none⟩) NB308_325.out _).trans (((cell_far (p := ⟨gb325, _, none⟩) NB308_325.out _).trans (((cell_far (p := ⟨gb325, _, none⟩) NB308_325.out _).trans (hHeld.2.2.2.2.1)))))))))))), ((cell_far (p := ⟨gb325, _, none⟩) NB308_325.out _).trans (((cell_far (p := ⟨gb325, _, none⟩) NB308_325.out _).trans (((cell_far (p := ⟨gb325, _, none⟩) NB308_325.out _).trans (((cell_far (p := ⟨gb325, _, none⟩) NB308_325.out _).trans (((cell_far (p := ⟨gb325, _, none⟩) NB308_325.out _).trans (((cell_far (p := ⟨gb325, _, none⟩) NB308_325.out _).trans (hHeld.2.2.2.2.2))))))))))))⟩ (fun hHeld => ?_)
                      clear hK K
                      refine pure_ (i := 14) (N := some 11) (v := ?_) (a' := ?_) #[true, true, true, true, true, true, true, true, true, true, true, true, true, true, true, false] rfl rfl (any_of HT_.out (by kernel_rfl)) (fun _ _ _ h => h) (Or.inl ⟨by rfl, ?_⟩) ?_ ?_
                      rotate_left
                      · intro w'
                        go_simp
                        with_reducible rfl
                      rotate_left
                      · simp only [Act.put, List.setIfInBounds_toArray, List.set_cons_zero, List.set_cons_succ, i64_w, i32_w]
                        rfl
                      refine pure_ (i := 15) (N := some 12) (v := ?_) (a' := ?_) #[true, true, true, true, true, true, true, true, true, true, true, true, true, true, true, true] rfl rfl (any_of HT_.out (by kernel_rfl)) (fun _ _ _ h => h) (Or.inl ⟨by rfl, ?_⟩) ?_ ?_
                      rotate_left
                      · intro w'
                        go_simp
                        with_reducible rfl
                      rotate_left
                      · simp only [Act.put, List.setIfInBounds_toArray, List.set_cons_zero, List.set_cons_succ, i64_w, i32_w]
                        rfl
                      refine done_ (done_of HT_.out (by kernel_rfl)) ?_
                      have hnb40 := NB325_308.out
                      have hnc40 := NB308_325.out
                      have hcz41_0 : w32.cell? ⟨gb325, 0, none⟩ = some (.int .i64 0) := (blk_cell BK325.out 0).trans rfl
                      have hcz41_1 : w32.cell? ⟨gb325, 1, none⟩ = some (.int .u8 0) := (blk_cell BK325.out 1).trans rfl
                      have hcz41_2 : w32.cell? ⟨gb325, 2, none⟩ = some (.slice none 0 0) := (blk_cell BK325.out 2).trans rfl
                      have hcz41_3 : w32.cell? ⟨gb325, 3, none⟩ = some (.int .i64 0) := (blk_cell BK325.out 3).trans rfl
                      have hcz41_4 : w32.cell? ⟨gb325, 4, none⟩ = some (.int .i64 0) := (blk_cell BK325.out 4).trans rfl
                      have hcz41_5 : w32.cell? ⟨gb325, 5, none⟩ = some (.int .i64 0) := (blk_cell BK325.out 5).trans rfl
                      have hfz41_0 := blk_frozen BK325.out 0
                      have hfz41_1 := blk_frozen BK325.out 1
                      have hfz41_2 := blk_frozen BK325.out 2
                      have hfz41_3 := blk_frozen BK325.out 3
                      have hfz41_4 := blk_frozen BK325.out 4
                      have hfz41_5 := blk_frozen BK325.out 5
                      have hcz42_0 : w32.cell? ⟨gb308, 0, none⟩ = some (.int .i64 x309000_2) := (blk_cell BK308.out 0).trans rfl
                      have hcz42_1 : w32.cell? ⟨gb308, 1, none⟩ = some (.int .u8 x309001_2) := (blk_cell BK308.out 1).trans rfl
                      have hcz42_2 : w32.cell? ⟨gb308, 2, none⟩ = some (.slice Ao27 x309002_2.length co27) := (blk_cell BK308.out 2).trans rfl
                      have hcz42_3 : w32.cell? ⟨gb308, 3, none⟩ = some (.int .i64 x309003_2) := (blk_cell BK308.out 3).trans rfl
                      have hcz42_4 : w32.cell? ⟨gb308, 4, none⟩ = some (.int .i64 x309004_2) := (blk_cell BK308.out 4).trans rfl
                      have hcz42_5 : w32.cell? ⟨gb308, 5, none⟩ = some (.int .i64 x309005_2) := (blk_cell BK308.out 5).trans rfl
                      have hfz42_0 := blk_frozen BK308.out 0
                      have hfz42_1 := blk_frozen BK308.out 1
                      have hfz42_2 := blk_frozen BK308.out 2
                      have hfz42_3 := blk_frozen BK308.out 3
                      have hfz42_4 := blk_frozen BK308.out 4
                      have hfz42_5 := blk_frozen BK308.out 5
                      obtain ⟨Ao44, co44, eo44⟩ := Kd.R_slice HO323.out
                      subst eo44
                      try go_wp2_with (first | ((with_reducible refine gate_builtin (b := .append) (xs := #[.tmp 45, .tmp 46]) rfl ?_); (try (refine gate_guard (by rfl) ?_; dsimp only)); at_builtin; refine Kd.R_append_rows (Kd.int .u8) (w0 := w) w.heap.size rfl (.tmp 45) (.tmp 46) 22 5 (.int .u8 0) 1 rfl Tryd.underlying22 info5 rfl (by decide) (by omega) u8 x8_2 t321 _ _ _ (fun k_ => some k_ ≠ (.slice Ao26 t294.length co26 : Value).ownBlock ∧ some k_ ≠ (v298 : Value).ownBlock ∧ some k_ ≠ (.slice Ao27 x309002_2.length co27 : Value).ownBlock ∧ some k_ ≠ (.slice Ao35 t315.length co35 : Value).ownBlock ∧ some k_ ≠ (.slice Ao44 t321.length co44 : Value).ownBlock) (fun _ => False) rfl rfl ?aO ?aR (fun _ _ h => h) (fun _ h => h.elim) ?aF ?aB ?aS ?aL ?_; (case aR => refine (Kd.R_reads' (e := 5) (base := w.heap.size) (ok := fun k_ => (some k_ ≠ (.slice Ao35 t315.length co35 : Value).ownBlock ∧ (some k_ ≠ (.slice Ao27 x309002_2.length co27 : Value).ownBlock ∧ (some k_ ≠ (.slice Ao26 t294.length co26 : Value).ownBlock ∧ (some k_ ≠ (v298 : Value).ownBlock ∧ some k_ ≠ (u8 : Value).ownBlock))))) (n := t321.length) (c := co44) ?_).2.2; exact (by (with_reducible repeat (first | apply Kd.R_alloc | apply Kd.R_drewN | apply Kd.R_drew)); exact (Kd.R_mono (Kd.R_mono (Kd.R_far (p := ⟨gb308, 5, none⟩) (Kd.R_far (p := ⟨gb308, 4, none⟩) (Kd.R_far (p := ⟨gb308, 3, none⟩) (Kd.R_far (p := ⟨gb308, 2, none⟩) (Kd.R_far (p := ⟨gb308, 1, none⟩) (Kd.R_far (p := ⟨gb308, 0, none⟩) (Kd.R_far (p := ⟨gb325, 5, none⟩) (Kd.R_far (p := ⟨gb325, 4, none⟩) (Kd.R_far (p := ⟨gb325, 3, none⟩) (Kd.R_far (p := ⟨gb325, 2, none⟩) (Kd.R_far (p := ⟨gb325, 1, none⟩) (Kd.R_far (p := ⟨gb325, 0, none⟩) (Kd.R_types (Kd.R_types HO323.out BK325.out (by decide)) BK308.out (by decide)) (fun _ hk => hk.1.2) (.int .i64 t313)) (fun _ hk => hk.1.2) (.int .u8 t314)) (fun _ hk => hk.1.2) (.slice Ao35 t315.length co35)) (fun _ hk => hk.1.2) (.int .i64 t318)) (fun _ hk => hk.1.2) (.int .i64 t319)) (fun _ hk => hk.1.2) (.int .i64 t320)) (fun _ hk => hk.2) (.int .i64 t313)) (fun _ hk => hk.2) (.int .u8 t314)) (fun _ hk => hk.2) (.slice Ao35 t315.length co35)) (fun _ hk => hk.2) (.int .i64 t318)) (fun _ hk => hk.2) (.int .i64 t319)) (fun _ hk => hk.2) (.int .i64 t320)) (fun _ h_ => h_.1)) (fun _ h_ => h_.1)))); (case aB => exact (by repeat (first | (with_reducible first | exact HB.out | apply below_alloc | apply pw_below_drewN | apply below_drew1 | refine below_set ?_ GE308.out | refine below_set ?_ GE325.out) | exact HB.out))); (case aF => exact (fun k_ hk => ⟨Kd.fresh' (Kd.R_lt (by (with_reducible repeat (first | apply Kd.R_alloc | apply Kd.R_drewN | apply Kd.R_drew)); exact (Kd.R_mono (Kd.R_mono (Kd.R_far (p := ⟨gb308, 5, none⟩) (Kd.R_far (p := ⟨gb308, 4, none⟩) (Kd.R_far (p := ⟨gb308, 3, none⟩) (Kd.R_far (p := ⟨gb308, 2, none⟩) (Kd.R_far (p := ⟨gb308, 1, none⟩) (Kd.R_far (p := ⟨gb308, 0, none⟩) (Kd.R_far (p := ⟨gb325, 5, none⟩) (Kd.R_far (p := ⟨gb325, 4, none⟩) (Kd.R_far (p := ⟨gb325, 3, none⟩) (Kd.R_far (p := ⟨gb325, 2, none⟩) (Kd.R_far (p := ⟨gb325, 1, none⟩) (Kd.R_far (p := ⟨gb325, 0, none⟩) (Kd.R_types (Kd.R_types HO_5.out BK325.out (by decide)) BK308.out (by decide)) (fun _ hk => hk.1.2) (.int .i64 t313)) (fun _ hk => hk.1.2) (.int .u8 t314)) (fun _ hk => hk.1.2) (.slice Ao35 t315.length co35)) (fun _ hk => hk.1.2) (.int .i64 t318)) (fun _ hk => hk.1.2) (.int .i64 t319)) (fun _ hk => hk.1.2) (.int .i64 t320)) (fun _ hk => hk.2) (.int .i64 t313)) (fun _ hk => hk.2) (.int .u8 t314)) (fun _ hk => hk.2) (.slice Ao35 t315.length co35)) (fun _ hk => hk.2) (.int .i64 t318)) (fun _ hk => hk.2) (.int .i64 t319)) (fun _ hk => hk.2) (.int .i64 t320)) (fun _ h_ => h_.1)) (fun _ h_ => h_.1)))) k_ hk, Kd.fresh' (Kd.R_lt (by (with_reducible repeat (first | apply Kd.R_alloc | apply Kd.R_drewN | apply Kd.R_drew)); exact (Kd.R_mono (Kd.R_mono (Kd.R_far (p := ⟨gb308, 5, none⟩) (Kd.R_far (p := ⟨gb308, 4, none⟩) (Kd.R_far (p := ⟨gb308, 3, none⟩) (Kd.R_far (p := ⟨gb308, 2, none⟩) (Kd.R_far (p := ⟨gb308, 1, none⟩) (Kd.R_far (p := ⟨gb308, 0, none⟩) (Kd.R_far (p := ⟨gb325, 5, none⟩) (Kd.R_far (p := ⟨gb325, 4, none⟩) (Kd.R_far (p := ⟨gb325, 3, none⟩) (Kd.R_far (p := ⟨gb325, 2, none⟩) (Kd.R_far (p := ⟨gb325, 1, none⟩) (Kd.R_far (p := ⟨gb325, 0, none⟩) (Kd.R_types (Kd.R_types HO_6.out BK325.out (by decide)) BK308.out (by decide)) (fun _ hk => hk.1.2) (.int .i64 t313)) (fun _ hk => hk.1.2) (.int .u8 t314)) (fun _ hk => hk.1.2) (.slice Ao35 t315.length co35)) (fun _ hk => hk.1.2) (.int .i64 t318)) (fun _ hk => hk.1.2) (.int .i64 t319)) (fun _ hk => hk.1.2) (.int .i64 t320)) (fun _ hk => hk.2) (.int .i64 t313)) (fun _ hk => hk.2) (.int .u8 t314)) (fun _ hk => hk.2) (.slice Ao35 t315.length co35)) (fun _ hk => hk.2) (.int .i64 t318)) (fun _ hk => hk.2) (.int .i64 t319)) (fun _ hk => hk.2) (.int .i64 t320)) (fun _ h_ => h_.1)) (fun _ h_ => h_.1)))) k_ hk, Kd.fresh' (Kd.R_lt (by (with_reducible repeat (first | apply Kd.R_alloc | apply Kd.R_drewN | apply Kd.R_drew)); exact (Kd.R_mono (Kd.R_mono (Kd.R_far (p := ⟨gb308, 5, none⟩) (Kd.R_far (p := ⟨gb308, 4, none⟩) (Kd.R_far (p := ⟨gb308, 3, none⟩) (Kd.R_far (p := ⟨gb308, 2, none⟩) (Kd.R_far (p := ⟨gb308, 1, none⟩) (Kd.R_far (p := ⟨gb308, 0, none⟩) (Kd.R_far (p := ⟨gb325, 5, none⟩) (Kd.R_far (p := ⟨gb325, 4, none⟩) (Kd.R_far (p := ⟨gb325, 3, none⟩) (Kd.R_far (p := ⟨gb325, 2, none⟩) (Kd.R_far (p := ⟨gb325, 1, none⟩) (Kd.R_far (p := ⟨gb325, 0, none⟩) (Kd.R_types (Kd.R_types HO_309002.out BK325.out (by decide)) BK308.out (by decide)) (fun _ hk => hk.1.2) (.int .i64 t313)) (fun _ hk => hk.1.2) (.int .u8 t314)) (fun _ hk => hk.1.2) (.slice Ao35 t315.length co35)) (fun _ hk => hk.1.2) (.int .i64 t318)) (fun _ hk => hk.1.2) (.int .i64 t319)) (fun _ hk => hk.1.2) (.int .i64 t320)) (fun _ hk => hk.2) (.int .i64 t313)) (fun _ hk => hk.2) (.int .u8 t314)) (fun _ hk => hk.2) (.slice Ao35 t315.length co35)) (fun _ hk => hk.2) (.int .i64 t318)) (fun _ hk => hk.2) (.int .i64 t319)) (fun _ hk => hk.2) (.int .i64 t320)) (fun _ h_ => h_.1)) (fun _ h_ => h_.1)))) k_ hk, Kd.fresh' (Kd.R_lt (by (with_reducible repeat (first | apply Kd.R_alloc | apply Kd.R_drewN | apply Kd.R_drew)); exact (Kd.R_mono (Kd.R_mono (Kd.R_far (p := ⟨gb308, 5, none⟩) (Kd.R_far (p := ⟨gb308, 4, none⟩) (Kd.R_far (p := ⟨gb308, 3, none⟩) (Kd.R_far (p := ⟨gb308, 2, none⟩) (Kd.R_far (p := ⟨gb308, 1, none⟩) (Kd.R_far (p := ⟨gb308, 0, none⟩) (Kd.R_far (p := ⟨gb325, 5, none⟩) (Kd.R_far (p := ⟨gb325, 4, none⟩) (Kd.R_far (p := ⟨gb325, 3, none⟩) (Kd.R_far (p := ⟨gb325, 2, none⟩) (Kd.R_far (p := ⟨gb325, 1, none⟩) (Kd.R_far (p := ⟨gb325, 0, none⟩) (Kd.R_types (Kd.R_types HO317.out BK325.out (by decide)) BK308.out (by decide)) (fun _ hk => hk.1.2) (.int .i64 t313)) (fun _ hk => hk.1.2) (.int .u8 t314)) (fun _ hk => hk.1.2) (.slice Ao35 t315.length co35)) (fun _ hk => hk.1.2) (.int .i64 t318)) (fun _ hk => hk.1.2) (.int .i64 t319)) (fun _ hk => hk.1.2) (.int .i64 t320)) (fun _ hk => hk.2) (.int .i64 t313)) (fun _ hk => hk.2) (.int .u8 t314)) (fun _ hk => hk.2) (.slice Ao35 t315.length co35)) (fun _ hk => hk.2) (.int .i64 t318)) (fun _ hk => hk.2) (.int .i64 t319)) (fun _ hk => hk.2) (.int .i64 t320)) (fun _ h_ => h_.1)) (fun _ h_ => h_.1)))) k_ hk, Kd.fresh' (Kd.R_lt (by (with_reducible repeat (first | apply Kd.R_alloc | apply Kd.R_drewN | apply Kd.R_drew)); exact (Kd.R_mono (Kd.R_mono (Kd.R_far (p := ⟨gb308, 5, none⟩) (Kd.R_far (p := ⟨gb308, 4, none⟩) (Kd.R_far (p := ⟨gb308, 3, none⟩) (Kd.R_far (p := ⟨gb308, 2, none⟩) (Kd.R_far (p := ⟨gb308, 1, none⟩) (Kd.R_far (p := ⟨gb308, 0, none⟩) (Kd.R_far (p := ⟨gb325, 5, none⟩) (Kd.R_far (p := ⟨gb325, 4, none⟩) (Kd.R_far (p := ⟨gb325, 3, none⟩) (Kd.R_far (p := ⟨gb325, 2, none⟩) (Kd.R_far (p := ⟨gb325, 1, none⟩) (Kd.R_far (p := ⟨gb325, 0, none⟩) (Kd.R_types (Kd.R_types HO323.out BK325.out (by decide)) BK308.out (by decide)) (fun _ hk => hk.1.2) (.int .i64 t313)) (fun _ hk => hk.1.2) (.int .u8 t314)) (fun _ hk => hk.1.2) (.slice Ao35 t315.length co35)) (fun _ hk => hk.1.2) (.int .i64 t318)) (fun _ hk => hk.1.2) (.int .i64 t319)) (fun _ hk => hk.1.2) (.int .i64 t320)) (fun _ hk => hk.2) (.int .i64 t313)) (fun _ hk => hk.2) (.int .u8 t314)) (fun _ hk => hk.2) (.slice Ao35 t315.length co35)) (fun _ hk => hk.2) (.int .i64 t318)) (fun _ hk => hk.2) (.int .i64 t319)) (fun _ hk => hk.2) (.int .i64 t320)) (fun _ h_ => h_.1)) (fun _ h_ => h_.1)))) k_ hk⟩)); (case aO => exact (by (with_reducible repeat (first | apply Kd.R_alloc | apply Kd.R_drewN | apply Kd.R_drew)); exact Kd.R_mono (Kd.R_far (p := ⟨gb308, 5, none⟩) (Kd.R_far (p := ⟨gb308, 4, none⟩) (Kd.R_far (p := ⟨gb308, 3, none⟩) (Kd.R_far (p := ⟨gb308, 2, none⟩) (Kd.R_far (p := ⟨gb308, 1, none⟩) (Kd.R_far (p := ⟨gb308, 0, none⟩) (Kd.R_far (p := ⟨gb325, 5, none⟩) (Kd.R_far (p := ⟨gb325, 4, none⟩) (Kd.R_far (p := ⟨gb325, 3, none⟩) (Kd.R_far (p := ⟨gb325, 2, none⟩) (Kd.R_far (p := ⟨gb325, 1, none⟩) (Kd.R_far (p := ⟨gb325, 0, none⟩) (Kd.R_types (Kd.R_types HO_8.out BK325.out (by decide)) BK308.out (by decide)) (fun _ hk => hk.1.2) (.int .i64 t313)) (fun _ hk => hk.1.2) (.int .u8 t314)) (fun _ hk => hk.1.2) (.slice Ao35 t315.length co35)) (fun _ hk => hk.1.2) (.int .i64 t318)) (fun _ hk => hk.1.2) (.int .i64 t319)) (fun _ hk => hk.1.2) (.int .i64 t320)) (fun _ hk => hk.2) (.int .i64 t313)) (fun _ hk => hk.2) (.int .u8 t314)) (fun _ hk => hk.2) (.slice Ao35 t315.length co35)) (fun _ hk => hk.2) (.int .i64 t318)) (fun _ hk => hk.2) (.int .i64 t319)) (fun _ hk => hk.2) (.int .i64 t320)) (fun _ hk => ⟨hk.1.1.2.2.2.1, ⟨hk.1.1.2.2.2.2, ⟨hk.1.1.2.2.1, ⟨hk.1.1.1, hk.1.1.2.1⟩⟩⟩⟩))); (case aS => exact (below_size (by repeat (first | (with_reducible first | exact HB.out | apply below_alloc | apply pw_below_drewN | apply below_drew1 | refine below_set ?_ GE308.out | refine below_set ?_ GE325.out) | exact HB.out)))); (case aL => have := LMc25.out; omega); intro v327 w43 ho hb hg hat; rw [← Ny326.out] at ho; have n0_ := Aside0.mk (Kd.R_after (ok := (fun k_ => some k_ ≠ (v298 : Value).ownBlock ∧ some k_ ≠ (.slice Ao27 x309002_2.length co27 : Value).ownBlock ∧ some k_ ≠ (.slice Ao35 t315.length co35 : Value).ownBlock ∧ some k_ ≠ (.slice Ao44 t321.length co44 : Value).ownBlock)) (by (with_reducible repeat (first | apply Kd.R_alloc | apply Kd.R_drewN | apply Kd.R_drew)); exact Kd.R_mono (Kd.R_far (p := ⟨gb308, 5, none⟩) (Kd.R_far (p := ⟨gb308, 4, none⟩) (Kd.R_far (p := ⟨gb308, 3, none⟩) (Kd.R_far (p := ⟨gb308, 2, none⟩) (Kd.R_far (p := ⟨gb308, 1, none⟩) (Kd.R_far (p := ⟨gb308, 0, none⟩) (Kd.R_far (p := ⟨gb325, 5, none⟩) (Kd.R_far (p := ⟨gb325, 4, none⟩) (Kd.R_far (p := ⟨gb325, 3, none⟩) (Kd.R_far (p := ⟨gb325, 2, none⟩) (Kd.R_far (p := ⟨gb325, 1, none⟩) (Kd.R_far (p := ⟨gb325, 0, none⟩) (Kd.R_types (Kd.R_types HO_5.out BK325.out (by decide)) BK308.out (by decide)) (fun _ hk => hk.1.2) (.int .i64 t313)) (fun _ hk => hk.1.2) (.int .u8 t314)) (fun _ hk => hk.1.2) (.slice Ao35 t315.length co35)) (fun _ hk => hk.1.2) (.int .i64 t318)) (fun _ hk => hk.1.2) (.int .i64 t319)) (fun _ hk => hk.1.2) (.int .i64 t320)) (fun _ hk => hk.2) (.int .i64 t313)) (fun _ hk => hk.2) (.int .u8 t314)) (fun _ hk => hk.2) (.slice Ao35 t315.length co35)) (fun _ hk => hk.2) (.int .i64 t318)) (fun _ hk => hk.2) (.int .i64 t319)) (fun _ hk => hk.2) (.int .i64 t320)) (fun _ hk => ⟨⟨hk.1.1.2.2.2.1, ⟨hk.1.1.2.2.1, ⟨hk.1.1.1, hk.1.1.2.1⟩⟩⟩, hk.1.1.2.2.2.2⟩)) hg hat); have n1_ := Aside0.mk (Kd.R_after (ok := (fun k_ => some k_ ≠ (.slice Ao26 t294.length co26 : Value).ownBlock ∧ some k_ ≠ (.slice Ao27 x309002_2.length co27 : Value).ownBlock ∧ some k_ ≠ (.slice Ao35 t315.length co35 : Value).ownBlock ∧ some k_ ≠ (.slice Ao44 t321.length co44 : Value).ownBlock)) (by (with_reducible repeat (first | apply Kd.R_alloc | apply Kd.R_drewN | apply Kd.R_drew)); exact Kd.R_mono (Kd.R_far (p := ⟨gb308, 5, none⟩) (Kd.R_far (p := ⟨gb308, 4, none⟩) (Kd.R_far (p := ⟨gb308, 3, none⟩) (Kd.R_far (p := ⟨gb308, 2, none⟩) (Kd.R_far (p := ⟨gb308, 1, none⟩) (Kd.R_far (p := ⟨gb308, 0, none⟩) (Kd.R_far (p := ⟨gb325, 5, none⟩) (Kd.R_far (p := ⟨gb325, 4, none⟩) (Kd.R_far (p := ⟨gb325, 3, none⟩) (Kd.R_far (p := ⟨gb325, 2, none⟩) (Kd.R_far (p := ⟨gb325, 1, none⟩) (Kd.R_far (p := ⟨gb325, 0, none⟩) (Kd.R_types (Kd.R_types HO_6.out BK325.out (by decide)) BK308.out (by decide)) (fun _ hk => hk.1.2) (.int .i64 t313)) (fun _ hk => hk.1.2) (.int .u8 t314)) (fun _ hk => hk.1.2) (.slice Ao35 t315.length co35)) (fun _ hk => hk.1.2) (.int .i64 t318)) (fun _ hk => hk.1.2) (.int .i64 t319)) (fun _ hk => hk.1.2) (.int .i64 t320)) (fun _ hk => hk.2) (.int .i64 t313)) (fun _ hk => hk.2) (.int .u8 t314)) (fun _ hk => hk.2) (.slice Ao35 t315.length co35)) (fun _ hk => hk.2) (.int .i64 t318)) (fun _ hk => hk.2) (.int .i64 t319)) (fun _ hk => hk.2) (.int .i64 t320)) (fun _ hk => ⟨⟨hk.1.1.2.2.2.1, ⟨hk.1.1.2.2.1, ⟨hk.1.1.1, hk.1.1.2.1⟩⟩⟩, hk.1.1.2.2.2.2⟩)) hg hat); have n2_ := Aside0.mk (Kd.R_after (ok := (fun k_ => some k_ ≠ (.slice Ao26 t294.length co26 : Value).ownBlock ∧ some k_ ≠ (v298 : Value).ownBlock ∧ some k_ ≠ (.slice Ao35 t315.length co35 : Value).ownBlock ∧ some k_ ≠ (.slice Ao44 t321.length co44 : Value).ownBlock)) (by (with_reducible repeat (first | apply Kd.R_alloc | apply Kd.R_drewN | apply Kd.R_drew)); exact Kd.R_mono (Kd.R_far (p := ⟨gb308, 5, none⟩) (Kd.R_far (p := ⟨gb308, 4, none⟩) (Kd.R_far (p := ⟨gb308, 3, none⟩) (Kd.R_far (p := ⟨gb308, 2, none⟩) (Kd.R_far (p := ⟨gb308, 1, none⟩) (Kd.R_far (p := ⟨gb308, 0, none⟩) (Kd.R_far (p := ⟨gb325, 5, none⟩) (Kd.R_far (p := ⟨gb325, 4, none⟩) (Kd.R_far (p := ⟨gb325, 3, none⟩) (Kd.R_far (p := ⟨gb325, 2, none⟩) (Kd.R_far (p := ⟨gb325, 1, none⟩) (Kd.R_far (p := ⟨gb325, 0, none⟩) (Kd.R_types (Kd.R_types HO_309002.out BK325.out (by decide)) BK308.out (by decide)) (fun _ hk => hk.1.2) (.int .i64 t313)) (fun _ hk => hk.1.2) (.int .u8 t314)) (fun _ hk => hk.1.2) (.slice Ao35 t315.length co35)) (fun _ hk => hk.1.2) (.int .i64 t318)) (fun _ hk => hk.1.2) (.int .i64 t319)) (fun _ hk => hk.1.2) (.int .i64 t320)) (fun _ hk => hk.2) (.int .i64 t313)) (fun _ hk => hk.2) (.int .u8 t314)) (fun _ hk => hk.2) (.slice Ao35 t315.length co35)) (fun _ hk => hk.2) (.int .i64 t318)) (fun _ hk => hk.2) (.int .i64 t319)) (fun _ hk => hk.2) (.int .i64 t320)) (fun _ hk => ⟨⟨hk.1.1.2.2.1, ⟨hk.1.1.2.2.2.1, ⟨hk.1.1.1, hk.1.1.2.1⟩⟩⟩, hk.1.1.2.2.2.2⟩)) hg hat); have n3_ := Aside0.mk (blk_grown (g := gb308) (o := .cells #[.int .i64 t313, .int .u8 t314, .slice Ao35 t315.length co35, .int .i64 t318, .int .i64 t319, .int .i64 t320] 25 (0, 0)) (by (with_reducible repeat (first | refine blk_drewN ?_ _ | refine blk_drew ?_ | refine blk_alloc ?_ _)); refine blk_put (cs := #[.int .i64 t313, .int .u8 t314, .slice Ao35 t315.length co35, .int .i64 t318, .int .i64 t319, .int .i64 x309005_2]) ?_ 5 _ rfl; (with_reducible repeat (first | refine blk_drewN ?_ _ | refine blk_drew ?_ | refine blk_alloc ?_ _)); refine blk_put (cs := #[.int .i64 t313, .int .u8 t314, .slice Ao35 t315.length co35, .int .i64 t318, .int .i64 x309004_2, .int .i64 x309005_2]) ?_ 4 _ rfl; (with_reducible repeat (first | refine blk_drewN ?_ _ | refine blk_drew ?_ | refine blk_alloc ?_ _)); refine blk_put (cs := #[.int .i64 t313, .int .u8 t314, .slice Ao35 t315.length co35, .int .i64 x309003_2, .int .i64 x309004_2, .int .i64 x309005_2]) ?_ 3 _ rfl; (with_reducible repeat (first | refine blk_drewN ?_ _ | refine blk_drew ?_ | refine blk_alloc ?_ _)); refine blk_put (cs := #[.int .i64 t313, .int .u8 t314, .slice Ao27 x309002_2.length co27, .int .i64 x309003_2, .int .i64 x309004_2, .int .i64 x309005_2]) ?_ 2 _ rfl; (with_reducible repeat (first | refine blk_drewN ?_ _ | refine blk_drew ?_ | refine blk_alloc ?_ _)); refine blk_put (cs := #[.int .i64 t313, .int .u8 x309001_2, .slice Ao27 x309002_2.length co27, .int .i64 x309003_2, .int .i64 x309004_2, .int .i64 x309005_2]) ?_ 1 _ rfl; (with_reducible repeat (first | refine blk_drewN ?_ _ | refine blk_drew ?_ | refine blk_alloc ?_ _)); refine blk_put (cs := #[.int .i64 x309000_2, .int .u8 x309001_2, .slice Ao27 x309002_2.length co27, .int .i64 x309003_2, .int .i64 x309004_2, .int .i64 x309005_2]) ?_ 0 _ rfl; (with_reducible repeat (first | refine blk_drewN ?_ _ | refine blk_drew ?_ | refine blk_alloc ?_ _)); refine blk_far ?_ NB308_325.out _; (with_reducible repeat (first | refine blk_drewN ?_ _ | refine blk_drew ?_ | refine blk_alloc ?_ _)); refine blk_far ?_ NB308_325.out _; (with_reducible repeat (first | refine blk_drewN ?_ _ | refine blk_drew ?_ | refine blk_alloc ?_ _)); refine blk_far ?_ NB308_325.out _; (with_reducible repeat (first | refine blk_drewN ?_ _ | refine blk_drew ?_ | refine blk_alloc ?_ _)); refine blk_far ?_ NB308_325.out _; (with_reducible repeat (first | refine blk_drewN ?_ _ | refine blk_drew ?_ | refine blk_alloc ?_ _)); refine blk_far ?_ NB308_325.out _; (with_reducible repeat (first | refine blk_drewN ?_ _ | refine blk_drew ?_ | refine blk_alloc ?_ _)); refine blk_far ?_ NB308_325.out _; (with_reducible repeat (first | refine blk_drewN ?_ _ | refine blk_drew ?_ | refine blk_alloc ?_ _)); exact BK308.out) hg (Kd.R_ne HO_8.out BK308.out (by decide))); have n4_ := Aside0.mk (Kd.R_after (ok := (fun k_ => some k_ ≠ (.slice Ao26 t294.length co26 : Value).ownBlock ∧ some k_ ≠ (v298 : Value).ownBlock ∧ some k_ ≠ (.slice Ao27 x309002_2.length co27 : Value).ownBlock ∧ some k_ ≠ (.slice Ao44 t321.length co44 : Value).ownBlock)) (by (with_reducible repeat (first | apply Kd.R_alloc | apply Kd.R_drewN | apply Kd.R_drew)); exact Kd.R_mono (Kd.R_far (p := ⟨gb308, 5, none⟩) (Kd.R_far (p := ⟨gb308, 4, none⟩) (Kd.R_far (p := ⟨gb308, 3, none⟩) (Kd.R_far (p := ⟨gb308, 2, none⟩) (Kd.R_far (p := ⟨gb308, 1, none⟩) (Kd.R_far (p := ⟨gb308, 0, none⟩) (Kd.R_far (p := ⟨gb325, 5, none⟩) (Kd.R_far (p := ⟨gb325, 4, none⟩) (Kd.R_far (p := ⟨gb325, 3, none⟩) (Kd.R_far (p := ⟨gb325, 2, none⟩) (Kd.R_far (p := ⟨gb325, 1, none⟩) (Kd.R_far (p := ⟨gb325, 0, none⟩) (Kd.R_types (Kd.R_types HO317.out BK325.out (by decide)) BK308.out (by decide)) (fun _ hk => hk.1.2) (.int .i64 t313)) (fun _ hk => hk.1.2) (.int .u8 t314)) (fun _ hk => hk.1.2) (.slice Ao35 t315.length co35)) (fun _ hk => hk.1.2) (.int .i64 t318)) (fun _ hk => hk.1.2) (.int .i64 t319)) (fun _ hk => hk.1.2) (.int .i64 t320)) (fun _ hk => hk.2) (.int .i64 t313)) (fun _ hk => hk.2) (.int .u8 t314)) (fun _ hk => hk.2) (.slice Ao35 t315.length co35)) (fun _ hk => hk.2) (.int .i64 t318)) (fun _ hk => hk.2) (.int .i64 t319)) (fun _ hk => hk.2) (.int .i64 t320)) (fun _ hk => ⟨⟨hk.1.1.2.2.1, ⟨hk.1.1.2.2.2.1, ⟨hk.1.1.2.1, hk.1.1.1⟩⟩⟩, hk.1.1.2.2.2.2⟩)) hg hat); have n5_ := Aside0.mk (Kd.R_after (ok := (fun k_ => some k_ ≠ (.slice Ao26 t294.length co26 : Value).ownBlock ∧ some k_ ≠ (v298 : Value).ownBlock ∧ some k_ ≠ (.slice Ao27 x309002_2.length co27 : Value).ownBlock ∧ some k_ ≠ (.slice Ao35 t315.length co35 : Value).ownBlock)) (by (with_reducible repeat (first | apply Kd.R_alloc | apply Kd.R_drewN | apply Kd.R_drew)); exact Kd.R_mono (Kd.R_far (p := ⟨gb308, 5, none⟩) (Kd.R_far (p := ⟨gb308, 4, none⟩) (Kd.R_far (p := ⟨gb308, 3, none⟩) (Kd.R_far (p := ⟨gb308, 2, none⟩) (Kd.R_far (p := ⟨gb308, 1, none⟩) (Kd.R_far (p := ⟨gb308, 0, none⟩) (Kd.R_far (p := ⟨gb325, 5, none⟩) (Kd.R_far (p := ⟨gb325, 4, none⟩) (Kd.R_far (p := ⟨gb325, 3, none⟩) (Kd.R_far (p := ⟨gb325, 2, none⟩) (Kd.R_far (p := ⟨gb325, 1, none⟩) (Kd.R_far (p := ⟨gb325, 0, none⟩) (Kd.R_types (Kd.R_types HO323.out BK325.out (by decide)) BK308.out (by decide)) (fun _ hk => hk.1.2) (.int .i64 t313)) (fun _ hk => hk.1.2) (.int .u8 t314)) (fun _ hk => hk.1.2) (.slice Ao35 t315.length co35)) (fun _ hk => hk.1.2) (.int .i64 t318)) (fun _ hk => hk.1.2) (.int .i64 t319)) (fun _ hk => hk.1.2) (.int .i64 t320)) (fun _ hk => hk.2) (.int .i64 t313)) (fun _ hk => hk.2) (.int .u8 t314)) (fun _ hk => hk.2) (.slice Ao35 t315.length co35)) (fun _ hk => hk.2) (.int .i64 t318)) (fun _ hk => hk.2) (.int .i64 t319)) (fun _ hk => hk.2) (.int .i64 t320)) (fun _ hk => ⟨⟨hk.1.1.2.2.1, ⟨hk.1.1.2.2.2.1, ⟨hk.1.1.2.1, hk.1.1.1⟩⟩⟩, hk.1.1.2.2.2.2⟩)) hg hat); have n6_ := Aside0.mk (blk_grown (g := gb325) (o := .cells #[.int .i64 t313, .int .u8 t314, .slice Ao35 t315.length co35, .int .i64 t318, .int .i64 t319, .int .i64 t320] 25 (0, 0)) (by (with_reducible repeat (first | refine blk_drewN ?_ _ | refine blk_drew ?_ | refine blk_alloc ?_ _)); refine blk_far ?_ NB325_308.out _; (with_reducible repeat (first | refine blk_drewN ?_ _ | refine blk_drew ?_ | refine blk_alloc ?_ _)); refine blk_far ?_ NB325_308.out _; (with_reducible repeat (first | refine blk_drewN ?_ _ | refine blk_drew ?_ | refine blk_alloc ?_ _)); refine blk_far ?_ NB325_308.out _; (with_reducible repeat (first | refine blk_drewN ?_ _ | refine blk_drew ?_ | refine blk_alloc ?_ _)); refine blk_far ?_ NB325_308.out _; (with_reducible repeat (first | refine blk_drewN ?_ _ | refine blk_drew ?_ | refine blk_alloc ?_ _)); refine blk_far ?_ NB325_308.out _; (with_reducible repeat (first | refine blk_drewN ?_ _ | refine blk_drew ?_ | refine blk_alloc ?_ _)); refine blk_far ?_ NB325_308.out _; (with_reducible repeat (first | refine blk_drewN ?_ _ | refine blk_drew ?_ | refine blk_alloc ?_ _)); refine blk_put (cs := #[.int .i64 t313, .int .u8 t314, .slice Ao35 t315.length co35, .int .i64 t318, .int .i64 t319, .int .i64 0]) ?_ 5 _ rfl; (with_reducible repeat (first | refine blk_drewN ?_ _ | refine blk_drew ?_ | refine blk_alloc ?_ _)); refine blk_put (cs := #[.int .i64 t313, .int .u8 t314, .slice Ao35 t315.length co35, .int .i64 t318, .int .i64 0, .int .i64 0]) ?_ 4 _ rfl; (with_reducible repeat (first | refine blk_drewN ?_ _ | refine blk_drew ?_ | refine blk_alloc ?_ _)); refine blk_put (cs := #[.int .i64 t313, .int .u8 t314, .slice Ao35 t315.length co35, .int .i64 0, .int .i64 0, .int .i64 0]) ?_ 3 _ rfl; (with_reducible repeat (first | refine blk_drewN ?_ _ | refine blk_drew ?_ | refine blk_alloc ?_ _)); refine blk_put (cs := #[.int .i64 t313, .int .u8 t314, .slice none 0 0, .int .i64 0, .int .i64 0, .int .i64 0]) ?_ 2 _ rfl; (with_reducible repeat (first | refine blk_drewN ?_ _ | refine blk_drew ?_ | refine blk_alloc ?_ _)); refine blk_put (cs := #[.int .i64 t313, .int .u8 0, .slice none 0 0, .int .i64 0, .int .i64 0, .int .i64 0]) ?_ 1 _ rfl; (with_reducible repeat (first | refine blk_drewN ?_ _ | refine blk_drew ?_ | refine blk_alloc ?_ _)); refine blk_put (cs := #[.int .i64 0, .int .u8 0, .slice none 0 0, .int .i64 0, .int .i64 0, .int .i64 0]) ?_ 0 _ rfl; (with_reducible repeat (first | refine blk_drewN ?_ _ | refine blk_drew ?_ | refine blk_alloc ?_ _)); exact BK325.out) hg (Kd.R_ne HO_8.out BK325.out (by decide))); have n7_ := Aside0.mk (hb); have n8_ := Aside0.mk (ho); clear HO_5; clear HO_6; clear HO_309002; clear BK308; clear HO317; clear HO323; clear BK325; clear HB; clear HO_8; have HO_5 := n0_; have HO_6 := n1_; have HO_309002 := n2_; have BK308 := n3_; have HO317 := n4_; have HO323 := n5_; have BK325 := n6_; have HB := n7_; have HO328 := n8_; clear n0_ n1_ n2_ n3_ n4_ n5_ n6_ n7_ n8_; clear ho hb hg hat))
                      go_roundg k2
                      case measure => have := HJ2.out; have := HK2.out; omega
                      case rel => exact ⟨(y326), (wrap64 (x9_2 + 1)), (t313), (t314), (t315), (t318), (t319), (t320), (.slice Ao35 t315.length co35), (by first | rfl | (simp; done) | (simp [*]; done)), H', ⟨by have := HJ2.out; have := HK2.out; omega⟩, ⟨by (with_reducible repeat (first | apply Kd.R_alloc | apply Kd.R_drewN | apply Kd.R_drew)); exact Kd.R_mono HO_5.out (fun _ hk => ⟨hk.1.1, ⟨hk.2, hk.1.2.2.1⟩⟩)⟩, ⟨by (with_reducible repeat (first | apply Kd.R_alloc | apply Kd.R_drewN | apply Kd.R_drew)); exact Kd.R_mono HO_6.out (fun _ hk => ⟨hk.1.1, ⟨hk.2, hk.1.2.2.1⟩⟩)⟩, ⟨by (with_reducible repeat (first | apply Kd.R_alloc | apply Kd.R_drewN | apply Kd.R_drew)); exact Kd.R_mono HO328.out (fun _ hk => ⟨hk.1, ⟨hk.2.1, hk.2.2.2.1⟩⟩)⟩, ⟨by (with_reducible repeat (first | apply Kd.R_alloc | apply Kd.R_drewN | apply Kd.R_drew)); exact Kd.R_mono HO317.out (fun _ hk => ⟨hk.1.1, ⟨hk.1.2.1, hk.2⟩⟩)⟩, ⟨by (with_reducible repeat (first | refine blk_drewN ?_ _ | refine blk_drew ?_ | refine blk_alloc ?_ _)); exact BK308.out⟩, ⟨by repeat (first | (with_reducible first | exact HB.out | apply below_alloc | apply pw_below_drewN | apply below_drew1 | refine below_set ?_ GE308.out | refine below_set ?_ GE325.out) | exact HB.out)⟩⟩
                    · rw [if_neg c25] at H
                      exact absurd H (by simp)
                  · rw [if_neg c23] at H
                    exact absurd H (by simp)
                · rw [if_neg c22] at H
                  exact absurd H (by simp)
              · rw [if_neg c21] at H
                exact absurd H (by simp)
            · rw [if_neg c20] at H
              have c20b0 : decide (x9_2 < (t294.length : Int)) = false := decide_eq_false c20
              clear c20
              obtain ⟨ji45, hji45⟩ : ∃ j_ : Int, (mx a1 0) = j_ := ⟨_, rfl⟩
              replace H : (if (t297.length : Int) > (ji45) then (if x309005_2 = 11 then (if (x8_2.length : Int) = (wrap64 ((wrap64 ((ji45) / 8)) * 8)) then (if 0 ≤ (x8_2.length : Int) then (if (x8_2.length : Int) ≤ (t297.length : Int) then ((capnpref01_Same.f k2 x8_2 (t297.take ((x8_2.length : Int) : Int).toNat)).bind fun t333 => (some t333)) else (none)) else (none)) else (none)) else (none)) else ((unpackstream_Close.f k2 x309000_2 x309001_2 x309002_2 x309003_2 x309004_2 x309005_2).bind fun t334 => (if t334 = 0 then ((capnpref01_Same.f k2 x8_2 t297).bind fun t335 => (some t335)) else (none)))) = some r := by first | (rw [hji45] at H; exact H) | (simp only [hji45] at H ⊢; exact H)
              have hji45_ : (if a1 < 0 then 0 else a1) = ji45 := hji45
              have hji45d : Int.tdiv ji45 8 = ji45 / 8 := Int.tdiv_eq_ediv_of_nonneg (by rw [← hji45]; unfold mx; split <;> omega)
              by_cases c46 : (t297.length : Int) > (ji45)
              · rw [if_pos c46] at H
                have c46b0 : decide ((ji45) < (t297.length : Int)) = true := decide_eq_true c46
                clear c46
                by_cases c47 : x309005_2 = 11
                · rw [if_pos c47] at H
                  have c47b0 : (x309005_2 == 11) = true := beq_iff_eq.mpr c47
                  have c47b1 : (x309005_2 != 11) = false := bne_eq_false_iff_eq.mpr c47
                  clear c47
                  by_cases c49 : (x8_2.length : Int) = (wrap64 ((wrap64 ((ji45) / 8)) * 8))
                  · rw [if_pos c49] at H
                    have c49b0 : ((x8_2.length : Int) == (wrap64 ((wrap64 ((ji45) / 8)) * 8))) = true := beq_iff_eq.mpr c49
                    have c49b1 : ((x8_2.length : Int) != (wrap64 ((wrap64 ((ji45) / 8)) * 8))) = false := bne_eq_false_iff_eq.mpr c49
                    clear c49
                    by_cases c50 : 0 ≤ (x8_2.length : Int)
                    · rw [if_pos c50] at H
                      have c50b0 := eq_true c50
                      have c50b1 : decide (0 ≤ (x8_2.length : Int)) = true := decide_eq_true c50
                      clear c50
                      by_cases c51 : (x8_2.length : Int) ≤ (t297.length : Int)
                      · rw [if_pos c51] at H
                        have c51b0 := eq_true c51
                        have c51b1 : decide ((x8_2.length : Int) ≤ (t297.length : Int)) = true := decide_eq_true c51
                        clear c51
                        obtain ⟨y329, hy329⟩ : ∃ y_ : List Int, y_ = (t297.take ((x8_2.length : Int) : Int).toNat) := ⟨_, rfl⟩
                        replace H : ((capnpref01_Same.f k2 x8_2 y329).bind fun t333 => (some t333)) = some r := by first | (rw [hy329]; with_reducible exact H) | (have H2_ := (Option.bind_some _ _).symm.trans H; rw [hy329]; with_reducible exact H2_) | (have H2_ := (Option.bind_some _ _).symm.trans H; with_reducible exact H2_) | with_reducible exact H | (rw [hy329]; exact H) | exact H
                        have Ny329 := Aside0.mk hy329
                        clear hy329
                        replace H := Option.bind_eq_some_iff.mp H
                        obtain ⟨t333, A520, H⟩ := H
                        replace H : (some t333) = some r := H
                        have A52 := Aside0.mk A520
                        clear A520
                        obtain rfl := Option.some.inj H
                        obtain ⟨Ao53, co53, eo53⟩ := Kd.R_slice HO_5.out
                        subst eo53
                        obtain ⟨Ao54, co54, eo54⟩ := Kd.R_slice HO_6.out
                        subst eo54
                        have hcz55_0 : wr.cell? ⟨gb308, 0, none⟩ = some (.int .i64 x309000_2) := (blk_cell BK308.out 0).trans rfl
                        have hcz55_1 : wr.cell? ⟨gb308, 1, none⟩ = some (.int .u8 x309001_2) := (blk_cell BK308.out 1).trans rfl
                        have hcz55_2 : wr.cell? ⟨gb308, 2, none⟩ = some (u309002) := (blk_cell BK308.out 2).trans rfl
                        have hcz55_3 : wr.cell? ⟨gb308, 3, none⟩ = some (.int .i64 x309003_2) := (blk_cell BK308.out 3).trans rfl
                        have hcz55_4 : wr.cell? ⟨gb308, 4, none⟩ = some (.int .i64 x309004_2) := (blk_cell BK308.out 4).trans rfl
                        have hcz55_5 : wr.cell? ⟨gb308, 5, none⟩ = some (.int .i64 x309005_2) := (blk_cell BK308.out 5).trans rfl
                        have hfz55_0 := blk_frozen BK308.out 0
                        have hfz55_1 := blk_frozen BK308.out 1
                        have hfz55_2 := blk_frozen BK308.out 2
                        have hfz55_3 := blk_frozen BK308.out 3
                        have hfz55_4 := blk_frozen BK308.out 4
                        have hfz55_5 := blk_frozen BK308.out 5
                        obtain ⟨Ao56, co56, eo56⟩ := Kd.R_slice HO_8.out
                        subst eo56
                        have q57 : ((x8_2.length : Int) : Int) ≤ ((t297.length : Int) : Int) := of_decide_eq_true (by first | (with_reducible assumption) | assumption)
                        obtain ⟨i057, hi057, _, hsz57, _⟩ := info_parts info5
                        have hroom57 : t297.length ≤ co54 := (Kd.R_reads' HO_6.out).2.1
                        have hC57 : Kd.C (Kd.int .u8) _ Ao54 t297.length t297 := (Kd.R_reads' HO_6.out).2.2
                        have hcut57 := cut_to (P := Tryd.prog) 22 5 .i64 Tryd.underlying22 hi057 Ao54 t297.length co54 (x8_2.length : Int) (of_decide_eq_true (by first | (with_reducible assumption) | assumption)) q57 hroom57
                        have hr57 := Kd.C_take (m := ((x8_2.length : Int) : Int).toNat) hC57 (by omega)
                        have hy57 : y329.length = ((x8_2.length : Int) : Int).toNat := (by rw [Ny329.out, List.length_take]; omega)
                        rw [← Ny329.out] at hr57
                        rw [← hy57] at hcut57
                        have HR332 := Aside0.mk hr57
                        have HC332 := Aside0.mk (show y329.length ≤ co54 from by omega)
                        clear hr57 hC57 hroom57 hi057 hsz57
                        have KY57 := Aside0.mk hy57
                        clear hy57
                        have KL57 := Aside0.mk (show ((x8_2.length : Int) : Int).toNat ≤ t297.length from by omega)
                        replace q57 := eq_true q57
                        go_wp2_with (first | (go_at_call 14; (with_reducible refine (capnpref01_Same.calls k2 _ _ x8_2 _ _ y329 t333 _ ?side1 ?side2 ?side3 ?side4 A52.out).mono ?_); (case side1 => repeat (first | exact (Kd.R_reads' HO_8.out).2.2 | (with_reducible refine Kd.C_alloc ?_ _) | (with_reducible refine Kd.C_drewN ?_ _) | (with_reducible refine Kd.C_drew ?_))); (case side2 => exact (Kd.R_reads' HO_8.out).2.1); (case side3 => repeat (first | exact (by repeat (first | (with_reducible exact HR332.out) | (with_reducible refine Kd.C_alloc ?_ _) | (with_reducible refine Kd.C_drewN ?_ _) | (with_reducible refine Kd.C_drew ?_) | exact HR332.out)) | (with_reducible refine Kd.C_alloc ?_ _) | (with_reducible refine Kd.C_drewN ?_ _) | (with_reducible refine Kd.C_drew ?_))); (case side4 => exact HC332.out); rintro e w' ⟨rfl, ⟨nd, rfl⟩⟩))
                        go_ret
                        exact ⟨by first | rfl | (simp [errW_none, errW_some] <;> rfl) | (simp only [← hji45]; first | rfl | (simp [errW_none, errW_some] <;> rfl)) | (simp [*, errW_none, errW_some] <;> rfl), by repeat (first | (with_reducible first | exact HB.out | apply below_alloc | apply pw_below_drewN | apply below_drew1 | refine below_set ?_ GE308.out) | exact HB.out)⟩
                      · rw [if_neg c51] at H
                        exact absurd H (by simp)
                    · rw [if_neg c50] at H
                      exact absurd H (by simp)
                  · rw [if_neg c49] at H
                    exact absurd H (by simp)
                · rw [if_neg c47] at H
                  exact absurd H (by simp)
              · rw [if_neg c46] at H
                have c46b0 : decide ((ji45) < (t297.length : Int)) = false := decide_eq_false c46
                clear c46
                replace H := Option.bind_eq_some_iff.mp H
                obtain ⟨t334, A580, H⟩ := H
                replace H : (if t334 = 0 then ((capnpref01_Same.f k2 x8_2 t297).bind fun t335 => (some t335)) else (none)) = some r := H
                have A58 := Aside0.mk A580
                clear A580
                by_cases c59 : t334 = 0
                · rw [if_pos c59] at H
                  have c59b0 : (t334 == 0) = true := beq_iff_eq.mpr c59
                  have c59b1 : (t334 != 0) = false := bne_eq_false_iff_eq.mpr c59
                  clear c59
                  replace H := Option.bind_eq_some_iff.mp H
                  obtain ⟨t335, A600, H⟩ := H
                  replace H : (some t335) = some r := H
                  have A60 := Aside0.mk A600
                  clear A600
                  obtain rfl := Option.some.inj H
                  obtain ⟨Ao61, co61, eo61⟩ := Kd.R_slice HO_5.out
                  subst eo61
                  obtain ⟨Ao62, co62, eo62⟩ := Kd.R_slice HO_6.out
                  subst eo62
                  have hcz63_0 : wr.cell? ⟨gb308, 0, none⟩ = some (.int .i64 x309000_2) := (blk_cell BK308.out 0).trans rfl
                  have hcz63_1 : wr.cell? ⟨gb308, 1, none⟩ = some (.int .u8 x309001_2) := (blk_cell BK308.out 1).trans rfl
                  have hcz63_2 : wr.cell? ⟨gb308, 2, none⟩ = some (u309002) := (blk_cell BK308.out 2).trans rfl
                  have hcz63_3 : wr.cell? ⟨gb308, 3, none⟩ = some (.int .i64 x309003_2) := (blk_cell BK308.out 3).trans rfl
                  have hcz63_4 : wr.cell? ⟨gb308, 4, none⟩ = some (.int .i64 x309004_2) := (blk_cell BK308.out 4).trans rfl
                  have hcz63_5 : wr.cell? ⟨gb308, 5, none⟩ = some (.int .i64 x309005_2) := (blk_cell BK308.out 5).trans rfl
                  have hfz63_0 := blk_frozen BK308.out 0
                  have hfz63_1 := blk_frozen BK308.out 1
                  have hfz63_2 := blk_frozen BK308.out 2
                  have hfz63_3 := blk_frozen BK308.out 3
                  have hfz63_4 := blk_frozen BK308.out 4
                  have hfz63_5 := blk_frozen BK308.out 5
                  obtain ⟨Ao64, co64, eo64⟩ := Kd.R_slice HO_309002.out
                  subst eo64
                  go_wp2_with (first | ((with_reducible refine gate_callee (f := 15) rfl ?_); refine goesL_ (some 74) rfl rfl Tryd.func15 (by kernel_rfl) rfl #[.agg #[.int .i64 x309000_2, .int .u8 x309001_2, .slice Ao64 x309002_2.length co64, .int .i64 x309003_2, .int .i64 x309004_2, .int .i64 x309005_2]] rfl (by (try simp only [List.map_toArray, List.map_cons, List.map_nil]); first | done | rfl | (simp only [List.length_drop, List.length_take]; rfl)) ?_; (with_reducible refine (unpackstream_Close.calls k2 x309000_2 x309001_2 _ _ x309002_2 x309003_2 x309004_2 x309005_2 t334 _ ?side1 ?side2 A58.out).mono ?_); (case side1 => repeat (first | exact (Kd.R_reads' HO_309002.out).2.2 | (with_reducible refine Kd.C_alloc ?_ _) | (with_reducible refine Kd.C_drewN ?_ _) | (with_reducible refine Kd.C_drew ?_))); (case side2 => exact (Kd.R_reads' HO_309002.out).2.1); rintro e w65 ⟨rfl, hb⟩; refine ⟨_, rfl, ?_⟩; have n0_ := Aside0.mk (Kd.R_below (by (with_reducible repeat (first | apply Kd.R_alloc | apply Kd.R_drewN | apply Kd.R_drew)); exact HO_5.out) hb); have n1_ := Aside0.mk (Kd.R_below (by (with_reducible repeat (first | apply Kd.R_alloc | apply Kd.R_drewN | apply Kd.R_drew)); exact HO_6.out) hb); have n2_ := Aside0.mk (Kd.R_below (by (with_reducible repeat (first | apply Kd.R_alloc | apply Kd.R_drewN | apply Kd.R_drew)); exact HO_8.out) hb); have n3_ := Aside0.mk (Kd.R_below (by (with_reducible repeat (first | apply Kd.R_alloc | apply Kd.R_drewN | apply Kd.R_drew)); exact HO_309002.out) hb); have n4_ := Aside0.mk (blk_below (g := gb308) (o := .cells #[.int .i64 x309000_2, .int .u8 x309001_2, .slice Ao64 x309002_2.length co64, .int .i64 x309003_2, .int .i64 x309004_2, .int .i64 x309005_2] 25 (0, 0)) (by (with_reducible repeat (first | refine blk_drewN ?_ _ | refine blk_drew ?_ | refine blk_alloc ?_ _)); exact BK308.out) hb); have n5_ := Aside0.mk (below_step (by repeat (first | (with_reducible first | exact HB.out | apply below_alloc | apply pw_below_drewN | apply below_drew1 | refine below_set ?_ GE308.out) | exact HB.out)) hb); clear HO_5; clear HO_6; clear HO_8; clear HO_309002; clear BK308; clear HB; have HO_5 := n0_; have HO_6 := n1_; have HO_8 := n2_; have HO_309002 := n3_; have BK308 := n4_; have HB := n5_; clear n0_ n1_ n2_ n3_ n4_ n5_; (try clear hb); (try clear hb2); (try clear hk); (try clear hi); obtain ⟨Ao66, co66, eo66⟩ := Kd.R_slice HO_8.out; subst eo66) | (go_at_call 14; (with_reducible refine (capnpref01_Same.calls k2 _ _ x8_2 _ _ t297 t335 _ ?side1 ?side2 ?side3 ?side4 A60.out).mono ?_); (case side1 => repeat (first | exact (Kd.R_reads' HO_8.out).2.2 | (with_reducible refine Kd.C_alloc ?_ _) | (with_reducible refine Kd.C_drewN ?_ _) | (with_reducible refine Kd.C_drew ?_))); (case side2 => exact (Kd.R_reads' HO_8.out).2.1); (case side3 => repeat (first | exact (Kd.R_reads' HO_6.out).2.2 | (with_reducible refine Kd.C_alloc ?_ _) | (with_reducible refine Kd.C_drewN ?_ _) | (with_reducible refine Kd.C_drew ?_))); (case side4 => exact (Kd.R_reads' HO_6.out).2.1); rintro e w' ⟨rfl, ⟨nd, rfl⟩⟩))
                  go_ret
                  exact ⟨by first | rfl | (simp [errW_none, errW_some] <;> rfl) | (simp only [← hji45]; first | rfl | (simp [errW_none, errW_some] <;> rfl)) | (simp [*, errW_none, errW_some] <;> rfl), by repeat (first | (with_reducible first | exact HB.out | apply below_alloc | apply pw_below_drewN | apply below_drew1 | refine below_set ?_ GE308.out) | exact HB.out)⟩
                · rw [if_neg c59] at H
                  exact absurd H (by simp)
/-- THE ONE PURE STATEMENT of capnplaw25_UnpackstreamRoundTrip: yours. -/
def capnplaw25_UnpackstreamRoundTrip.Pure : Prop := ∀ (l0 : List Int) (a1 : Int), l0.length ≤ maxLen → l0.length * 8 ≤ 140737488351232 → (∀ x ∈ l0, (Lit.int .u64 x).wf = true) → (Lit.int .i64 a1).wf = true → ∃ k, capnplaw25_UnpackstreamRoundTrip.f k l0 a1 = some true
theorem capnplaw25_UnpackstreamRoundTrip.walk (P : capnplaw25_UnpackstreamRoundTrip.Pure) (a0 : Option Addr) (len0 cap0 : Nat) (z0 : List Int) (a1 : Int) (w : World) (w0 : (a0 = none ∧ len0 = 0 ∧ cap0 = 0 ∧ z0 = []) ∨ ∃ x, a0 = some x ∧ len0 ≤ cap0 ∧ cap0 ≤ maxLen ∧ z0.length = cap0 ∧ (∀ i, i < z0.length → w.cell? (x.add i) = some (.int .u64 (z0.getD i 0))) ∧ ∀ n ∈ z0, (Lit.int .u64 n).wf = true) (y0 : len0 * 8 ≤ 140737488351232) (w1 : (Lit.int .i64 a1).wf = true) (hL : Go.Proofs.YtpffoecblcfndaaDoor.Us.StepsL w) :
    Calls Tryd.prog 7 #[.slice a0 len0 cap0, .int .i64 a1] w fun e w' => e = .returned (.bool true) ∧ Below w.heap.size w w' := by
  obtain ⟨l0, rfl, hr0, hm0, hw0, hc0⟩ := ReadsInt.ofRowC w0
  obtain ⟨k, h⟩ := P l0 a1 hm0 y0 hw0 w1
  refine (capnplaw25_UnpackstreamRoundTrip.calls k _ _ l0 a1 true w (Kd.C_of_reads (d := (0 : Int)) (h1 := fun _ => rfl) hr0) hc0 h hL).mono ?_
  rintro e w' ⟨rfl, hd⟩
  exact ⟨rfl, hd⟩
end Go.Proofs.YtpffoecblcfndaaDoor.PUnpackstreamRoundTrip
