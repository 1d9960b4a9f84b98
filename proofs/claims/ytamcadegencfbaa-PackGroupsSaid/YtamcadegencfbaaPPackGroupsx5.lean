/- Written by myprint.py, a program of this session: printed functions of a law, and the proofs that the Go code comes to them. -/
import Derived.Test.YtamcadegencfbaaPPackGroupsx0
import Derived.Test.YtamcadegencfbaaPPackGroupsx1
import Derived.Test.YtamcadegencfbaaPPackGroupsx3
import Derived.Test.YtamcadegencfbaaPPackGroupsx4
namespace Go.Proofs.Ytamcadegencfbaa.PPackGroups
open Go.RowKit Go.Proofs.YtamcadegencfbaaW.PrintWords Go.Proofs.YtamcadegencfbaaW.PrintLast Go.Proofs.YtamcadegencfbaaW.PrintMore
attribute [local go_sem] max2_int min2_int max_two min_two max_three min_three max_four min_four   -- for this text's walks alone
set_option linter.unusedVariables false
set_option linter.unusedSimpArgs false

/-! ### capnplaw21_PackGroups: function 10 -/
mutual
def capnplaw21_PackGroups.j0 : Nat → Int → List Int → Bool → Option (Bool)
  | 0, _, _, _ => none
  | k + 1, x0, x1, x14 => if x14 = true then ((capnplaw21_awake.f k).bind fun t251 => (some t251)) else ((some (([x0] : List Int) : List Int)).bind fun y252 => (if y252.length + x1.length < 17592186044416 then ((pack_Words.f k (y252 ++ x1)).bind fun t258 => ((capnpref20_Of.f k x0).bind fun t261 => (if (t258.length : Int) = 0 then (capnplaw21_PackGroups.j1 k x0 x1 t258 t261 true) else (if 0 < (t258.length : Int) then (capnplaw21_PackGroups.j1 k x0 x1 t258 t261 ((rd t258 0) != t261)) else (none))))) else (none)))
def capnplaw21_PackGroups.j1 : Nat → Int → List Int → List Int → Int → Bool → Option (Bool)
  | 0, _, _, _, _, _ => none
  | k + 1, x0, x1, x5, x6, x32 => if x32 = true then (some false) else (if x6 = 0 then (capnplaw21_PackGroups.j2 k x0 x1 x5 true) else (capnplaw21_PackGroups.j2 k x0 x1 x5 (x6 == 255)))
def capnplaw21_PackGroups.j2 : Nat → Int → List Int → List Int → Bool → Option (Bool)
  | 0, _, _, _, _ => none
  | k + 1, x0, x1, x5, x38 => if x38 = true then (some (decide ((x5.length : Int) ≥ 2))) else ((capnpref20_Bytes.f k x0).bind fun t263 => (if (x5.length : Int) < (wrap64 (1 + (t263.length : Int))) then (some false) else (if 1 ≤ (wrap64 (1 + (t263.length : Int))) then (if (wrap64 (1 + (t263.length : Int))) ≤ (x5.length : Int) then ((capnpref01_Same.f k ((x5.take ((wrap64 (1 + (t263.length : Int))) : Int).toNat).drop 1) t263).bind fun t270 => (if t270 = true then (if 0 ≤ (wrap64 (1 + (t263.length : Int))) then ((pack_Words.f k x1).bind fun t275 => ((capnpref01_Same.f k (x5.drop ((wrap64 (1 + (t263.length : Int))) : Int).toNat) t275).bind fun t278 => (some t278))) else (none)) else (none))) else (none)) else (none))))
end
def capnplaw21_PackGroups.f (k : Nat) (a0 : Int) (l1 : List Int) : Option (Bool) := (capnplaw21_awake.f k).bind fun t250 => (if t250 = true then (capnplaw21_PackGroups.j0 k a0 l1 (decide ((l1.length : Int) > 600))) else (capnplaw21_PackGroups.j0 k a0 l1 true))
theorem capnplaw21_PackGroups.mono_l : ∀ k, (∀ y0 y1 y2, LeO (capnplaw21_PackGroups.j0 k y0 y1 y2) (capnplaw21_PackGroups.j0 (k + 1) y0 y1 y2)) ∧ (∀ y0 y1 y2 y3 y4, LeO (capnplaw21_PackGroups.j1 k y0 y1 y2 y3 y4) (capnplaw21_PackGroups.j1 (k + 1) y0 y1 y2 y3 y4)) ∧ (∀ y0 y1 y2 y3, LeO (capnplaw21_PackGroups.j2 k y0 y1 y2 y3) (capnplaw21_PackGroups.j2 (k + 1) y0 y1 y2 y3))
  | 0 => ⟨fun _ _ _ r h => by simp [capnplaw21_PackGroups.j0] at h, fun _ _ _ _ _ r h => by simp [capnplaw21_PackGroups.j1] at h, fun _ _ _ _ r h => by simp [capnplaw21_PackGroups.j2] at h⟩
  | k + 1 => by
    obtain ⟨ih0, ih1, ih2⟩ := capnplaw21_PackGroups.mono_l k
    refine ⟨?_, ?_, ?_⟩
    · intro y0 y1 y2
      unfold capnplaw21_PackGroups.j0
      repeat' first
      | (with_reducible exact ih0 _ _ _)
      | (with_reducible exact ih1 _ _ _ _ _)
      | (with_reducible exact ih2 _ _ _ _)
      | (with_reducible exact capnplaw21_awake.mono _)
      | (with_reducible exact capnpref01_Same.mono _ _ _)
      | (with_reducible exact capnpref20_Bytes.mono _ _)
      | (with_reducible exact capnpref20_Of.mono _ _)
      | (with_reducible exact pack_Words.mono _ _)
      | (with_reducible exact LeO.refl _)
      | (with_reducible exact LeO.none _)
      | (with_reducible refine LeO.ite ?_ ?_)
      | (with_reducible refine LeO.bind ?_ (fun _ => ?_))
      | exact ih0 _ _ _
      | exact ih1 _ _ _ _ _
      | exact ih2 _ _ _ _
      | exact capnplaw21_awake.mono _
      | exact capnpref01_Same.mono _ _ _
      | exact capnpref20_Bytes.mono _ _
      | exact capnpref20_Of.mono _ _
      | exact pack_Words.mono _ _
      | exact LeO.none _
      | refine LeO.ite ?_ ?_
      | refine LeO.bind ?_ (fun _ => ?_)
    · intro y0 y1 y2 y3 y4
      unfold capnplaw21_PackGroups.j1
      repeat' first
      | (with_reducible exact ih0 _ _ _)
      | (with_reducible exact ih1 _ _ _ _ _)
      | (with_reducible exact ih2 _ _ _ _)
      | (with_reducible exact capnplaw21_awake.mono _)
      | (with_reducible exact capnpref01_Same.mono _ _ _)
      | (with_reducible exact capnpref20_Bytes.mono _ _)
      | (with_reducible exact capnpref20_Of.mono _ _)
      | (with_reducible exact pack_Words.mono _ _)
      | (with_reducible exact LeO.refl _)
      | (with_reducible exact LeO.none _)
      | (with_reducible refine LeO.ite ?_ ?_)
      | (with_reducible refine LeO.bind ?_ (fun _ => ?_))
      | exact ih0 _ _ _
      | exact ih1 _ _ _ _ _
      | exact ih2 _ _ _ _
      | exact capnplaw21_awake.mono _
      | exact capnpref01_Same.mono _ _ _
      | exact capnpref20_Bytes.mono _ _
      | exact capnpref20_Of.mono _ _
      | exact pack_Words.mono _ _
      | exact LeO.none _
      | refine LeO.ite ?_ ?_
      | refine LeO.bind ?_ (fun _ => ?_)
    · intro y0 y1 y2 y3
      unfold capnplaw21_PackGroups.j2
      repeat' first
      | (with_reducible exact ih0 _ _ _)
      | (with_reducible exact ih1 _ _ _ _ _)
      | (with_reducible exact ih2 _ _ _ _)
      | (with_reducible exact capnplaw21_awake.mono _)
      | (with_reducible exact capnpref01_Same.mono _ _ _)
      | (with_reducible exact capnpref20_Bytes.mono _ _)
      | (with_reducible exact capnpref20_Of.mono _ _)
      | (with_reducible exact pack_Words.mono _ _)
      | (with_reducible exact LeO.refl _)
      | (with_reducible exact LeO.none _)
      | (with_reducible refine LeO.ite ?_ ?_)
      | (with_reducible refine LeO.bind ?_ (fun _ => ?_))
      | exact ih0 _ _ _
      | exact ih1 _ _ _ _ _
      | exact ih2 _ _ _ _
      | exact capnplaw21_awake.mono _
      | exact capnpref01_Same.mono _ _ _
      | exact capnpref20_Bytes.mono _ _
      | exact capnpref20_Of.mono _ _
      | exact pack_Words.mono _ _
      | exact LeO.none _
      | refine LeO.ite ?_ ?_
      | refine LeO.bind ?_ (fun _ => ?_)
theorem capnplaw21_PackGroups.mono : ∀ a0 a1 k, LeO (capnplaw21_PackGroups.f k a0 a1) (capnplaw21_PackGroups.f (k + 1) a0 a1) := by
  intro a0 a1 k
  obtain ⟨ih0, ih1, ih2⟩ := capnplaw21_PackGroups.mono_l k
  unfold capnplaw21_PackGroups.f
  repeat' first
      | (with_reducible exact ih0 _ _ _)
      | (with_reducible exact ih1 _ _ _ _ _)
      | (with_reducible exact ih2 _ _ _ _)
      | (with_reducible exact capnplaw21_awake.mono _)
      | (with_reducible exact capnpref01_Same.mono _ _ _)
      | (with_reducible exact capnpref20_Bytes.mono _ _)
      | (with_reducible exact capnpref20_Of.mono _ _)
      | (with_reducible exact pack_Words.mono _ _)
      | (with_reducible exact LeO.refl _)
      | (with_reducible exact LeO.none _)
      | (with_reducible refine LeO.ite ?_ ?_)
      | (with_reducible refine LeO.bind ?_ (fun _ => ?_))
      | exact ih0 _ _ _
      | exact ih1 _ _ _ _ _
      | exact ih2 _ _ _ _
      | exact capnplaw21_awake.mono _
      | exact capnpref01_Same.mono _ _ _
      | exact capnpref20_Bytes.mono _ _
      | exact capnpref20_Of.mono _ _
      | exact pack_Words.mono _ _
      | exact LeO.none _
      | refine LeO.ite ?_ ?_
      | refine LeO.bind ?_ (fun _ => ?_)
def capnplaw21_PackGroups.T12 : Bool × List (List Nat × List Nat) := (true, [([], []), ([], []), ([1], [1]), ([2], [2]), ([0, 3], [0, 3]), ([], []), ([4, 5], [4, 5]), ([6, 6], [6]), ([7], [7]), ([7], [7]), ([9, 7], [7, 9]), ([10, 7], [7, 10]), ([8, 11, 7], [7, 8, 11]), ([7], [7]), ([13, 7, 7], [7, 13]), ([12, 14, 14, 7], [7, 12, 14]), ([7, 15], [7, 15]), ([16, 15, 0, 1, 2, 3, 4, 5, 6, 7, 8, 9, 10, 11, 12, 13, 14, 15, 16], [16])])
def capnplaw21_PackGroups.B12 : List Nat := [0, 0, 2, 6, 15, 0, 63, 127, 255, 255, 767, 1791, 4095, 255, 8447, 32767, 65535, 131071]
theorem capnplaw21_PackGroups.tab12 : rtab .any (opsOf Try.f10 12) = capnplaw21_PackGroups.T12 := by kernel_rfl
theorem capnplaw21_PackGroups.bits12 : waitsOk capnplaw21_PackGroups.T12.2 capnplaw21_PackGroups.B12 = true := by kernel_rfl
set_option maxHeartbeats 8000000 in
set_option maxRecDepth 100000 in
theorem capnplaw21_PackGroups.calls (k : Nat) (a0 : Int) (A1 : Option Addr) (c1 : Nat) (l1 : List Int) (r : Bool) (w : World) (hr1 : Kd.C (Kd.int .u64) w A1 l1.length l1) (hc1 : l1.length ≤ c1) (h : capnplaw21_PackGroups.f k a0 l1 = some r) :
    Calls Try.prog 10 #[.int .u64 a0, .slice A1 l1.length c1] w fun e w' => e = .returned (.bool r) ∧ Below w.heap.size w w' := by
  have HR1 := Aside0.mk hr1
  have HC1 := Aside0.mk hc1
  clear hr1 hc1
  have HB := Aside0.mk (Below.refl w.heap.size w)
  have H : ((capnplaw21_awake.f k).bind fun t250 => (if t250 = true then (capnplaw21_PackGroups.j0 k a0 l1 (decide ((l1.length : Int) > 600))) else (capnplaw21_PackGroups.j0 k a0 l1 true))) = some r := h
  clear h
  have HC3 := Aside0.mk H
  clear H
  go_enter Try.func10, Try.ntmps10
  go_upto_region 1 with (fail)
  go_cut [14] (fun v14 wc => ∃ (kq : Nat) (x14_2 : Bool), v14 = .bool x14_2 ∧ Aside0 (capnplaw21_PackGroups.j0 kq a0 l1 x14_2 = some r) ∧ Aside0 (kq ≤ k) ∧ Aside0 (Below w.heap.size w wc))
  case first =>
    have H := HC3.out
    clear HC3
    replace H := Option.bind_eq_some_iff.mp H
    obtain ⟨t250, A40, H⟩ := H
    replace H : (if t250 = true then (capnplaw21_PackGroups.j0 k a0 l1 (decide ((l1.length : Int) > 600))) else (capnplaw21_PackGroups.j0 k a0 l1 true)) = some r := H
    have A4 := Aside0.mk A40
    clear A40
    by_cases c5 : t250 = true
    · subst c5
      have H1 : (capnplaw21_PackGroups.j0 k a0 l1 (decide ((l1.length : Int) > 600))) = some r := by rw [if_pos rfl] at H; exact H
      clear H
      have H := H1
      clear H1
      have H' := Aside0.mk H
      clear H
      go_wp2_with (first | ((with_reducible refine gate_callee (f := 26) rfl ?_); refine goesL_ (some 8) rfl rfl Try.func26 (by kernel_rfl) rfl #[] rfl (by (try simp only [List.map_toArray, List.map_cons, List.map_nil]); first | done | rfl | (simp only [List.length_drop, List.length_take]; rfl)) ?_; (with_reducible refine (capnplaw21_awake.calls k  true _ A4.out).mono ?_); rintro e w6 ⟨rfl, hb⟩; refine ⟨_, rfl, ?_⟩; have n0_ := Aside0.mk (below_step (by repeat (first | (with_reducible first | exact HB.out | apply below_alloc | apply pw_below_drewN | apply below_drew1) | exact HB.out)) hb); clear HB; have HB := n0_; clear n0_; (try clear hb); (try clear hb2); (try clear hk); (try clear hi)))
      go_meet
      case rel => exact ⟨_, (decide ((l1.length : Int) > 600)), (by first | rfl | (simp; done) | (simp [*]; done)), H', ⟨by first | omega | exact Nat.le_refl _⟩, ⟨by repeat (first | (with_reducible first | exact HB.out | apply below_alloc | apply pw_below_drewN | apply below_drew1) | exact HB.out)⟩⟩
    · replace c5 := Bool.eq_false_iff.mpr c5
      subst c5
      have H1 : (capnplaw21_PackGroups.j0 k a0 l1 true) = some r := by rw [if_neg (show ¬ (false = true) by decide)] at H; exact H
      clear H
      have H := H1
      clear H1
      have H' := Aside0.mk H
      clear H
      go_wp2_with (first | ((with_reducible refine gate_callee (f := 26) rfl ?_); refine goesL_ (some 8) rfl rfl Try.func26 (by kernel_rfl) rfl #[] rfl (by (try simp only [List.map_toArray, List.map_cons, List.map_nil]); first | done | rfl | (simp only [List.length_drop, List.length_take]; rfl)) ?_; (with_reducible refine (capnplaw21_awake.calls k  false _ A4.out).mono ?_); rintro e w7 ⟨rfl, hb⟩; refine ⟨_, rfl, ?_⟩; have n0_ := Aside0.mk (below_step (by repeat (first | (with_reducible first | exact HB.out | apply below_alloc | apply pw_below_drewN | apply below_drew1) | exact HB.out)) hb); clear HB; have HB := n0_; clear n0_; (try clear hb); (try clear hb2); (try clear hk); (try clear hi)))
      go_meet
      case rel => exact ⟨_, (true), (by first | rfl | (simp; done) | (simp [*]; done)), H', ⟨by first | omega | exact Nat.le_refl _⟩, ⟨by repeat (first | (with_reducible first | exact HB.out | apply below_alloc | apply pw_below_drewN | apply below_drew1) | exact HB.out)⟩⟩
  case rest =>
    clear HC3
    try clear c1
    try clear c2
    try clear p2
    try clear c5
    obtain ⟨kq, x14_2, rfl, HA, HJ2, HB⟩ := hcut
    cases kq with
    | zero => exact absurd HA.out (by simp [capnplaw21_PackGroups.j0])
    | succ kj2 =>
      have H := HA.out
      clear HA
      simp only [capnplaw21_PackGroups.j0] at H
      by_cases c8 : x14_2 = true
      · subst c8
        have H1 : ((capnplaw21_awake.f kj2).bind fun t251 => (some t251)) = some r := by rw [if_pos rfl] at H; exact H
        clear H
        have H := H1
        clear H1
        replace H := Option.bind_eq_some_iff.mp H
        obtain ⟨t251, A90, H⟩ := H
        replace H : (some t251) = some r := H
        have A9 := Aside0.mk A90
        clear A90
        obtain rfl := Option.some.inj H
        go_wp2_with (first | ((with_reducible refine gate_callee (f := 26) rfl ?_); refine goesL_ (some 15) rfl rfl Try.func26 (by kernel_rfl) rfl #[] rfl (by (try simp only [List.map_toArray, List.map_cons, List.map_nil]); first | done | rfl | (simp only [List.length_drop, List.length_take]; rfl)) ?_; (with_reducible refine (capnplaw21_awake.calls kj2  t251 _ A9.out).mono ?_); rintro e w10 ⟨rfl, hb⟩; refine ⟨_, rfl, ?_⟩; have n0_ := Aside0.mk (below_step (by repeat (first | (with_reducible first | exact HB.out | apply below_alloc | apply pw_below_drewN | apply below_drew1) | exact HB.out)) hb); clear HB; have HB := n0_; clear n0_; (try clear hb); (try clear hb2); (try clear hk); (try clear hi)))
        go_ret
        exact ⟨by first | rfl | (simp [errW_none, errW_some] <;> rfl) | (simp [*, errW_none, errW_some] <;> rfl), by repeat (first | (with_reducible first | exact HB.out | apply below_alloc | apply pw_below_drewN | apply below_drew1) | exact HB.out)⟩
      · replace c8 := Bool.eq_false_iff.mpr c8
        subst c8
        have H1 : ((some (([a0] : List Int) : List Int)).bind fun y252 => (if y252.length + l1.length < 17592186044416 then ((pack_Words.f kj2 (y252 ++ l1)).bind fun t258 => ((capnpref20_Of.f kj2 a0).bind fun t261 => (if (t258.length : Int) = 0 then (capnplaw21_PackGroups.j1 kj2 a0 l1 t258 t261 true) else (if 0 < (t258.length : Int) then (capnplaw21_PackGroups.j1 kj2 a0 l1 t258 t261 ((rd t258 0) != t261)) else (none))))) else (none))) = some r := by rw [if_neg (show ¬ (false = true) by decide)] at H; exact H
        clear H
        have H := H1
        clear H1
        obtain ⟨y252, hy252⟩ : ∃ y_ : List Int, y_ = (([a0] : List Int)) := ⟨_, rfl⟩
        replace H : (if y252.length + l1.length < 17592186044416 then ((pack_Words.f kj2 (y252 ++ l1)).bind fun t258 => ((capnpref20_Of.f kj2 a0).bind fun t261 => (if (t258.length : Int) = 0 then (capnplaw21_PackGroups.j1 kj2 a0 l1 t258 t261 true) else (if 0 < (t258.length : Int) then (capnplaw21_PackGroups.j1 kj2 a0 l1 t258 t261 ((rd t258 0) != t261)) else (none))))) else (none)) = some r := by first | (rw [hy252]; with_reducible exact H) | (have H2_ := (Option.bind_some _ _).symm.trans H; rw [hy252]; with_reducible exact H2_) | (have H2_ := (Option.bind_some _ _).symm.trans H; with_reducible exact H2_) | with_reducible exact H | (rw [hy252]; exact H) | exact H
        have Ny252 := Aside0.mk hy252
        clear hy252
        by_cases c11 : y252.length + l1.length < 17592186044416
        · rw [if_pos c11] at H
          have LMc11 := Aside0.mk c11
          clear c11
          obtain ⟨y255, hy255⟩ : ∃ y_ : List Int, y_ = (y252 ++ l1) := ⟨_, rfl⟩
          replace H : ((pack_Words.f kj2 y255).bind fun t258 => ((capnpref20_Of.f kj2 a0).bind fun t261 => (if (t258.length : Int) = 0 then (capnplaw21_PackGroups.j1 kj2 a0 l1 t258 t261 true) else (if 0 < (t258.length : Int) then (capnplaw21_PackGroups.j1 kj2 a0 l1 t258 t261 ((rd t258 0) != t261)) else (none))))) = some r := by first | (rw [hy255]; with_reducible exact H) | (have H2_ := (Option.bind_some _ _).symm.trans H; rw [hy255]; with_reducible exact H2_) | (have H2_ := (Option.bind_some _ _).symm.trans H; with_reducible exact H2_) | with_reducible exact H | (rw [hy255]; exact H) | exact H
          have Ny255 := Aside0.mk hy255
          clear hy255
          replace H := Option.bind_eq_some_iff.mp H
          obtain ⟨t258, A120, H⟩ := H
          replace H : ((capnpref20_Of.f kj2 a0).bind fun t261 => (if (t258.length : Int) = 0 then (capnplaw21_PackGroups.j1 kj2 a0 l1 t258 t261 true) else (if 0 < (t258.length : Int) then (capnplaw21_PackGroups.j1 kj2 a0 l1 t258 t261 ((rd t258 0) != t261)) else (none)))) = some r := H
          have A12 := Aside0.mk A120
          clear A120
          replace H := Option.bind_eq_some_iff.mp H
          obtain ⟨t261, A130, H⟩ := H
          replace H : (if (t258.length : Int) = 0 then (capnplaw21_PackGroups.j1 kj2 a0 l1 t258 t261 true) else (if 0 < (t258.length : Int) then (capnplaw21_PackGroups.j1 kj2 a0 l1 t258 t261 ((rd t258 0) != t261)) else (none))) = some r := H
          have A13 := Aside0.mk A130
          clear A130
          have HC14 := Aside0.mk H
          clear H
          go_upto_region 5 with (first | ((with_reducible refine gate_dst (N := 17) rfl ?_); (try (refine gate_guard (by rfl) ?_; dsimp only)); refine Kd.R_lit (Kd.int .u64) _ 22 ?hg (N := 17) ?hd (xs := ([a0] : List Int)) (inner := [.int .u64 a0]) (ok := fun _ => True) (okp := fun _ => True) ?hr ?hp (fun _ hk => hk) trivial (Below.refl _ _) (Nat.le_refl _) (by simp) ?_; (case hd => rfl); (case hg => rfl); (case hr => first | (go_simp; done) | (go_simp; rfl)); (case hp => exact (Reps.one (show Kd.M (Kd.int .u64) _ _ _ a0 [.int .u64 a0] from rfl) (Reps.none _ _))); intro v253 w15 ho16 hb hg_ hnew_; clear hg_ hnew_; (first | rw [← Ny252.out] at ho16 | (simp only [Int.reduceToNat] at ho16; rw [← Ny252.out] at ho16)); have n0_ := Aside0.mk (Kd.R_lower ho16 (below_size (by repeat (first | (with_reducible first | exact HB.out | apply below_alloc | apply pw_below_drewN | apply below_drew1) | exact HB.out)))); have n1_ := Aside0.mk (below_step (by repeat (first | (with_reducible first | exact HB.out | apply below_alloc | apply pw_below_drewN | apply below_drew1) | exact HB.out)) hb); clear HB; have HO254 := n0_; have HB := n1_; clear n0_ n1_; clear hb ho16) | ((with_reducible refine gate_builtin (b := .append) (xs := #[.tmp 17, .tmp 18]) rfl ?_); (try (refine gate_guard (by rfl) ?_; dsimp only)); at_builtin; refine Kd.R_append_rows (Kd.int .u64) (w0 := w) w.heap.size rfl (.tmp 17) (.tmp 18) 36 22 (.int .u64 0) 8 rfl Try.underlying36 info22 rfl (by decide) (by omega) v253 y252 l1 _ _ _ (fun _ => True) (fun _ => False) rfl rfl ?aO ?aR (fun _ _ h => h) (fun _ h => h.elim) ?aF ?aB ?aS ?aL ?_; (case aR => repeat (first | exact (Kd.C_below HR1.out HB.out) | (with_reducible refine Kd.C_alloc ?_ _) | (with_reducible refine Kd.C_drewN ?_ _) | (with_reducible refine Kd.C_drew ?_))); (case aB => exact (by repeat (first | (with_reducible first | exact HB.out | apply below_alloc | apply pw_below_drewN | apply below_drew1) | exact HB.out))); (case aF => exact (fun _ _ => trivial)); (case aO => exact (by (with_reducible repeat (first | apply Kd.R_alloc | apply Kd.R_drewN | apply Kd.R_drew)); exact HO254.out)); (case aS => exact (below_size (by repeat (first | (with_reducible first | exact HB.out | apply below_alloc | apply pw_below_drewN | apply below_drew1) | exact HB.out)))); (case aL => have := LMc11.out; omega); intro v256 w17 ho hb hg hat; rw [← Ny255.out] at ho; have n0_ := Aside0.mk (hb); have n1_ := Aside0.mk (ho); clear HB; clear HO254; have HB := n0_; have HO257 := n1_; clear n0_ n1_; clear ho hb hg hat; obtain ⟨Ao18, co18, eo18⟩ := Kd.R_slice HO257.out; subst eo18) | ((with_reducible refine gate_callee (f := 29) rfl ?_); refine goesL_ (some 20) rfl rfl Try.func29 (by kernel_rfl) rfl #[.slice Ao18 y255.length co18] rfl (by (try simp only [List.map_toArray, List.map_cons, List.map_nil]); first | done | rfl | (simp only [List.length_drop, List.length_take]; rfl)) ?_; (with_reducible refine (pack_Words.calls kj2 _ _ y255 t258 _ ?side1 ?side2 A12.out).mono ?_); (case side1 => repeat (first | exact (Kd.R_reads' HO257.out).2.2 | (with_reducible refine Kd.C_alloc ?_ _) | (with_reducible refine Kd.C_drewN ?_ _) | (with_reducible refine Kd.C_drew ?_))); (case side2 => exact (Kd.R_reads' HO257.out).2.1); rintro e w19 ⟨v259, rfl, ho0, hb⟩; refine ⟨_, rfl, ?_⟩; have n0_ := Aside0.mk (Kd.R_below (by (with_reducible repeat (first | apply Kd.R_alloc | apply Kd.R_drewN | apply Kd.R_drew)); exact HO257.out) hb); have n1_ := Aside0.mk (Kd.R_lower ho0 (below_size (by repeat (first | (with_reducible first | exact HB.out | apply below_alloc | apply pw_below_drewN | apply below_drew1) | exact HB.out)))); have n2_ := Aside0.mk (below_step (by repeat (first | (with_reducible first | exact HB.out | apply below_alloc | apply pw_below_drewN | apply below_drew1) | exact HB.out)) hb); clear HO257; clear HB; have HO257 := n0_; have HO260 := n1_; have HB := n2_; clear n0_ n1_ n2_; (try clear hb); (try clear hb2); (try clear hk); (try clear hi); (try clear ho0)) | ((with_reducible refine gate_callee (f := 18) rfl ?_); refine goesL_ (some 22) rfl rfl Try.func18 (by kernel_rfl) rfl #[.int .u64 a0] rfl (by (try simp only [List.map_toArray, List.map_cons, List.map_nil]); first | done | rfl | (simp only [List.length_drop, List.length_take]; rfl)) ?_; (with_reducible refine (capnpref20_Of.calls kj2 a0 t261 _ A13.out).mono ?_); rintro e w20 ⟨rfl, hb⟩; refine ⟨_, rfl, ?_⟩; have n0_ := Aside0.mk (Kd.R_below (by (with_reducible repeat (first | apply Kd.R_alloc | apply Kd.R_drewN | apply Kd.R_drew)); exact HO257.out) hb); have n1_ := Aside0.mk (Kd.R_below (by (with_reducible repeat (first | apply Kd.R_alloc | apply Kd.R_drewN | apply Kd.R_drew)); exact HO260.out) hb); have n2_ := Aside0.mk (below_step (by repeat (first | (with_reducible first | exact HB.out | apply below_alloc | apply pw_below_drewN | apply below_drew1) | exact HB.out)) hb); clear HO257; clear HO260; clear HB; have HO257 := n0_; have HO260 := n1_; have HB := n2_; clear n0_ n1_ n2_; (try clear hb); (try clear hb2); (try clear hk); (try clear hi)))
          (try simp only [Act.put, List.setIfInBounds_toArray, List.set_cons_zero, List.set_cons_succ])
          go_cut [32] (fun v32 wc => ∃ (kq : Nat) (x32_13 : Bool), v32 = .bool x32_13 ∧ Aside0 (capnplaw21_PackGroups.j1 kq a0 l1 t258 t261 x32_13 = some r) ∧ Aside0 (kq ≤ kj2) ∧ Aside0 (Kd.R (Kd.int .u8) 5 wc w.heap.size (fun _ => True) v259 t258) ∧ Aside0 (Below w.heap.size w wc))
          case first =>
            have H := HC14.out
            clear HC14
            by_cases c21 : (t258.length : Int) = 0
            · rw [if_pos c21] at H
              have c21b0 : ((t258.length : Int) == 0) = true := beq_iff_eq.mpr c21
              have c21b1 : ((t258.length : Int) != 0) = false := bne_eq_false_iff_eq.mpr c21
              clear c21
              (first | rw [c21b0] | (simp only [i64_w, i32_w]; rw [c21b0]) | skip)
              have H' := Aside0.mk H
              clear H
              obtain ⟨Ao22, co22, eo22⟩ := Kd.R_slice HO260.out
              subst eo22
              go_wp2
              go_meet
              case rel => exact ⟨_, (true), (by first | rfl | (simp; done) | (simp [*]; done)), H', ⟨by have := HJ2.out; first | omega | exact Nat.le_refl _⟩, ⟨by (with_reducible repeat (first | apply Kd.R_alloc | apply Kd.R_drewN | apply Kd.R_drew)); exact HO260.out⟩, ⟨by repeat (first | (with_reducible first | exact HB.out | apply below_alloc | apply pw_below_drewN | apply below_drew1) | exact HB.out)⟩⟩
            · rw [if_neg c21] at H
              have c21b0 : ((t258.length : Int) == 0) = false := beq_eq_false_iff_ne.mpr c21
              have c21b1 : ((t258.length : Int) != 0) = true := bne_iff_ne.mpr c21
              have c21b2 : ¬ (t258 = []) := fun h_ => c21 (by rw [h_]; rfl)
              (first | rw [c21b0] | (simp only [i64_w, i32_w]; rw [c21b0]) | skip)
              by_cases c23 : 0 < (t258.length : Int)
              · rw [if_pos c23] at H
                have c23b0 : decide (0 < (t258.length : Int)) = true := decide_eq_true c23
                have c23b1 : decide (0 < t258.length) = true := decide_eq_true (by omega)
                clear c23
                have H' := Aside0.mk H
                clear H
                obtain ⟨Ao24, co24, eo24⟩ := Kd.R_slice HO260.out
                subst eo24
                have p262 : 0 ≤ (0 : Int) := (by omega)
                have q262 : 0 < (t258.length : Int) := of_decide_eq_true (by first | (with_reducible assumption) | assumption)
                obtain ⟨ad262, e262, hx262_0⟩ := Kd.at_int (Kd.R_reads' HO260.out).2.2 0 p262 q262
                cases e262
                have qi262 : (0 < t258.length) = True := eq_true (by omega)
                (try rw [show ((0 : Int)).toNat = 0 from rfl] at hx262_0)
                (try rw [Addr.add_zero'] at hx262_0)
                replace p262 := eq_true p262
                replace q262 := eq_true q262
                go_wp2
                go_meet
                case rel => exact ⟨_, (((rd t258 0) != t261)), (by first | rfl | (simp; done) | (simp [*]; done)), H', ⟨by have := HJ2.out; first | omega | exact Nat.le_refl _⟩, ⟨by (with_reducible repeat (first | apply Kd.R_alloc | apply Kd.R_drewN | apply Kd.R_drew)); exact HO260.out⟩, ⟨by repeat (first | (with_reducible first | exact HB.out | apply below_alloc | apply pw_below_drewN | apply below_drew1) | exact HB.out)⟩⟩
              · rw [if_neg c23] at H
                exact absurd H (by simp)
          case rest =>
            clear HC14
            try clear c1
            try clear c2
            try clear p2
            try clear q2
            try clear hx2
            try clear qi2
            try clear c5
            try clear c8
            try clear c10
            try clear c11
            try clear c18
            try clear c21
            try clear c21b0
            try clear c21b1
            try clear c21b2
            try clear c23
            try clear c23b0
            try clear c23b1
            try clear hx262_0
            try clear p2
            try clear p262
            try clear q262
            obtain ⟨kq, x32_13, rfl, HA, HJ13, HO_5, HB⟩ := hcut
            cases kq with
            | zero => exact absurd HA.out (by simp [capnplaw21_PackGroups.j1])
            | succ kj13 =>
              have H := HA.out
              clear HA
              simp only [capnplaw21_PackGroups.j1] at H
              by_cases c25 : x32_13 = true
              · subst c25
                have H1 : (some false) = some r := by rw [if_pos rfl] at H; exact H
                clear H
                have H := H1
                clear H1
                obtain rfl := Option.some.inj H
                go_wp2
                go_ret
                exact ⟨by first | rfl | (simp [errW_none, errW_some] <;> rfl) | (simp [*, errW_none, errW_some] <;> rfl), by repeat (first | (with_reducible first | exact HB.out | apply below_alloc | apply pw_below_drewN | apply below_drew1) | exact HB.out)⟩
              · replace c25 := Bool.eq_false_iff.mpr c25
                subst c25
                have H1 : (if t261 = 0 then (capnplaw21_PackGroups.j2 kj13 a0 l1 t258 true) else (capnplaw21_PackGroups.j2 kj13 a0 l1 t258 (t261 == 255))) = some r := by rw [if_neg (show ¬ (false = true) by decide)] at H; exact H
                clear H
                have H := H1
                clear H1
                have HC26 := Aside0.mk H
                clear H
                go_upto_region 7 with (fail)
                go_cut [38] (fun v38 wc => ∃ (kq : Nat) (x38_25 : Bool), v38 = .bool x38_25 ∧ Aside0 (capnplaw21_PackGroups.j2 kq a0 l1 t258 x38_25 = some r) ∧ Aside0 (kq ≤ kj13) ∧ Aside0 (Kd.R (Kd.int .u8) 5 wc w.heap.size (fun _ => True) v259 t258) ∧ Aside0 (Below w.heap.size w wc))
                case first =>
                  have H := HC26.out
                  clear HC26
                  by_cases c27 : t261 = 0
                  · rw [if_pos c27] at H
                    have c27b0 : (t261 == 0) = true := beq_iff_eq.mpr c27
                    have c27b1 : (t261 != 0) = false := bne_eq_false_iff_eq.mpr c27
                    clear c27
                    (first | rw [c27b0] | (simp only [i64_w, i32_w]; rw [c27b0]) | skip)
                    have H' := Aside0.mk H
                    clear H
                    go_wp2
                    go_meet
                    case rel => exact ⟨_, (true), (by first | rfl | (simp; done) | (simp [*]; done)), H', ⟨by have := HJ2.out; have := HJ13.out; first | omega | exact Nat.le_refl _⟩, ⟨by (with_reducible repeat (first | apply Kd.R_alloc | apply Kd.R_drewN | apply Kd.R_drew)); exact HO_5.out⟩, ⟨by repeat (first | (with_reducible first | exact HB.out | apply below_alloc | apply pw_below_drewN | apply below_drew1) | exact HB.out)⟩⟩
                  · rw [if_neg c27] at H
                    have c27b0 : (t261 == 0) = false := beq_eq_false_iff_ne.mpr c27
                    have c27b1 : (t261 != 0) = true := bne_iff_ne.mpr c27
                    (first | rw [c27b0] | (simp only [i64_w, i32_w]; rw [c27b0]) | skip)
                    have H' := Aside0.mk H
                    clear H
                    go_wp2
                    go_meet
                    case rel => exact ⟨_, ((t261 == 255)), (by first | rfl | (simp; done) | (simp [*]; done)), H', ⟨by have := HJ2.out; have := HJ13.out; first | omega | exact Nat.le_refl _⟩, ⟨by (with_reducible repeat (first | apply Kd.R_alloc | apply Kd.R_drewN | apply Kd.R_drew)); exact HO_5.out⟩, ⟨by repeat (first | (with_reducible first | exact HB.out | apply below_alloc | apply pw_below_drewN | apply below_drew1) | exact HB.out)⟩⟩
                case rest =>
                  clear HC26
                  try clear c1
                  try clear c2
                  try clear p2
                  try clear q2
                  try clear hx2
                  try clear qi2
                  try clear c5
                  try clear c8
                  try clear c10
                  try clear c11
                  try clear c18
                  try clear c21
                  try clear c21b0
                  try clear c21b1
                  try clear c21b2
                  try clear c23
                  try clear c23b0
                  try clear c23b1
                  try clear c25
                  try clear c26
                  try clear p26
                  try clear q26
                  try clear hx26
                  try clear qi26
                  try clear c27
                  try clear c27b0
                  try clear c27b1
                  try clear hx262_0
                  try clear p2
                  try clear p262
                  try clear q2
                  try clear q262
                  obtain ⟨kq, x38_25, rfl, HA, HJ25, HO_5, HB⟩ := hcut
                  cases kq with
                  | zero => exact absurd HA.out (by simp [capnplaw21_PackGroups.j2])
                  | succ kj25 =>
                    have H := HA.out
                    clear HA
                    simp only [capnplaw21_PackGroups.j2] at H
                    by_cases c28 : x38_25 = true
                    · subst c28
                      have H1 : (some (decide ((t258.length : Int) ≥ 2))) = some r := by rw [if_pos rfl] at H; exact H
                      clear H
                      have H := H1
                      clear H1
                      obtain rfl := Option.some.inj H
                      obtain ⟨Ao29, co29, eo29⟩ := Kd.R_slice HO_5.out
                      subst eo29
                      go_wp2
                      go_ret
                      exact ⟨by first | rfl | (simp [errW_none, errW_some] <;> rfl) | (simp [*, errW_none, errW_some] <;> rfl), by repeat (first | (with_reducible first | exact HB.out | apply below_alloc | apply pw_below_drewN | apply below_drew1) | exact HB.out)⟩
                    · replace c28 := Bool.eq_false_iff.mpr c28
                      subst c28
                      have H1 : ((capnpref20_Bytes.f kj25 a0).bind fun t263 => (if (t258.length : Int) < (wrap64 (1 + (t263.length : Int))) then (some false) else (if 1 ≤ (wrap64 (1 + (t263.length : Int))) then (if (wrap64 (1 + (t263.length : Int))) ≤ (t258.length : Int) then ((capnpref01_Same.f kj25 ((t258.take ((wrap64 (1 + (t263.length : Int))) : Int).toNat).drop 1) t263).bind fun t270 => (if t270 = true then (if 0 ≤ (wrap64 (1 + (t263.length : Int))) then ((pack_Words.f kj25 l1).bind fun t275 => ((capnpref01_Same.f kj25 (t258.drop ((wrap64 (1 + (t263.length : Int))) : Int).toNat) t275).bind fun t278 => (some t278))) else (none)) else (none))) else (none)) else (none)))) = some r := by rw [if_neg (show ¬ (false = true) by decide)] at H; exact H
                      clear H
                      have H := H1
                      clear H1
                      replace H := Option.bind_eq_some_iff.mp H
                      obtain ⟨t263, A300, H⟩ := H
                      replace H : (if (t258.length : Int) < (wrap64 (1 + (t263.length : Int))) then (some false) else (if 1 ≤ (wrap64 (1 + (t263.length : Int))) then (if (wrap64 (1 + (t263.length : Int))) ≤ (t258.length : Int) then ((capnpref01_Same.f kj25 ((t258.take ((wrap64 (1 + (t263.length : Int))) : Int).toNat).drop 1) t263).bind fun t270 => (if t270 = true then (if 0 ≤ (wrap64 (1 + (t263.length : Int))) then ((pack_Words.f kj25 l1).bind fun t275 => ((capnpref01_Same.f kj25 (t258.drop ((wrap64 (1 + (t263.length : Int))) : Int).toNat) t275).bind fun t278 => (some t278))) else (none)) else (none))) else (none)) else (none))) = some r := H
                      have A30 := Aside0.mk A300
                      clear A300
                      by_cases c31 : (t258.length : Int) < (wrap64 (1 + (t263.length : Int)))
                      · rw [if_pos c31] at H
                        have c31b0 : decide ((t258.length : Int) < (wrap64 (1 + (t263.length : Int)))) = true := decide_eq_true c31
                        clear c31
                        obtain rfl := Option.some.inj H
                        go_wp2_with (first | ((with_reducible refine gate_callee (f := 21) rfl ?_); refine goesL_ (some 43) rfl rfl Try.func21 (by kernel_rfl) rfl #[.int .u64 a0] rfl (by (try simp only [List.map_toArray, List.map_cons, List.map_nil]); first | done | rfl | (simp only [List.length_drop, List.length_take]; rfl)) ?_; (with_reducible refine (capnpref20_Bytes.calls kj25 a0 t263 _ A30.out).mono ?_); rintro e w32 ⟨v264, rfl, ho0, hb⟩; refine ⟨_, rfl, ?_⟩; have n0_ := Aside0.mk (Kd.R_elder' (by (with_reducible repeat (first | apply Kd.R_alloc | apply Kd.R_drewN | apply Kd.R_drew)); exact HO_5.out) (Kd.R_base ho0) hb); have n1_ := Aside0.mk (Kd.R_lower (Kd.R_new' ho0 (Kd.R_lt (by (with_reducible repeat (first | apply Kd.R_alloc | apply Kd.R_drewN | apply Kd.R_drew)); exact HO_5.out))) (below_size (by repeat (first | (with_reducible first | exact HB.out | apply below_alloc | apply pw_below_drewN | apply below_drew1) | exact HB.out)))); have n2_ := Aside0.mk (below_step (by repeat (first | (with_reducible first | exact HB.out | apply below_alloc | apply pw_below_drewN | apply below_drew1) | exact HB.out)) hb); clear HO_5; clear HB; have HO_5 := n0_; have HO265 := n1_; have HB := n2_; clear n0_ n1_ n2_; (try clear hb); (try clear hb2); (try clear hk); (try clear hi); (try clear ho0); obtain ⟨Ao33, co33, eo33⟩ := Kd.R_slice HO_5.out; subst eo33; obtain ⟨Ao34, co34, eo34⟩ := Kd.R_slice HO265.out; subst eo34))
                        go_ret
                        exact ⟨by first | rfl | (simp [errW_none, errW_some] <;> rfl) | (simp [*, errW_none, errW_some] <;> rfl), by repeat (first | (with_reducible first | exact HB.out | apply below_alloc | apply pw_below_drewN | apply below_drew1) | exact HB.out)⟩
                      · rw [if_neg c31] at H
                        have c31b0 : decide ((t258.length : Int) < (wrap64 (1 + (t263.length : Int)))) = false := decide_eq_false c31
                        clear c31
                        by_cases c35 : 1 ≤ (wrap64 (1 + (t263.length : Int)))
                        · rw [if_pos c35] at H
                          have c35b0 := eq_true c35
                          have c35b1 : decide (1 ≤ (wrap64 (1 + (t263.length : Int)))) = true := decide_eq_true c35
                          by_cases c36 : (wrap64 (1 + (t263.length : Int))) ≤ (t258.length : Int)
                          · rw [if_pos c36] at H
                            have c36b0 := eq_true c36
                            have c36b1 : decide ((wrap64 (1 + (t263.length : Int))) ≤ (t258.length : Int)) = true := decide_eq_true c36
                            obtain ⟨y266, hy266⟩ : ∃ y_ : List Int, y_ = ((t258.take ((wrap64 (1 + (t263.length : Int))) : Int).toNat).drop 1) := ⟨_, rfl⟩
                            replace H : ((capnpref01_Same.f kj25 y266 t263).bind fun t270 => (if t270 = true then (if 0 ≤ (wrap64 (1 + (t263.length : Int))) then ((pack_Words.f kj25 l1).bind fun t275 => ((capnpref01_Same.f kj25 (t258.drop ((wrap64 (1 + (t263.length : Int))) : Int).toNat) t275).bind fun t278 => (some t278))) else (none)) else (none))) = some r := by first | (rw [hy266]; with_reducible exact H) | (have H2_ := (Option.bind_some _ _).symm.trans H; rw [hy266]; with_reducible exact H2_) | (have H2_ := (Option.bind_some _ _).symm.trans H; with_reducible exact H2_) | with_reducible exact H | (rw [hy266]; exact H) | exact H
                            have Ny266 := Aside0.mk hy266
                            clear hy266
                            replace H := Option.bind_eq_some_iff.mp H
                            obtain ⟨t270, A370, H⟩ := H
                            replace H : (if t270 = true then (if 0 ≤ (wrap64 (1 + (t263.length : Int))) then ((pack_Words.f kj25 l1).bind fun t275 => ((capnpref01_Same.f kj25 (t258.drop ((wrap64 (1 + (t263.length : Int))) : Int).toNat) t275).bind fun t278 => (some t278))) else (none)) else (none)) = some r := H
                            have A37 := Aside0.mk A370
                            clear A370
                            by_cases c38 : t270 = true
                            · subst c38
                              have H1 : (if 0 ≤ (wrap64 (1 + (t263.length : Int))) then ((pack_Words.f kj25 l1).bind fun t275 => ((capnpref01_Same.f kj25 (t258.drop ((wrap64 (1 + (t263.length : Int))) : Int).toNat) t275).bind fun t278 => (some t278))) else (none)) = some r := by rw [if_pos rfl] at H; exact H
                              clear H
                              have H := H1
                              clear H1
                              obtain ⟨ji39, hji39⟩ : ∃ j_ : Int, (wrap64 (1 + (t263.length : Int))) = j_ := ⟨_, rfl⟩
                              replace H : (if 0 ≤ (ji39) then ((pack_Words.f kj25 l1).bind fun t275 => ((capnpref01_Same.f kj25 (t258.drop ((ji39) : Int).toNat) t275).bind fun t278 => (some t278))) else (none)) = some r := by first | (rw [hji39] at H; exact H) | (simp only [hji39] at H ⊢; exact H)
                              (try rw [hji39] at c31b0)
                              (try rw [hji39] at c35b0)
                              (try rw [hji39] at c35b1)
                              (try rw [hji39] at c35)
                              (try rw [hji39] at c36b0)
                              (try rw [hji39] at c36b1)
                              (try rw [hji39] at c36)
                              (try rw [hji39] at A30)
                              (try rw [hji39] at Ny266)
                              (try rw [hji39] at A37)
                              have hji39w : (IntKind.i64.wrap (1 + (t263.length : Int))) = ji39 := (i64_w _).trans hji39
                              by_cases c40 : 0 ≤ (ji39)
                              · rw [if_pos c40] at H
                                have c40b0 := eq_true c40
                                have c40b1 : decide (0 ≤ (ji39)) = true := decide_eq_true c40
                                clear c40
                                have c41b0 := eq_true (of_decide_eq_true (by first | (with_reducible assumption) | assumption) : (ji39) ≤ (t258.length : Int))
                                obtain ⟨y271, hy271⟩ : ∃ y_ : List Int, y_ = (t258.drop ((ji39) : Int).toNat) := ⟨_, rfl⟩
                                replace H : ((pack_Words.f kj25 l1).bind fun t275 => ((capnpref01_Same.f kj25 y271 t275).bind fun t278 => (some t278))) = some r := by first | (rw [hy271]; with_reducible exact H) | (have H2_ := (Option.bind_some _ _).symm.trans H; rw [hy271]; with_reducible exact H2_) | (have H2_ := (Option.bind_some _ _).symm.trans H; with_reducible exact H2_) | with_reducible exact H | (rw [hy271]; exact H) | exact H
                                have Ny271 := Aside0.mk hy271
                                clear hy271
                                replace H := Option.bind_eq_some_iff.mp H
                                obtain ⟨t275, A420, H⟩ := H
                                replace H : ((capnpref01_Same.f kj25 y271 t275).bind fun t278 => (some t278)) = some r := H
                                have A42 := Aside0.mk A420
                                clear A420
                                replace H := Option.bind_eq_some_iff.mp H
                                obtain ⟨t278, A430, H⟩ := H
                                replace H : (some t278) = some r := H
                                have A43 := Aside0.mk A430
                                clear A430
                                obtain rfl := Option.some.inj H
                                try go_wp2_with (first | ((with_reducible refine gate_callee (f := 21) rfl ?_); refine goesL_ (some 43) rfl rfl Try.func21 (by kernel_rfl) rfl #[.int .u64 a0] rfl (by (try simp only [List.map_toArray, List.map_cons, List.map_nil]); first | done | rfl | (simp only [List.length_drop, List.length_take]; rfl)) ?_; (with_reducible refine (capnpref20_Bytes.calls kj25 a0 t263 _ A30.out).mono ?_); rintro e w44 ⟨v264, rfl, ho0, hb⟩; refine ⟨_, rfl, ?_⟩; have n0_ := Aside0.mk (Kd.R_elder' (by (with_reducible repeat (first | apply Kd.R_alloc | apply Kd.R_drewN | apply Kd.R_drew)); exact HO_5.out) (Kd.R_base ho0) hb); have n1_ := Aside0.mk (Kd.R_lower (Kd.R_new' ho0 (Kd.R_lt (by (with_reducible repeat (first | apply Kd.R_alloc | apply Kd.R_drewN | apply Kd.R_drew)); exact HO_5.out))) (below_size (by repeat (first | (with_reducible first | exact HB.out | apply below_alloc | apply pw_below_drewN | apply below_drew1) | exact HB.out)))); have n2_ := Aside0.mk (below_step (by repeat (first | (with_reducible first | exact HB.out | apply below_alloc | apply pw_below_drewN | apply below_drew1) | exact HB.out)) hb); clear HO_5; clear HB; have HO_5 := n0_; have HO265 := n1_; have HB := n2_; clear n0_ n1_ n2_; (try clear hb); (try clear hb2); (try clear hk); (try clear hi); (try clear ho0); obtain ⟨Ao45, co45, eo45⟩ := Kd.R_slice HO_5.out; subst eo45; obtain ⟨Ao46, co46, eo46⟩ := Kd.R_slice HO265.out; subst eo46))
                                have n0_ := Aside0.mk (Kd.R_drew HO_5.out)
                                have n1_ := Aside0.mk (Kd.R_drew HO265.out)
                                have n2_ := Aside0.mk (below_drew1 HB.out)
                                clear HO_5
                                clear HO265
                                clear HB
                                have HO_5 := n0_
                                have HO265 := n1_
                                have HB := n2_
                                clear n0_ n1_ n2_
                                have q48 : ((ji39) : Int) ≤ ((t258.length : Int) : Int) := of_decide_eq_true (by first | (with_reducible assumption) | assumption)
                                obtain ⟨i048, hi048, _, hsz48, _⟩ := info_parts info5
                                have hroom48 : t258.length ≤ co45 := (Kd.R_reads' HO_5.out).2.1
                                have hC48 : Kd.C (Kd.int .u8) _ Ao45 t258.length t258 := (Kd.R_reads' HO_5.out).2.2
                                have ql48 : (1 : Int) ≤ ((ji39) : Int) := of_decide_eq_true (by first | (with_reducible assumption) | assumption)
                                have hcut48 := cut_mid (P := Try.prog) 23 5 .i64 .i64 Try.underlying23 hi048 1 hsz48 Ao45 t258.length co45 1 (ji39) (by omega) ql48 q48 hroom48
                                have hr48 := Kd.C_mid (lo := (1 : Int).toNat) (hi := ((ji39) : Int).toNat) (c := co45) hC48 (by omega) (by omega) hroom48
                                obtain ⟨A48, hA48⟩ : ∃ A1, A1 = (if co45 = (1 : Int).toNat then Ao45 else (Ao45 : Option Addr).map (·.add ((1 : Int).toNat * 1))) := ⟨_, rfl⟩
                                obtain ⟨c48, hc48⟩ : ∃ c1, c1 = co45 - (1 : Int).toNat := ⟨_, rfl⟩
                                have hy48 : y266.length = ((ji39) : Int).toNat - (1 : Int).toNat := (by rw [Ny266.out, List.length_drop, List.length_take] <;> omega)
                                rw [show ((t258).take ((ji39) : Int).toNat).drop (1 : Int).toNat = y266 from Ny266.out.symm] at hr48
                                replace hr48 : Kd.C (Kd.int .u8) _ A48 y266.length y266 := (by rw [hA48]; exact hr48)
                                rw [← hy48, ← hA48, ← hc48] at hcut48
                                have HR269 := Aside0.mk hr48
                                have HC269 := Aside0.mk (show y266.length ≤ c48 from by rw [hy48, hc48]; exact Nat.sub_le_sub_right (Nat.le_trans (by omega) hroom48) _)
                                clear hr48 hC48 hroom48 hi048 hsz48 hc48
                                have KY48 := Aside0.mk hy48
                                have KA48 := Aside0.mk hA48
                                clear hy48 hA48
                                have KL48 := Aside0.mk (show ((ji39) : Int).toNat ≤ t258.length from by omega)
                                have KM48 := Aside0.mk (show 1 ≤ ((ji39) : Int).toNat from by omega)
                                replace q48 := eq_true q48
                                refine start_ (n := 18) (S := fun w' => True) (ds := []) #[false, false, false, false, false, false, false, false, false, false, false, false, false, false, false, false, false, false] (by kernel_rfl) rfl rfl trivial (fun hHeld => ?_); refine with_tabW capnplaw21_PackGroups.tab12 capnplaw21_PackGroups.bits12 (fun HT_ HW_ => ?_)
                                generalize w44.drew = w47 at HO_5 HO265 HB HR269 hHeld ⊢
                                refine pure_ (i := 0) (N := some 50) (v := ?_) (a' := ?_) #[true, false, false, false, false, false, false, false, false, false, false, false, false, false, false, false, false, false] rfl rfl (any_of HT_.out (by kernel_rfl)) (fun _ _ _ h => h) (Or.inl ⟨by rfl, ?_⟩) ?_ ?_
                                rotate_left
                                · intro w'
                                  go_simp
                                  with_reducible rfl
                                rotate_left
                                · simp only [Act.put, List.setIfInBounds_toArray, List.set_cons_zero, List.set_cons_succ, i64_w, i32_w]
                                  rfl
                                refine pure_ (i := 1) (N := some 51) (v := ?_) (a' := ?_) #[true, true, false, false, false, false, false, false, false, false, false, false, false, false, false, false, false, false] rfl rfl (any_of HT_.out (by kernel_rfl)) (fun _ _ _ h => h) (Or.inl ⟨by rfl, ?_⟩) ?_ ?_
                                rotate_left
                                · intro w'
                                  go_simp
                                  with_reducible rfl
                                rotate_left
                                · simp only [Act.put, List.setIfInBounds_toArray, List.set_cons_zero, List.set_cons_succ, i64_w, i32_w]
                                  rfl
                                refine pure_ (i := 2) (N := some 52) (v := ?_) (a' := ?_) #[true, true, true, false, false, false, false, false, false, false, false, false, false, false, false, false, false, false] rfl rfl (any_of HT_.out (by kernel_rfl)) (fun _ _ _ h => h) (Or.inl ⟨by rfl, ?_⟩) ?_ ?_
                                rotate_left
                                · intro w'
                                  go_simp
                                  with_reducible rfl
                                rotate_left
                                · simp only [Act.put, List.setIfInBounds_toArray, List.set_cons_zero, List.set_cons_succ, i64_w, i32_w]
                                  rfl
                                refine pure_ (i := 3) (N := some 53) (v := ?_) (a' := ?_) #[true, true, true, true, false, false, false, false, false, false, false, false, false, false, false, false, false, false] rfl rfl (any_of HT_.out (by kernel_rfl)) (fun _ _ _ h => h) (Or.inl ⟨by rfl, ?_⟩) ?_ ?_
                                rotate_left
                                · intro w'
                                  go_simp
                                  with_reducible rfl
                                rotate_left
                                · simp only [Act.put, List.setIfInBounds_toArray, List.set_cons_zero, List.set_cons_succ, i64_w, i32_w]
                                  rfl
                                refine pure_ (i := 4) (N := some 54) (v := ?_) (a' := ?_) #[true, true, true, true, true, false, false, false, false, false, false, false, false, false, false, false, false, false] rfl rfl (any_of HT_.out (by kernel_rfl)) (fun _ _ _ h => h) (Or.inl ⟨by rfl, ?_⟩) ?_ ?_
                                rotate_left
                                · intro w'
                                  go_simp
                                  with_reducible rfl
                                rotate_left
                                · simp only [Act.put, List.setIfInBounds_toArray, List.set_cons_zero, List.set_cons_succ, i64_w, i32_w]
                                  rfl
                                refine pure_ (i := 5) (N := some 55) (v := ?_) (a' := ?_) #[true, true, true, true, true, true, false, false, false, false, false, false, false, false, false, false, false, false] rfl rfl (any_of HT_.out (by kernel_rfl)) (fun _ _ _ h => h) (Or.inl ⟨by rfl, ?_⟩) ?_ ?_
                                rotate_left
                                · intro w'
                                  go_simp
                                  with_reducible rfl
                                rotate_left
                                · simp only [Act.put, List.setIfInBounds_toArray, List.set_cons_zero, List.set_cons_succ, i64_w, i32_w]
                                  rfl
                                refine one_ (i := 6) (N := some 56) #[true, true, true, true, true, true, true, false, false, false, false, false, false, false, false, false, false, false] rfl rfl (one_of HT_.out (by kernel_rfl)) (by decide) (fun K hK => ?_)
                                refine goes_ Try.func19 (by kernel_rfl) rfl #[.slice A48 y266.length c48, .slice Ao46 t263.length co46] (by rfl) rfl rfl (by (try simp only [List.map_toArray, List.map_cons, List.map_nil]); first | done | rfl | (simp only [List.length_drop, List.length_take]; rfl)) ?_
                                with_reducible refine (capnpref01_Same.calls kj25 _ _ y266 _ _ t263 true _ ?side1 ?side2 ?side3 ?side4 A37.out).mono ?_
                                (case side1 => repeat (first | exact (by repeat (first | (with_reducible exact HR269.out) | (with_reducible refine Kd.C_alloc ?_ _) | (with_reducible refine Kd.C_drewN ?_ _) | (with_reducible refine Kd.C_drew ?_) | exact HR269.out)) | (with_reducible refine Kd.C_alloc ?_ _) | (with_reducible refine Kd.C_drewN ?_ _) | (with_reducible refine Kd.C_drew ?_)))
                                (case side2 => exact HC269.out)
                                (case side3 => repeat (first | exact (Kd.R_reads' HO265.out).2.2 | (with_reducible refine Kd.C_alloc ?_ _) | (with_reducible refine Kd.C_drewN ?_ _) | (with_reducible refine Kd.C_drew ?_)))
                                (case side4 => exact (Kd.R_reads' HO265.out).2.1)
                                rintro e w' ⟨rfl, ⟨nd, rfl⟩⟩
                                refine ⟨_, rfl, ?_⟩
                                have q49 : ((ji39) : Int) ≤ ((t258.length : Int) : Int) := of_decide_eq_true (by first | (with_reducible assumption) | assumption)
                                obtain ⟨i049, hi049, _, hsz49, _⟩ := info_parts info5
                                have hroom49 : t258.length ≤ co45 := (Kd.R_reads' HO_5.out).2.1
                                have hC49 : Kd.C (Kd.int .u8) _ Ao45 t258.length t258 := (Kd.R_reads' HO_5.out).2.2
                                have q049 : (0 : Int) ≤ ((ji39) : Int) := of_decide_eq_true (by first | (with_reducible assumption) | assumption)
                                have hcut49 := cut_from (P := Try.prog) 23 5 .i64 Try.underlying23 hi049 1 hsz49 Ao45 t258.length co45 (ji39) q049 q49
                                have hr49 := Kd.C_drop (m := ((ji39) : Int).toNat) (c := co45) hC49 (by omega) hroom49
                                obtain ⟨A49, hA49⟩ : ∃ A1, A1 = (if co45 = ((ji39) : Int).toNat then Ao45 else (Ao45 : Option Addr).map (·.add (((ji39) : Int).toNat * 1))) := ⟨_, rfl⟩
                                obtain ⟨c49, hc49⟩ : ∃ c1, c1 = co45 - ((ji39) : Int).toNat := ⟨_, rfl⟩
                                have hy49 : y271.length = t258.length - ((ji39) : Int).toNat := (by rw [Ny271.out, List.length_drop] <;> omega)
                                rw [show (t258).drop ((ji39) : Int).toNat = y271 from Ny271.out.symm] at hr49
                                replace hr49 : Kd.C (Kd.int .u8) _ A49 y271.length y271 := (by rw [hA49]; exact hr49)
                                rw [← hy49, ← hA49, ← hc49] at hcut49
                                have HR274 := Aside0.mk hr49
                                have HC274 := Aside0.mk (show y271.length ≤ c49 from by rw [hy49, hc49]; exact Nat.sub_le_sub_right hroom49 _)
                                clear hr49 hC49 hroom49 hi049 hsz49 hc49
                                have KY49 := Aside0.mk hy49
                                have KA49 := Aside0.mk hA49
                                clear hy49 hA49
                                have KL49 := Aside0.mk (show ((ji39) : Int).toNat ≤ t258.length from by omega)
                                replace q49 := eq_true q49
                                refine hK.out _ _ trivial (fun hHeld => ?_)
                                clear hK K
                                refine norm_ (a' := ?_) ?_ ?_
                                rotate_left
                                · show Act.put _ (some 56) _ = _
                                  simp only [Act.put, List.setIfInBounds_toArray, List.set_cons_zero, List.set_cons_succ, i64_w, i32_w]
                                  rfl
                                refine pure_ (i := 7) (N := some 57) (v := ?_) (a' := ?_) #[true, true, true, true, true, true, true, true, false, false, false, false, false, false, false, false, false, false] rfl rfl (any_of HT_.out (by kernel_rfl)) (fun _ _ _ h => h) (Or.inl ⟨by rfl, ?_⟩) ?_ ?_
                                rotate_left
                                · intro w'
                                  go_simp
                                  with_reducible rfl
                                rotate_left
                                · simp only [Act.put, List.setIfInBounds_toArray, List.set_cons_zero, List.set_cons_succ, i64_w, i32_w]
                                  rfl
                                refine pure_ (i := 8) (N := some 58) (v := ?_) (a' := ?_) #[true, true, true, true, true, true, true, true, true, false, false, false, false, false, false, false, false, false] rfl rfl (any_of HT_.out (by kernel_rfl)) (fun _ _ _ h => h) (Or.inl ⟨by rfl, ?_⟩) ?_ ?_
                                rotate_left
                                · intro w'
                                  go_simp
                                  with_reducible rfl
                                rotate_left
                                · simp only [Act.put, List.setIfInBounds_toArray, List.set_cons_zero, List.set_cons_succ, i64_w, i32_w]
                                  rfl
                                refine pure_ (i := 9) (N := some 59) (v := ?_) (a' := ?_) #[true, true, true, true, true, true, true, true, true, true, false, false, false, false, false, false, false, false] rfl rfl (any_of HT_.out (by kernel_rfl)) (fun _ _ _ h => h) (Or.inl ⟨by rfl, ?_⟩) ?_ ?_
                                rotate_left
                                · intro w'
                                  go_simp
                                  with_reducible rfl
                                rotate_left
                                · simp only [Act.put, List.setIfInBounds_toArray, List.set_cons_zero, List.set_cons_succ, i64_w, i32_w]
                                  rfl
                                refine pure_ (i := 10) (N := some 60) (v := ?_) (a' := ?_) #[true, true, true, true, true, true, true, true, true, true, true, false, false, false, false, false, false, false] rfl rfl (any_of HT_.out (by kernel_rfl)) (fun _ _ _ h => h) (Or.inl ⟨by rfl, ?_⟩) ?_ ?_
                                rotate_left
                                · intro w'
                                  go_simp
                                  with_reducible rfl
                                rotate_left
                                · simp only [Act.put, List.setIfInBounds_toArray, List.set_cons_zero, List.set_cons_succ, i64_w, i32_w]
                                  rfl
                                refine pure_ (i := 11) (N := some 61) (v := ?_) (a' := ?_) #[true, true, true, true, true, true, true, true, true, true, true, true, false, false, false, false, false, false] rfl rfl (any_of HT_.out (by kernel_rfl)) (fun _ _ _ h => h) (Or.inl ⟨by rfl, ?_⟩) ?_ ?_
                                rotate_left
                                · intro w'
                                  go_simp
                                  with_reducible rfl
                                rotate_left
                                · simp only [Act.put, List.setIfInBounds_toArray, List.set_cons_zero, List.set_cons_succ, i64_w, i32_w]
                                  rfl
                                refine pure_ (i := 12) (N := some 62) (v := ?_) (a' := ?_) #[true, true, true, true, true, true, true, true, true, true, true, true, true, false, false, false, false, false] rfl rfl (any_of HT_.out (by kernel_rfl)) (fun _ _ _ h => h) (Or.inl ⟨by rfl, ?_⟩) ?_ ?_
                                rotate_left
                                · intro w'
                                  go_simp
                                  with_reducible rfl
                                rotate_left
                                · simp only [Act.put, List.setIfInBounds_toArray, List.set_cons_zero, List.set_cons_succ, i64_w, i32_w]
                                  rfl
                                refine pure_ (i := 13) (N := some 63) (v := ?_) (a' := ?_) #[true, true, true, true, true, true, true, true, true, true, true, true, true, true, false, false, false, false] rfl rfl (any_of HT_.out (by kernel_rfl)) (fun _ _ _ h => h) (Or.inl ⟨by rfl, ?_⟩) ?_ ?_
                                rotate_left
                                · intro w'
                                  go_simp
                                  with_reducible rfl
                                rotate_left
                                · simp only [Act.put, List.setIfInBounds_toArray, List.set_cons_zero, List.set_cons_succ, i64_w, i32_w]
                                  rfl
                                refine one_ (i := 14) (N := some 64) #[true, true, true, true, true, true, true, true, true, true, true, true, true, true, true, false, false, false] rfl rfl (one_of HT_.out (by kernel_rfl)) (by decide) (fun K hK => ?_)
                                refine goes_ Try.func29 (by kernel_rfl) rfl #[.slice A1 l1.length c1] (by rfl) rfl rfl (by (try simp only [List.map_toArray, List.map_cons, List.map_nil]); first | done | rfl | (simp only [List.length_drop, List.length_take]; rfl)) ?_
                                with_reducible refine (pack_Words.calls kj25 _ _ l1 t275 _ ?side1 ?side2 A42.out).mono ?_
                                (case side1 => repeat (first | exact (Kd.C_below HR1.out (by repeat (first | (with_reducible first | exact HB.out | apply below_alloc | apply pw_below_drewN | apply below_drew1) | exact HB.out))) | (with_reducible refine Kd.C_alloc ?_ _) | (with_reducible refine Kd.C_drewN ?_ _) | (with_reducible refine Kd.C_drew ?_)))
                                (case side2 => exact HC1.out)
                                rintro e w50 ⟨v276, rfl, ho0, hb⟩
                                refine ⟨_, rfl, ?_⟩
                                have n0_ := Aside0.mk (Kd.R_elder' (by (with_reducible repeat (first | apply Kd.R_alloc | apply Kd.R_drewN | apply Kd.R_drew)); exact HO_5.out) (Kd.R_base ho0) hb)
                                have n1_ := Aside0.mk (Kd.R_elder' (by (with_reducible repeat (first | apply Kd.R_alloc | apply Kd.R_drewN | apply Kd.R_drew)); exact HO265.out) (Kd.R_base ho0) hb)
                                have n2_ := Aside0.mk (Kd.R_lower (Kd.R_new' (Kd.R_new' ho0 (Kd.R_lt (by (with_reducible repeat (first | apply Kd.R_alloc | apply Kd.R_drewN | apply Kd.R_drew)); exact HO_5.out))) (Kd.R_lt (by (with_reducible repeat (first | apply Kd.R_alloc | apply Kd.R_drewN | apply Kd.R_drew)); exact HO265.out))) (below_size (by repeat (first | (with_reducible first | exact HB.out | apply below_alloc | apply pw_below_drewN | apply below_drew1) | exact HB.out))))
                                have n3_ := Aside0.mk (Kd.C_below (by repeat (first | (with_reducible exact HR269.out) | (with_reducible refine Kd.C_alloc ?_ _) | (with_reducible refine Kd.C_drewN ?_ _) | (with_reducible refine Kd.C_drew ?_) | exact HR269.out)) hb)
                                have n4_ := Aside0.mk (Kd.C_below (by repeat (first | (with_reducible exact HR274.out) | (with_reducible refine Kd.C_alloc ?_ _) | (with_reducible refine Kd.C_drewN ?_ _) | (with_reducible refine Kd.C_drew ?_) | exact HR274.out)) hb)
                                have n5_ := Aside0.mk (below_step (by repeat (first | (with_reducible first | exact HB.out | apply below_alloc | apply pw_below_drewN | apply below_drew1) | exact HB.out)) hb)
                                clear HO_5
                                clear HO265
                                clear HR269
                                clear HR274
                                clear HB
                                have HO_5 := n0_
                                have HO265 := n1_
                                have HO277 := n2_
                                have HR269 := n3_
                                have HR274 := n4_
                                have HB := n5_
                                clear n0_ n1_ n2_ n3_ n4_ n5_
                                (try clear hb)
                                (try clear hb2)
                                (try clear hk)
                                (try clear hi)
                                (try clear ho0)
                                obtain ⟨Ao51, co51, eo51⟩ := Kd.R_slice HO277.out
                                (first | subst eo51 | (injection eo51 with f1_ f2_ f3_; have f4_ := f1_.symm; have f5_ := f3_.symm; clear f1_ f2_ f3_; subst f4_; subst f5_))
                                refine hK.out _ _ trivial (fun hHeld => ?_)
                                clear hK K
                                refine norm_ (a' := ?_) ?_ ?_
                                rotate_left
                                · show Act.put _ (some 64) _ = _
                                  simp only [Act.put, List.setIfInBounds_toArray, List.set_cons_zero, List.set_cons_succ, i64_w, i32_w]
                                  rfl
                                refine one_ (i := 15) (N := some 65) #[true, true, true, true, true, true, true, true, true, true, true, true, true, true, true, true, false, false] rfl rfl (one_of HT_.out (by kernel_rfl)) (by decide) (fun K hK => ?_)
                                refine goes_ Try.func19 (by kernel_rfl) rfl #[.slice A49 y271.length c49, .slice Ao51 t275.length co51] (by rfl) rfl rfl (by (try simp only [List.map_toArray, List.map_cons, List.map_nil]); first | done | rfl | (simp only [List.length_drop, List.length_take]; rfl)) ?_
                                with_reducible refine (capnpref01_Same.calls kj25 _ _ y271 _ _ t275 t278 _ ?side1 ?side2 ?side3 ?side4 A43.out).mono ?_
                                (case side1 => repeat (first | exact (by repeat (first | (with_reducible exact HR274.out) | (with_reducible refine Kd.C_alloc ?_ _) | (with_reducible refine Kd.C_drewN ?_ _) | (with_reducible refine Kd.C_drew ?_) | exact HR274.out)) | (with_reducible refine Kd.C_alloc ?_ _) | (with_reducible refine Kd.C_drewN ?_ _) | (with_reducible refine Kd.C_drew ?_)))
                                (case side2 => exact HC274.out)
                                (case side3 => repeat (first | exact (Kd.R_reads' HO277.out).2.2 | (with_reducible refine Kd.C_alloc ?_ _) | (with_reducible refine Kd.C_drewN ?_ _) | (with_reducible refine Kd.C_drew ?_)))
                                (case side4 => exact (Kd.R_reads' HO277.out).2.1)
                                rintro e w' ⟨rfl, ⟨nd, rfl⟩⟩
                                refine ⟨_, rfl, ?_⟩
                                refine hK.out _ _ trivial (fun hHeld => ?_)
                                clear hK K
                                refine norm_ (a' := ?_) ?_ ?_
                                rotate_left
                                · show Act.put _ (some 65) _ = _
                                  simp only [Act.put, List.setIfInBounds_toArray, List.set_cons_zero, List.set_cons_succ, i64_w, i32_w]
                                  rfl
                                refine pure_ (i := 16) (N := some 66) (v := ?_) (a' := ?_) #[true, true, true, true, true, true, true, true, true, true, true, true, true, true, true, true, true, false] rfl rfl (any_of HT_.out (by kernel_rfl)) (fun _ _ _ h => h) (Or.inl ⟨by rfl, ?_⟩) ?_ ?_
                                rotate_left
                                · intro w'
                                  go_simp
                                  with_reducible rfl
                                rotate_left
                                · simp only [Act.put, List.setIfInBounds_toArray, List.set_cons_zero, List.set_cons_succ, i64_w, i32_w]
                                  rfl
                                refine pure_ (i := 17) (N := some 4) (v := ?_) (a' := ?_) #[true, true, true, true, true, true, true, true, true, true, true, true, true, true, true, true, true, true] rfl rfl (any_of HT_.out (by kernel_rfl)) (fun _ _ _ h => h) (Or.inl ⟨by rfl, ?_⟩) ?_ ?_
                                rotate_left
                                · intro w'
                                  go_simp
                                  with_reducible rfl
                                rotate_left
                                · simp only [Act.put, List.setIfInBounds_toArray, List.set_cons_zero, List.set_cons_succ, i64_w, i32_w]
                                  rfl
                                refine done_ (done_of HT_.out (by kernel_rfl)) ?_
                                try go_wp2
                                go_ret
                                exact ⟨by first | rfl | (simp [errW_none, errW_some] <;> rfl) | (simp only [← hji39]; first | rfl | (simp [errW_none, errW_some] <;> rfl)) | (simp [*, errW_none, errW_some] <;> rfl), by repeat (first | (with_reducible first | exact HB.out | apply below_alloc | apply pw_below_drewN | apply below_drew1) | exact HB.out)⟩
                              · rw [if_neg c40] at H
                                exact absurd H (by simp)
                            · replace c38 := Bool.eq_false_iff.mpr c38
                              subst c38
                              have H1 : (none) = some r := by rw [if_neg (show ¬ (false = true) by decide)] at H; exact H
                              clear H
                              have H := H1
                              clear H1
                              exact absurd H (by simp)
                          · rw [if_neg c36] at H
                            exact absurd H (by simp)
                        · rw [if_neg c35] at H
                          exact absurd H (by simp)
        · rw [if_neg c11] at H
          exact absurd H (by simp)

/-- THE ONE PURE STATEMENT of capnplaw21_PackGroups: yours. -/
def capnplaw21_PackGroups.Pure : Prop := ∀ (a0 : Int) (l1 : List Int), (Lit.int .u64 a0).wf = true → l1.length ≤ maxLen → l1.length * 8 ≤ 140737488351232 → (∀ x ∈ l1, (Lit.int .u64 x).wf = true) → ∃ k, capnplaw21_PackGroups.f k a0 l1 = some true
theorem capnplaw21_PackGroups.walk (P : capnplaw21_PackGroups.Pure) (a0 : Int) (a1 : Option Addr) (len1 cap1 : Nat) (z1 : List Int) (w : World) (w0 : (Lit.int .u64 a0).wf = true) (w1 : (a1 = none ∧ len1 = 0 ∧ cap1 = 0 ∧ z1 = []) ∨ ∃ x, a1 = some x ∧ len1 ≤ cap1 ∧ cap1 ≤ maxLen ∧ z1.length = cap1 ∧ (∀ i, i < z1.length → w.cell? (x.add i) = some (.int .u64 (z1.getD i 0))) ∧ ∀ n ∈ z1, (Lit.int .u64 n).wf = true) (y1 : len1 * 8 ≤ 140737488351232) :
    Calls Try.prog 10 #[.int .u64 a0, .slice a1 len1 cap1] w fun e w' => e = .returned (.bool true) ∧ Below w.heap.size w w' := by
  obtain ⟨l1, rfl, hr1, hm1, hw1, hc1⟩ := ReadsInt.ofRowC w1
  obtain ⟨k, h⟩ := P a0 l1 w0 hm1 y1 hw1
  refine (capnplaw21_PackGroups.calls k a0 _ _ l1 true w (Kd.C_of_reads (d := (0 : Int)) (h1 := fun _ => rfl) hr1) hc1 h).mono ?_
  rintro e w' ⟨rfl, hd⟩
  exact ⟨rfl, hd⟩

end Go.Proofs.Ytamcadegencfbaa.PPackGroups
