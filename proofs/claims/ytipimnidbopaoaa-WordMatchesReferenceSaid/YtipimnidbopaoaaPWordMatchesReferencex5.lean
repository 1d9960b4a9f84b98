-- written by myprint.py, a program of this session
import Derived.Test.YtipimnidbopaoaaPWordMatchesReferencex0
import Derived.Test.YtipimnidbopaoaaPWordMatchesReferencex1
import Derived.Test.YtipimnidbopaoaaPWordMatchesReferencex2
import Derived.Test.YtipimnidbopaoaaPWordMatchesReferencex3
import Derived.Test.YtipimnidbopaoaaPWordMatchesReferencex4
namespace Go.Proofs.Ytipimnidbopaoaa.PWordMatchesReference
open Go.RowKit Go.Proofs.YtipimnidbopaoaaW.PrintWords Go.Proofs.YtipimnidbopaoaaW.PrintLast Go.Proofs.YtipimnidbopaoaaW.PrintMore
attribute [local go_sem] max2_int min2_int max_two min_two max_three min_three max_four min_four   -- for this text's walks alone
set_option linter.unusedVariables false
set_option linter.unusedSimpArgs false

/-! ### capnplaw01_WordMatchesReference: function 7 -/
def capnplaw01_WordMatchesReference.j0 : Nat → List Int → Int → List Int → Int → Int → Int → Int → Bool → Option (Bool)
  | 0, _, _, _, _, _, _, _, _ => none
  | k + 1, x0, x1, x2, x3, x4, x5, x6, x36 => if x36 = true then ((capnplaw01_awake.f k).bind fun t182 => (some t182)) else ((word_Get.f k x0 x1).bind fun bt183 => ((capnpref01_Get.f k x0 x1).bind fun bt185 => ((word_Words.f k x0).bind fun bt187 => ((capnpref01_Words.f k x0).bind fun bt191 => ((capnpref01_Place.f x5 x6).bind fun bt195 => (if bt183.1 = bt185.1 then (if (bt183.2 == bt185.2) = true then ((capnpref01_SameWords.f k bt187.1 bt191.1).bind fun t197 => (if t197 = true then (if (bt187.2 == bt191.2) = true then ((word_Bytes.f k x2).bind fun t198 => ((capnpref01_Bytes.f k x2).bind fun t201 => ((capnpref01_Same.f k t198 t201).bind fun t204 => (if t204 = true then ((word_Field.f x3 bt195.1 bt195.2).bind fun t205 => ((capnpref01_Field.f k x3 bt195.1 bt195.2).bind fun t206 => (if t205 = t206 then ((word_Signed.f x3 bt195.1 bt195.2).bind fun t207 => ((capnpref01_Signed.f k x3 bt195.1 bt195.2).bind fun t208 => (if t207 = t208 then ((word_Insert.f x3 bt195.1 bt195.2 x4).bind fun t209 => ((capnpref01_Insert.f k x3 bt195.1 bt195.2 x4).bind fun t210 => (some (t209 == t210)))) else (none)))) else (none)))) else (none))))) else (none)) else (none))) else (none)) else (none)))))))
def capnplaw01_WordMatchesReference.f (k : Nat) (l0 : List Int) (a1 : Int) (l2 : List Int) (a3 : Int) (a4 : Int) (a5 : Int) (a6 : Int) : Option (Bool) := (capnplaw01_awake.f k).bind fun t181 => (if t181 = true then (if (l0.length : Int) > 1000 then (capnplaw01_WordMatchesReference.j0 k l0 a1 l2 a3 a4 a5 a6 true) else (capnplaw01_WordMatchesReference.j0 k l0 a1 l2 a3 a4 a5 a6 (decide ((l2.length : Int) > 200)))) else (capnplaw01_WordMatchesReference.j0 k l0 a1 l2 a3 a4 a5 a6 true))
theorem capnplaw01_WordMatchesReference.mono_l : ∀ k, (∀ y0 y1 y2 y3 y4 y5 y6 y7, LeO (capnplaw01_WordMatchesReference.j0 k y0 y1 y2 y3 y4 y5 y6 y7) (capnplaw01_WordMatchesReference.j0 (k + 1) y0 y1 y2 y3 y4 y5 y6 y7))
  | 0 => fun _ _ _ _ _ _ _ _ r h => by simp [capnplaw01_WordMatchesReference.j0] at h
  | k + 1 => by
    have ih0 := capnplaw01_WordMatchesReference.mono_l k
    · intro y0 y1 y2 y3 y4 y5 y6 y7
      unfold capnplaw01_WordMatchesReference.j0
      repeat' first
      | (with_reducible exact ih0 _ _ _ _ _ _ _ _)
      | (with_reducible exact capnplaw01_awake.mono _)
      | (with_reducible exact capnpref01_Bytes.mono _ _)
      | (with_reducible exact capnpref01_Field.mono _ _ _ _)
      | (with_reducible exact capnpref01_Get.mono _ _ _)
      | (with_reducible exact capnpref01_Insert.mono _ _ _ _ _)
      | (with_reducible exact capnpref01_Same.mono _ _ _)
      | (with_reducible exact capnpref01_SameWords.mono _ _ _)
      | (with_reducible exact capnpref01_Signed.mono _ _ _ _)
      | (with_reducible exact capnpref01_Words.mono _ _)
      | (with_reducible exact word_Bytes.mono _ _)
      | (with_reducible exact word_Get.mono _ _ _)
      | (with_reducible exact word_Words.mono _ _)
      | (with_reducible exact LeO.refl _)
      | (with_reducible exact LeO.none _)
      | (with_reducible refine LeO.ite ?_ ?_)
      | (with_reducible refine LeO.bind ?_ (fun _ => ?_))
      | exact ih0 _ _ _ _ _ _ _ _
      | exact capnplaw01_awake.mono _
      | exact capnpref01_Bytes.mono _ _
      | exact capnpref01_Field.mono _ _ _ _
      | exact capnpref01_Get.mono _ _ _
      | exact capnpref01_Insert.mono _ _ _ _ _
      | exact capnpref01_Same.mono _ _ _
      | exact capnpref01_SameWords.mono _ _ _
      | exact capnpref01_Signed.mono _ _ _ _
      | exact capnpref01_Words.mono _ _
      | exact word_Bytes.mono _ _
      | exact word_Get.mono _ _ _
      | exact word_Words.mono _ _
      | exact LeO.none _
      | refine LeO.ite ?_ ?_
      | refine LeO.bind ?_ (fun _ => ?_)
theorem capnplaw01_WordMatchesReference.mono : ∀ a0 a1 a2 a3 a4 a5 a6 k, LeO (capnplaw01_WordMatchesReference.f k a0 a1 a2 a3 a4 a5 a6) (capnplaw01_WordMatchesReference.f (k + 1) a0 a1 a2 a3 a4 a5 a6) := by
  intro a0 a1 a2 a3 a4 a5 a6 k
  have ih0 := capnplaw01_WordMatchesReference.mono_l k
  unfold capnplaw01_WordMatchesReference.f
  repeat' first
      | (with_reducible exact ih0 _ _ _ _ _ _ _ _)
      | (with_reducible exact capnplaw01_awake.mono _)
      | (with_reducible exact capnpref01_Bytes.mono _ _)
      | (with_reducible exact capnpref01_Field.mono _ _ _ _)
      | (with_reducible exact capnpref01_Get.mono _ _ _)
      | (with_reducible exact capnpref01_Insert.mono _ _ _ _ _)
      | (with_reducible exact capnpref01_Same.mono _ _ _)
      | (with_reducible exact capnpref01_SameWords.mono _ _ _)
      | (with_reducible exact capnpref01_Signed.mono _ _ _ _)
      | (with_reducible exact capnpref01_Words.mono _ _)
      | (with_reducible exact word_Bytes.mono _ _)
      | (with_reducible exact word_Get.mono _ _ _)
      | (with_reducible exact word_Words.mono _ _)
      | (with_reducible exact LeO.refl _)
      | (with_reducible exact LeO.none _)
      | (with_reducible refine LeO.ite ?_ ?_)
      | (with_reducible refine LeO.bind ?_ (fun _ => ?_))
      | exact ih0 _ _ _ _ _ _ _ _
      | exact capnplaw01_awake.mono _
      | exact capnpref01_Bytes.mono _ _
      | exact capnpref01_Field.mono _ _ _ _
      | exact capnpref01_Get.mono _ _ _
      | exact capnpref01_Insert.mono _ _ _ _ _
      | exact capnpref01_Same.mono _ _ _
      | exact capnpref01_SameWords.mono _ _ _
      | exact capnpref01_Signed.mono _ _ _ _
      | exact capnpref01_Words.mono _ _
      | exact word_Bytes.mono _ _
      | exact word_Get.mono _ _ _
      | exact word_Words.mono _ _
      | exact LeO.none _
      | refine LeO.ite ?_ ?_
      | refine LeO.bind ?_ (fun _ => ?_)
set_option maxHeartbeats 8000000 in
set_option maxRecDepth 100000 in
theorem capnplaw01_WordMatchesReference.calls (k : Nat) (A0 : Option Addr) (c0 : Nat) (l0 : List Int) (a1 : Int) (A2 : Option Addr) (c2 : Nat) (l2 : List Int) (a3 : Int) (a4 : Int) (a5 : Int) (a6 : Int) (r : Bool) (w : World) (hr0 : Kd.C (Kd.int .u8) w A0 l0.length l0) (hc0 : l0.length ≤ c0) (hr2 : Kd.C (Kd.int .u64) w A2 l2.length l2) (hc2 : l2.length ≤ c2) (h : capnplaw01_WordMatchesReference.f k l0 a1 l2 a3 a4 a5 a6 = some r) :
    Calls Try.prog 7 #[.slice A0 l0.length c0, .int .i64 a1, .slice A2 l2.length c2, .int .u64 a3, .int .u64 a4, .int .u8 a5, .int .u8 a6] w fun e w' => e = .returned (.bool r) ∧ Below w.heap.size w w' := by
  have HR0 := Aside0.mk hr0
  have HC0 := Aside0.mk hc0
  clear hr0 hc0
  have HR2 := Aside0.mk hr2
  have HC2 := Aside0.mk hc2
  clear hr2 hc2
  have HB := Aside0.mk (Below.refl w.heap.size w)
  have H : ((capnplaw01_awake.f k).bind fun t181 => (if t181 = true then (if (l0.length : Int) > 1000 then (capnplaw01_WordMatchesReference.j0 k l0 a1 l2 a3 a4 a5 a6 true) else (capnplaw01_WordMatchesReference.j0 k l0 a1 l2 a3 a4 a5 a6 (decide ((l2.length : Int) > 200)))) else (capnplaw01_WordMatchesReference.j0 k l0 a1 l2 a3 a4 a5 a6 true))) = some r := h
  clear h
  have HC8 := Aside0.mk H
  clear H
  go_enter Try.func7, Try.ntmps7
  go_upto_region 1 with (fail)
  go_cut [36] (fun v36 wc => ∃ (kq : Nat) (x36_7 : Bool), v36 = .bool x36_7 ∧ Aside0 (capnplaw01_WordMatchesReference.j0 kq l0 a1 l2 a3 a4 a5 a6 x36_7 = some r) ∧ Aside0 (kq ≤ k) ∧ Aside0 (Below w.heap.size w wc))
  case first =>
    have H := HC8.out
    clear HC8
    replace H := Option.bind_eq_some_iff.mp H
    obtain ⟨t181, A90, H⟩ := H
    replace H : (if t181 = true then (if (l0.length : Int) > 1000 then (capnplaw01_WordMatchesReference.j0 k l0 a1 l2 a3 a4 a5 a6 true) else (capnplaw01_WordMatchesReference.j0 k l0 a1 l2 a3 a4 a5 a6 (decide ((l2.length : Int) > 200)))) else (capnplaw01_WordMatchesReference.j0 k l0 a1 l2 a3 a4 a5 a6 true)) = some r := H
    have A9 := Aside0.mk A90
    clear A90
    by_cases c10 : t181 = true
    · subst c10
      have H1 : (if (l0.length : Int) > 1000 then (capnplaw01_WordMatchesReference.j0 k l0 a1 l2 a3 a4 a5 a6 true) else (capnplaw01_WordMatchesReference.j0 k l0 a1 l2 a3 a4 a5 a6 (decide ((l2.length : Int) > 200)))) = some r := by rw [if_pos rfl] at H; exact H
      clear H
      have H := H1
      clear H1
      by_cases c11 : (l0.length : Int) > 1000
      · rw [if_pos c11] at H
        have c11b0 : decide (1000 < (l0.length : Int)) = true := decide_eq_true c11
        have c11b1 : decide (1000 < l0.length) = true := decide_eq_true (by omega)
        clear c11
        (first | rw [c11b0] | (simp only [i64_w, i32_w]; rw [c11b0]) | skip)
        have H' := Aside0.mk H
        clear H
        go_wp2_with (first | ((with_reducible refine gate_callee (f := 19) rfl ?_); refine goesL_ (some 25) rfl rfl Try.func19 (by kernel_rfl) rfl #[] rfl (by (try simp only [List.map_toArray, List.map_cons, List.map_nil]); first | done | rfl | (simp only [List.length_drop, List.length_take]; rfl)) ?_; (with_reducible refine (capnplaw01_awake.calls k  true _ A9.out).mono ?_); rintro e w12 ⟨rfl, hb⟩; refine ⟨_, rfl, ?_⟩; have n0_ := Aside0.mk (below_step (by repeat (first | (with_reducible first | exact HB.out | apply below_alloc | apply pw_below_drewN | apply below_drew1) | exact HB.out)) hb); clear HB; have HB := n0_; clear n0_; (try clear hb); (try clear hb2); (try clear hk); (try clear hi)))
        go_meet
        case rel => exact ⟨_, (true), (by first | rfl | (simp; done) | (simp [*]; done)), H', ⟨by first | omega | exact Nat.le_refl _⟩, ⟨by repeat (first | (with_reducible first | exact HB.out | apply below_alloc | apply pw_below_drewN | apply below_drew1) | exact HB.out)⟩⟩
      · rw [if_neg c11] at H
        have c11b0 : decide (1000 < (l0.length : Int)) = false := decide_eq_false c11
        have c11b1 : decide (1000 < l0.length) = false := decide_eq_false (by omega)
        clear c11
        (first | rw [c11b0] | (simp only [i64_w, i32_w]; rw [c11b0]) | skip)
        have H' := Aside0.mk H
        clear H
        go_wp2_with (first | ((with_reducible refine gate_callee (f := 19) rfl ?_); refine goesL_ (some 25) rfl rfl Try.func19 (by kernel_rfl) rfl #[] rfl (by (try simp only [List.map_toArray, List.map_cons, List.map_nil]); first | done | rfl | (simp only [List.length_drop, List.length_take]; rfl)) ?_; (with_reducible refine (capnplaw01_awake.calls k  true _ A9.out).mono ?_); rintro e w13 ⟨rfl, hb⟩; refine ⟨_, rfl, ?_⟩; have n0_ := Aside0.mk (below_step (by repeat (first | (with_reducible first | exact HB.out | apply below_alloc | apply pw_below_drewN | apply below_drew1) | exact HB.out)) hb); clear HB; have HB := n0_; clear n0_; (try clear hb); (try clear hb2); (try clear hk); (try clear hi)))
        go_meet
        case rel => exact ⟨_, (decide ((l2.length : Int) > 200)), (by first | rfl | (simp; done) | (simp [*]; done)), H', ⟨by first | omega | exact Nat.le_refl _⟩, ⟨by repeat (first | (with_reducible first | exact HB.out | apply below_alloc | apply pw_below_drewN | apply below_drew1) | exact HB.out)⟩⟩
    · replace c10 := Bool.eq_false_iff.mpr c10
      subst c10
      have H1 : (capnplaw01_WordMatchesReference.j0 k l0 a1 l2 a3 a4 a5 a6 true) = some r := by rw [if_neg (show ¬ (false = true) by decide)] at H; exact H
      clear H
      have H := H1
      clear H1
      have H' := Aside0.mk H
      clear H
      go_wp2_with (first | ((with_reducible refine gate_callee (f := 19) rfl ?_); refine goesL_ (some 25) rfl rfl Try.func19 (by kernel_rfl) rfl #[] rfl (by (try simp only [List.map_toArray, List.map_cons, List.map_nil]); first | done | rfl | (simp only [List.length_drop, List.length_take]; rfl)) ?_; (with_reducible refine (capnplaw01_awake.calls k  false _ A9.out).mono ?_); rintro e w14 ⟨rfl, hb⟩; refine ⟨_, rfl, ?_⟩; have n0_ := Aside0.mk (below_step (by repeat (first | (with_reducible first | exact HB.out | apply below_alloc | apply pw_below_drewN | apply below_drew1) | exact HB.out)) hb); clear HB; have HB := n0_; clear n0_; (try clear hb); (try clear hb2); (try clear hk); (try clear hi)))
      go_meet
      case rel => exact ⟨_, (true), (by first | rfl | (simp; done) | (simp [*]; done)), H', ⟨by first | omega | exact Nat.le_refl _⟩, ⟨by repeat (first | (with_reducible first | exact HB.out | apply below_alloc | apply pw_below_drewN | apply below_drew1) | exact HB.out)⟩⟩
  case rest =>
    clear HC8
    try clear c1
    try clear c2
    try clear p2
    try clear c7
    try clear c10
    try clear c11
    try clear c11b0
    try clear c11b1
    obtain ⟨kq, x36_7, rfl, HA, HJ7, HB⟩ := hcut
    cases kq with
    | zero => exact absurd HA.out (by simp [capnplaw01_WordMatchesReference.j0])
    | succ kj7 =>
      have H := HA.out
      clear HA
      simp only [capnplaw01_WordMatchesReference.j0] at H
      by_cases c15 : x36_7 = true
      · subst c15
        have H1 : ((capnplaw01_awake.f kj7).bind fun t182 => (some t182)) = some r := by rw [if_pos rfl] at H; exact H
        clear H
        have H := H1
        clear H1
        replace H := Option.bind_eq_some_iff.mp H
        obtain ⟨t182, A160, H⟩ := H
        replace H : (some t182) = some r := H
        have A16 := Aside0.mk A160
        clear A160
        obtain rfl := Option.some.inj H
        go_wp2_with (first | ((with_reducible refine gate_callee (f := 19) rfl ?_); refine goesL_ (some 37) rfl rfl Try.func19 (by kernel_rfl) rfl #[] rfl (by (try simp only [List.map_toArray, List.map_cons, List.map_nil]); first | done | rfl | (simp only [List.length_drop, List.length_take]; rfl)) ?_; (with_reducible refine (capnplaw01_awake.calls kj7  t182 _ A16.out).mono ?_); rintro e w17 ⟨rfl, hb⟩; refine ⟨_, rfl, ?_⟩; have n0_ := Aside0.mk (below_step (by repeat (first | (with_reducible first | exact HB.out | apply below_alloc | apply pw_below_drewN | apply below_drew1) | exact HB.out)) hb); clear HB; have HB := n0_; clear n0_; (try clear hb); (try clear hb2); (try clear hk); (try clear hi)))
        go_ret
        exact ⟨by first | rfl | (simp [errW_none, errW_some] <;> rfl) | (simp [*, errW_none, errW_some] <;> rfl), by repeat (first | (with_reducible first | exact HB.out | apply below_alloc | apply pw_below_drewN | apply below_drew1) | exact HB.out)⟩
      · replace c15 := Bool.eq_false_iff.mpr c15
        subst c15
        have H1 : ((word_Get.f kj7 l0 a1).bind fun bt183 => ((capnpref01_Get.f kj7 l0 a1).bind fun bt185 => ((word_Words.f kj7 l0).bind fun bt187 => ((capnpref01_Words.f kj7 l0).bind fun bt191 => ((capnpref01_Place.f a5 a6).bind fun bt195 => (if bt183.1 = bt185.1 then (if (bt183.2 == bt185.2) = true then ((capnpref01_SameWords.f kj7 bt187.1 bt191.1).bind fun t197 => (if t197 = true then (if (bt187.2 == bt191.2) = true then ((word_Bytes.f kj7 l2).bind fun t198 => ((capnpref01_Bytes.f kj7 l2).bind fun t201 => ((capnpref01_Same.f kj7 t198 t201).bind fun t204 => (if t204 = true then ((word_Field.f a3 bt195.1 bt195.2).bind fun t205 => ((capnpref01_Field.f kj7 a3 bt195.1 bt195.2).bind fun t206 => (if t205 = t206 then ((word_Signed.f a3 bt195.1 bt195.2).bind fun t207 => ((capnpref01_Signed.f kj7 a3 bt195.1 bt195.2).bind fun t208 => (if t207 = t208 then ((word_Insert.f a3 bt195.1 bt195.2 a4).bind fun t209 => ((capnpref01_Insert.f kj7 a3 bt195.1 bt195.2 a4).bind fun t210 => (some (t209 == t210)))) else (none)))) else (none)))) else (none))))) else (none)) else (none))) else (none)) else (none))))))) = some r := by rw [if_neg (show ¬ (false = true) by decide)] at H; exact H
        clear H
        have H := H1
        clear H1
        replace H := Option.bind_eq_some_iff.mp H
        obtain ⟨⟨t183, t184⟩, A180, H⟩ := H
        replace H : ((capnpref01_Get.f kj7 l0 a1).bind fun bt185 => ((word_Words.f kj7 l0).bind fun bt187 => ((capnpref01_Words.f kj7 l0).bind fun bt191 => ((capnpref01_Place.f a5 a6).bind fun bt195 => (if t183 = bt185.1 then (if (t184 == bt185.2) = true then ((capnpref01_SameWords.f kj7 bt187.1 bt191.1).bind fun t197 => (if t197 = true then (if (bt187.2 == bt191.2) = true then ((word_Bytes.f kj7 l2).bind fun t198 => ((capnpref01_Bytes.f kj7 l2).bind fun t201 => ((capnpref01_Same.f kj7 t198 t201).bind fun t204 => (if t204 = true then ((word_Field.f a3 bt195.1 bt195.2).bind fun t205 => ((capnpref01_Field.f kj7 a3 bt195.1 bt195.2).bind fun t206 => (if t205 = t206 then ((word_Signed.f a3 bt195.1 bt195.2).bind fun t207 => ((capnpref01_Signed.f kj7 a3 bt195.1 bt195.2).bind fun t208 => (if t207 = t208 then ((word_Insert.f a3 bt195.1 bt195.2 a4).bind fun t209 => ((capnpref01_Insert.f kj7 a3 bt195.1 bt195.2 a4).bind fun t210 => (some (t209 == t210)))) else (none)))) else (none)))) else (none))))) else (none)) else (none))) else (none)) else (none)))))) = some r := H
        have A18 := Aside0.mk A180
        clear A180
        replace H := Option.bind_eq_some_iff.mp H
        obtain ⟨⟨t185, t186⟩, A190, H⟩ := H
        replace H : ((word_Words.f kj7 l0).bind fun bt187 => ((capnpref01_Words.f kj7 l0).bind fun bt191 => ((capnpref01_Place.f a5 a6).bind fun bt195 => (if t183 = t185 then (if (t184 == t186) = true then ((capnpref01_SameWords.f kj7 bt187.1 bt191.1).bind fun t197 => (if t197 = true then (if (bt187.2 == bt191.2) = true then ((word_Bytes.f kj7 l2).bind fun t198 => ((capnpref01_Bytes.f kj7 l2).bind fun t201 => ((capnpref01_Same.f kj7 t198 t201).bind fun t204 => (if t204 = true then ((word_Field.f a3 bt195.1 bt195.2).bind fun t205 => ((capnpref01_Field.f kj7 a3 bt195.1 bt195.2).bind fun t206 => (if t205 = t206 then ((word_Signed.f a3 bt195.1 bt195.2).bind fun t207 => ((capnpref01_Signed.f kj7 a3 bt195.1 bt195.2).bind fun t208 => (if t207 = t208 then ((word_Insert.f a3 bt195.1 bt195.2 a4).bind fun t209 => ((capnpref01_Insert.f kj7 a3 bt195.1 bt195.2 a4).bind fun t210 => (some (t209 == t210)))) else (none)))) else (none)))) else (none))))) else (none)) else (none))) else (none)) else (none))))) = some r := H
        have A19 := Aside0.mk A190
        clear A190
        replace H := Option.bind_eq_some_iff.mp H
        obtain ⟨⟨t187, t188⟩, A200, H⟩ := H
        replace H : ((capnpref01_Words.f kj7 l0).bind fun bt191 => ((capnpref01_Place.f a5 a6).bind fun bt195 => (if t183 = t185 then (if (t184 == t186) = true then ((capnpref01_SameWords.f kj7 t187 bt191.1).bind fun t197 => (if t197 = true then (if (t188 == bt191.2) = true then ((word_Bytes.f kj7 l2).bind fun t198 => ((capnpref01_Bytes.f kj7 l2).bind fun t201 => ((capnpref01_Same.f kj7 t198 t201).bind fun t204 => (if t204 = true then ((word_Field.f a3 bt195.1 bt195.2).bind fun t205 => ((capnpref01_Field.f kj7 a3 bt195.1 bt195.2).bind fun t206 => (if t205 = t206 then ((word_Signed.f a3 bt195.1 bt195.2).bind fun t207 => ((capnpref01_Signed.f kj7 a3 bt195.1 bt195.2).bind fun t208 => (if t207 = t208 then ((word_Insert.f a3 bt195.1 bt195.2 a4).bind fun t209 => ((capnpref01_Insert.f kj7 a3 bt195.1 bt195.2 a4).bind fun t210 => (some (t209 == t210)))) else (none)))) else (none)))) else (none))))) else (none)) else (none))) else (none)) else (none)))) = some r := H
        have A20 := Aside0.mk A200
        clear A200
        replace H := Option.bind_eq_some_iff.mp H
        obtain ⟨⟨t191, t192⟩, A210, H⟩ := H
        replace H : ((capnpref01_Place.f a5 a6).bind fun bt195 => (if t183 = t185 then (if (t184 == t186) = true then ((capnpref01_SameWords.f kj7 t187 t191).bind fun t197 => (if t197 = true then (if (t188 == t192) = true then ((word_Bytes.f kj7 l2).bind fun t198 => ((capnpref01_Bytes.f kj7 l2).bind fun t201 => ((capnpref01_Same.f kj7 t198 t201).bind fun t204 => (if t204 = true then ((word_Field.f a3 bt195.1 bt195.2).bind fun t205 => ((capnpref01_Field.f kj7 a3 bt195.1 bt195.2).bind fun t206 => (if t205 = t206 then ((word_Signed.f a3 bt195.1 bt195.2).bind fun t207 => ((capnpref01_Signed.f kj7 a3 bt195.1 bt195.2).bind fun t208 => (if t207 = t208 then ((word_Insert.f a3 bt195.1 bt195.2 a4).bind fun t209 => ((capnpref01_Insert.f kj7 a3 bt195.1 bt195.2 a4).bind fun t210 => (some (t209 == t210)))) else (none)))) else (none)))) else (none))))) else (none)) else (none))) else (none)) else (none))) = some r := H
        have A21 := Aside0.mk A210
        clear A210
        replace H := Option.bind_eq_some_iff.mp H
        obtain ⟨⟨t195, t196⟩, A220, H⟩ := H
        replace H : (if t183 = t185 then (if (t184 == t186) = true then ((capnpref01_SameWords.f kj7 t187 t191).bind fun t197 => (if t197 = true then (if (t188 == t192) = true then ((word_Bytes.f kj7 l2).bind fun t198 => ((capnpref01_Bytes.f kj7 l2).bind fun t201 => ((capnpref01_Same.f kj7 t198 t201).bind fun t204 => (if t204 = true then ((word_Field.f a3 t195 t196).bind fun t205 => ((capnpref01_Field.f kj7 a3 t195 t196).bind fun t206 => (if t205 = t206 then ((word_Signed.f a3 t195 t196).bind fun t207 => ((capnpref01_Signed.f kj7 a3 t195 t196).bind fun t208 => (if t207 = t208 then ((word_Insert.f a3 t195 t196 a4).bind fun t209 => ((capnpref01_Insert.f kj7 a3 t195 t196 a4).bind fun t210 => (some (t209 == t210)))) else (none)))) else (none)))) else (none))))) else (none)) else (none))) else (none)) else (none)) = some r := H
        have A22 := Aside0.mk A220
        clear A220
        by_cases c23 : t183 = t185
        · rw [if_pos c23] at H
          have c23b0 : (t183 == t185) = true := beq_iff_eq.mpr c23
          have c23b1 : (t183 != t185) = false := bne_eq_false_iff_eq.mpr c23
          clear c23
          by_cases c24 : (t184 == t186) = true
          · rw [if_pos c24] at H
            have c24b0 : (t184 == t186) = true := c24
            (try (have c24b1 : decide (t184 = t186) = true := by simpa using c24))
            (try (have c24b2 : (t184 == t186) = true := by simpa using c24))
            clear c24
            replace H := Option.bind_eq_some_iff.mp H
            obtain ⟨t197, A250, H⟩ := H
            replace H : (if t197 = true then (if (t188 == t192) = true then ((word_Bytes.f kj7 l2).bind fun t198 => ((capnpref01_Bytes.f kj7 l2).bind fun t201 => ((capnpref01_Same.f kj7 t198 t201).bind fun t204 => (if t204 = true then ((word_Field.f a3 t195 t196).bind fun t205 => ((capnpref01_Field.f kj7 a3 t195 t196).bind fun t206 => (if t205 = t206 then ((word_Signed.f a3 t195 t196).bind fun t207 => ((capnpref01_Signed.f kj7 a3 t195 t196).bind fun t208 => (if t207 = t208 then ((word_Insert.f a3 t195 t196 a4).bind fun t209 => ((capnpref01_Insert.f kj7 a3 t195 t196 a4).bind fun t210 => (some (t209 == t210)))) else (none)))) else (none)))) else (none))))) else (none)) else (none)) = some r := H
            have A25 := Aside0.mk A250
            clear A250
            by_cases c26 : t197 = true
            · subst c26
              have H1 : (if (t188 == t192) = true then ((word_Bytes.f kj7 l2).bind fun t198 => ((capnpref01_Bytes.f kj7 l2).bind fun t201 => ((capnpref01_Same.f kj7 t198 t201).bind fun t204 => (if t204 = true then ((word_Field.f a3 t195 t196).bind fun t205 => ((capnpref01_Field.f kj7 a3 t195 t196).bind fun t206 => (if t205 = t206 then ((word_Signed.f a3 t195 t196).bind fun t207 => ((capnpref01_Signed.f kj7 a3 t195 t196).bind fun t208 => (if t207 = t208 then ((word_Insert.f a3 t195 t196 a4).bind fun t209 => ((capnpref01_Insert.f kj7 a3 t195 t196 a4).bind fun t210 => (some (t209 == t210)))) else (none)))) else (none)))) else (none))))) else (none)) = some r := by rw [if_pos rfl] at H; exact H
              clear H
              have H := H1
              clear H1
              by_cases c27 : (t188 == t192) = true
              · rw [if_pos c27] at H
                have c27b0 : (t188 == t192) = true := c27
                (try (have c27b1 : decide (t188 = t192) = true := by simpa using c27))
                (try (have c27b2 : (t188 == t192) = true := by simpa using c27))
                clear c27
                replace H := Option.bind_eq_some_iff.mp H
                obtain ⟨t198, A280, H⟩ := H
                replace H : ((capnpref01_Bytes.f kj7 l2).bind fun t201 => ((capnpref01_Same.f kj7 t198 t201).bind fun t204 => (if t204 = true then ((word_Field.f a3 t195 t196).bind fun t205 => ((capnpref01_Field.f kj7 a3 t195 t196).bind fun t206 => (if t205 = t206 then ((word_Signed.f a3 t195 t196).bind fun t207 => ((capnpref01_Signed.f kj7 a3 t195 t196).bind fun t208 => (if t207 = t208 then ((word_Insert.f a3 t195 t196 a4).bind fun t209 => ((capnpref01_Insert.f kj7 a3 t195 t196 a4).bind fun t210 => (some (t209 == t210)))) else (none)))) else (none)))) else (none)))) = some r := H
                have A28 := Aside0.mk A280
                clear A280
                replace H := Option.bind_eq_some_iff.mp H
                obtain ⟨t201, A290, H⟩ := H
                replace H : ((capnpref01_Same.f kj7 t198 t201).bind fun t204 => (if t204 = true then ((word_Field.f a3 t195 t196).bind fun t205 => ((capnpref01_Field.f kj7 a3 t195 t196).bind fun t206 => (if t205 = t206 then ((word_Signed.f a3 t195 t196).bind fun t207 => ((capnpref01_Signed.f kj7 a3 t195 t196).bind fun t208 => (if t207 = t208 then ((word_Insert.f a3 t195 t196 a4).bind fun t209 => ((capnpref01_Insert.f kj7 a3 t195 t196 a4).bind fun t210 => (some (t209 == t210)))) else (none)))) else (none)))) else (none))) = some r := H
                have A29 := Aside0.mk A290
                clear A290
                replace H := Option.bind_eq_some_iff.mp H
                obtain ⟨t204, A300, H⟩ := H
                replace H : (if t204 = true then ((word_Field.f a3 t195 t196).bind fun t205 => ((capnpref01_Field.f kj7 a3 t195 t196).bind fun t206 => (if t205 = t206 then ((word_Signed.f a3 t195 t196).bind fun t207 => ((capnpref01_Signed.f kj7 a3 t195 t196).bind fun t208 => (if t207 = t208 then ((word_Insert.f a3 t195 t196 a4).bind fun t209 => ((capnpref01_Insert.f kj7 a3 t195 t196 a4).bind fun t210 => (some (t209 == t210)))) else (none)))) else (none)))) else (none)) = some r := H
                have A30 := Aside0.mk A300
                clear A300
                by_cases c31 : t204 = true
                · subst c31
                  have H1 : ((word_Field.f a3 t195 t196).bind fun t205 => ((capnpref01_Field.f kj7 a3 t195 t196).bind fun t206 => (if t205 = t206 then ((word_Signed.f a3 t195 t196).bind fun t207 => ((capnpref01_Signed.f kj7 a3 t195 t196).bind fun t208 => (if t207 = t208 then ((word_Insert.f a3 t195 t196 a4).bind fun t209 => ((capnpref01_Insert.f kj7 a3 t195 t196 a4).bind fun t210 => (some (t209 == t210)))) else (none)))) else (none)))) = some r := by rw [if_pos rfl] at H; exact H
                  clear H
                  have H := H1
                  clear H1
                  replace H := Option.bind_eq_some_iff.mp H
                  obtain ⟨t205, A320, H⟩ := H
                  replace H : ((capnpref01_Field.f kj7 a3 t195 t196).bind fun t206 => (if t205 = t206 then ((word_Signed.f a3 t195 t196).bind fun t207 => ((capnpref01_Signed.f kj7 a3 t195 t196).bind fun t208 => (if t207 = t208 then ((word_Insert.f a3 t195 t196 a4).bind fun t209 => ((capnpref01_Insert.f kj7 a3 t195 t196 a4).bind fun t210 => (some (t209 == t210)))) else (none)))) else (none))) = some r := H
                  have A32 := Aside0.mk A320
                  clear A320
                  replace H := Option.bind_eq_some_iff.mp H
                  obtain ⟨t206, A330, H⟩ := H
                  replace H : (if t205 = t206 then ((word_Signed.f a3 t195 t196).bind fun t207 => ((capnpref01_Signed.f kj7 a3 t195 t196).bind fun t208 => (if t207 = t208 then ((word_Insert.f a3 t195 t196 a4).bind fun t209 => ((capnpref01_Insert.f kj7 a3 t195 t196 a4).bind fun t210 => (some (t209 == t210)))) else (none)))) else (none)) = some r := H
                  have A33 := Aside0.mk A330
                  clear A330
                  by_cases c34 : t205 = t206
                  · rw [if_pos c34] at H
                    have c34b0 : (t205 == t206) = true := beq_iff_eq.mpr c34
                    have c34b1 : (t205 != t206) = false := bne_eq_false_iff_eq.mpr c34
                    clear c34
                    replace H := Option.bind_eq_some_iff.mp H
                    obtain ⟨t207, A350, H⟩ := H
                    replace H : ((capnpref01_Signed.f kj7 a3 t195 t196).bind fun t208 => (if t207 = t208 then ((word_Insert.f a3 t195 t196 a4).bind fun t209 => ((capnpref01_Insert.f kj7 a3 t195 t196 a4).bind fun t210 => (some (t209 == t210)))) else (none))) = some r := H
                    have A35 := Aside0.mk A350
                    clear A350
                    replace H := Option.bind_eq_some_iff.mp H
                    obtain ⟨t208, A360, H⟩ := H
                    replace H : (if t207 = t208 then ((word_Insert.f a3 t195 t196 a4).bind fun t209 => ((capnpref01_Insert.f kj7 a3 t195 t196 a4).bind fun t210 => (some (t209 == t210)))) else (none)) = some r := H
                    have A36 := Aside0.mk A360
                    clear A360
                    by_cases c37 : t207 = t208
                    · rw [if_pos c37] at H
                      have c37b0 : (t207 == t208) = true := beq_iff_eq.mpr c37
                      have c37b1 : (t207 != t208) = false := bne_eq_false_iff_eq.mpr c37
                      clear c37
                      replace H := Option.bind_eq_some_iff.mp H
                      obtain ⟨t209, A380, H⟩ := H
                      replace H : ((capnpref01_Insert.f kj7 a3 t195 t196 a4).bind fun t210 => (some (t209 == t210))) = some r := H
                      have A38 := Aside0.mk A380
                      clear A380
                      replace H := Option.bind_eq_some_iff.mp H
                      obtain ⟨t210, A390, H⟩ := H
                      replace H : (some (t209 == t210)) = some r := H
                      have A39 := Aside0.mk A390
                      clear A390
                      obtain rfl := Option.some.inj H
                      go_wp2_with (first | ((with_reducible refine gate_callee (f := 20) rfl ?_); refine goesL_ (some 41) rfl rfl Try.func20 (by kernel_rfl) rfl #[.slice A0 l0.length c0, .int .i64 a1] rfl (by (try simp only [List.map_toArray, List.map_cons, List.map_nil]); first | done | rfl | (simp only [List.length_drop, List.length_take]; rfl)) ?_; (with_reducible refine (word_Get.calls kj7 _ _ l0 a1 t183 t184 _ ?side1 ?side2 A18.out).mono ?_); (case side1 => repeat (first | exact (Kd.C_below HR0.out HB.out) | (with_reducible refine Kd.C_alloc ?_ _) | (with_reducible refine Kd.C_drewN ?_ _) | (with_reducible refine Kd.C_drew ?_))); (case side2 => exact HC0.out); rintro e w' ⟨rfl, ⟨nd, rfl⟩⟩; refine ⟨_, rfl, ?_⟩) | ((with_reducible refine gate_callee (f := 21) rfl ?_); refine goesL_ (some 47) rfl rfl Try.func21 (by kernel_rfl) rfl #[.slice A0 l0.length c0, .int .i64 a1] rfl (by (try simp only [List.map_toArray, List.map_cons, List.map_nil]); first | done | rfl | (simp only [List.length_drop, List.length_take]; rfl)) ?_; (with_reducible refine (capnpref01_Get.calls kj7 _ _ l0 a1 t185 t186 _ ?side1 ?side2 A19.out).mono ?_); (case side1 => repeat (first | exact (Kd.C_below HR0.out (by repeat (first | (with_reducible first | exact HB.out | apply below_alloc | apply pw_below_drewN | apply below_drew1) | exact HB.out))) | (with_reducible refine Kd.C_alloc ?_ _) | (with_reducible refine Kd.C_drewN ?_ _) | (with_reducible refine Kd.C_drew ?_))); (case side2 => exact HC0.out); rintro e w' ⟨rfl, ⟨nd, rfl⟩⟩; refine ⟨_, rfl, ?_⟩) | ((with_reducible refine gate_callee (f := 22) rfl ?_); refine goesL_ (some 52) rfl rfl Try.func22 (by kernel_rfl) rfl #[.slice A0 l0.length c0] rfl (by (try simp only [List.map_toArray, List.map_cons, List.map_nil]); first | done | rfl | (simp only [List.length_drop, List.length_take]; rfl)) ?_; (with_reducible refine (word_Words.calls kj7 _ _ l0 t187 t188 _ ?side1 ?side2 A20.out).mono ?_); (case side1 => repeat (first | exact (Kd.C_below HR0.out (by repeat (first | (with_reducible first | exact HB.out | apply below_alloc | apply pw_below_drewN | apply below_drew1) | exact HB.out))) | (with_reducible refine Kd.C_alloc ?_ _) | (with_reducible refine Kd.C_drewN ?_ _) | (with_reducible refine Kd.C_drew ?_))); (case side2 => exact HC0.out); rintro e w40 ⟨v189, rfl, ho0, hb⟩; refine ⟨_, rfl, ?_⟩; have n0_ := Aside0.mk (Kd.R_lower ho0 (below_size (by repeat (first | (with_reducible first | exact HB.out | apply below_alloc | apply pw_below_drewN | apply below_drew1) | exact HB.out)))); have n1_ := Aside0.mk (below_step (by repeat (first | (with_reducible first | exact HB.out | apply below_alloc | apply pw_below_drewN | apply below_drew1) | exact HB.out)) hb); clear HB; have HO190 := n0_; have HB := n1_; clear n0_ n1_; (try clear hb); (try clear hb2); (try clear hk); (try clear hi); (try clear ho0)) | ((with_reducible refine gate_callee (f := 23) rfl ?_); refine goesL_ (some 57) rfl rfl Try.func23 (by kernel_rfl) rfl #[.slice A0 l0.length c0] rfl (by (try simp only [List.map_toArray, List.map_cons, List.map_nil]); first | done | rfl | (simp only [List.length_drop, List.length_take]; rfl)) ?_; (with_reducible refine (capnpref01_Words.calls kj7 _ _ l0 t191 t192 _ ?side1 ?side2 A21.out).mono ?_); (case side1 => repeat (first | exact (Kd.C_below HR0.out HB.out) | (with_reducible refine Kd.C_alloc ?_ _) | (with_reducible refine Kd.C_drewN ?_ _) | (with_reducible refine Kd.C_drew ?_))); (case side2 => exact HC0.out); rintro e w41 ⟨v193, rfl, ho0, hb⟩; refine ⟨_, rfl, ?_⟩; have n0_ := Aside0.mk (Kd.R_elder' (by (with_reducible repeat (first | apply Kd.R_alloc | apply Kd.R_drewN | apply Kd.R_drew)); exact HO190.out) (Kd.R_base ho0) hb); have n1_ := Aside0.mk (Kd.R_lower (Kd.R_new' ho0 (Kd.R_lt (by (with_reducible repeat (first | apply Kd.R_alloc | apply Kd.R_drewN | apply Kd.R_drew)); exact HO190.out))) (below_size (by repeat (first | (with_reducible first | exact HB.out | apply below_alloc | apply pw_below_drewN | apply below_drew1) | exact HB.out)))); have n2_ := Aside0.mk (below_step (by repeat (first | (with_reducible first | exact HB.out | apply below_alloc | apply pw_below_drewN | apply below_drew1) | exact HB.out)) hb); clear HO190; clear HB; have HO190 := n0_; have HO194 := n1_; have HB := n2_; clear n0_ n1_ n2_; (try clear hb); (try clear hb2); (try clear hk); (try clear hi); (try clear ho0)) | ((with_reducible refine gate_callee (f := 24) rfl ?_); refine goesL_ (some 63) rfl rfl Try.func24 (by kernel_rfl) rfl #[.int .u8 a5, .int .u8 a6] rfl (by (try simp only [List.map_toArray, List.map_cons, List.map_nil]); first | done | rfl | (simp only [List.length_drop, List.length_take]; rfl)) ?_; (with_reducible refine (capnpref01_Place.calls a5 a6 t195 t196 _ A22.out).mono ?_); rintro e w' ⟨rfl, ⟨nd, rfl⟩⟩; refine ⟨_, rfl, ?_⟩; obtain ⟨Ao42, co42, eo42⟩ := Kd.R_slice HO190.out; subst eo42; obtain ⟨Ao43, co43, eo43⟩ := Kd.R_slice HO194.out; subst eo43) | (go_at_call 25; (with_reducible refine (capnpref01_SameWords.calls kj7 _ _ t187 _ _ t191 true _ ?side1 ?side2 ?side3 ?side4 A25.out).mono ?_); (case side1 => repeat (first | exact (Kd.R_reads' HO190.out).2.2 | (with_reducible refine Kd.C_alloc ?_ _) | (with_reducible refine Kd.C_drewN ?_ _) | (with_reducible refine Kd.C_drew ?_))); (case side2 => exact (Kd.R_reads' HO190.out).2.1); (case side3 => repeat (first | exact (Kd.R_reads' HO194.out).2.2 | (with_reducible refine Kd.C_alloc ?_ _) | (with_reducible refine Kd.C_drewN ?_ _) | (with_reducible refine Kd.C_drew ?_))); (case side4 => exact (Kd.R_reads' HO194.out).2.1); rintro e w' ⟨rfl, ⟨nd, rfl⟩⟩) | (go_at_call 27; (with_reducible refine (word_Bytes.calls kj7 _ _ l2 t198 _ ?side1 ?side2 A28.out).mono ?_); (case side1 => repeat (first | exact (Kd.C_below HR2.out (by repeat (first | (with_reducible first | exact HB.out | apply below_alloc | apply pw_below_drewN | apply below_drew1) | exact HB.out))) | (with_reducible refine Kd.C_alloc ?_ _) | (with_reducible refine Kd.C_drewN ?_ _) | (with_reducible refine Kd.C_drew ?_))); (case side2 => exact HC2.out); rintro e w44 ⟨v199, rfl, ho0, hb⟩; have n0_ := Aside0.mk (Kd.R_below (by (with_reducible repeat (first | apply Kd.R_alloc | apply Kd.R_drewN | apply Kd.R_drew)); exact HO190.out) hb); have n1_ := Aside0.mk (Kd.R_below (by (with_reducible repeat (first | apply Kd.R_alloc | apply Kd.R_drewN | apply Kd.R_drew)); exact HO194.out) hb); have n2_ := Aside0.mk (Kd.R_lower ho0 (below_size (by repeat (first | (with_reducible first | exact HB.out | apply below_alloc | apply pw_below_drewN | apply below_drew1) | exact HB.out)))); have n3_ := Aside0.mk (below_step (by repeat (first | (with_reducible first | exact HB.out | apply below_alloc | apply pw_below_drewN | apply below_drew1) | exact HB.out)) hb); clear HO190; clear HO194; clear HB; have HO190 := n0_; have HO194 := n1_; have HO200 := n2_; have HB := n3_; clear n0_ n1_ n2_ n3_; (try clear hb); (try clear hb2); (try clear hk); (try clear hi); (try clear ho0)) | (go_at_call 18; (with_reducible refine (capnpref01_Bytes.calls kj7 _ _ l2 t201 _ ?side1 ?side2 A29.out).mono ?_); (case side1 => repeat (first | exact (Kd.C_below HR2.out HB.out) | (with_reducible refine Kd.C_alloc ?_ _) | (with_reducible refine Kd.C_drewN ?_ _) | (with_reducible refine Kd.C_drew ?_))); (case side2 => exact HC2.out); rintro e w45 ⟨v202, rfl, ho0, hb⟩; have n0_ := Aside0.mk (Kd.R_below (by (with_reducible repeat (first | apply Kd.R_alloc | apply Kd.R_drewN | apply Kd.R_drew)); exact HO190.out) hb); have n1_ := Aside0.mk (Kd.R_below (by (with_reducible repeat (first | apply Kd.R_alloc | apply Kd.R_drewN | apply Kd.R_drew)); exact HO194.out) hb); have n2_ := Aside0.mk (Kd.R_elder' (by (with_reducible repeat (first | apply Kd.R_alloc | apply Kd.R_drewN | apply Kd.R_drew)); exact HO200.out) (Kd.R_base ho0) hb); have n3_ := Aside0.mk (Kd.R_lower (Kd.R_new' ho0 (Kd.R_lt (by (with_reducible repeat (first | apply Kd.R_alloc | apply Kd.R_drewN | apply Kd.R_drew)); exact HO200.out))) (below_size (by repeat (first | (with_reducible first | exact HB.out | apply below_alloc | apply pw_below_drewN | apply below_drew1) | exact HB.out)))); have n4_ := Aside0.mk (below_step (by repeat (first | (with_reducible first | exact HB.out | apply below_alloc | apply pw_below_drewN | apply below_drew1) | exact HB.out)) hb); clear HO190; clear HO194; clear HO200; clear HB; have HO190 := n0_; have HO194 := n1_; have HO200 := n2_; have HO203 := n3_; have HB := n4_; clear n0_ n1_ n2_ n3_ n4_; (try clear hb); (try clear hb2); (try clear hk); (try clear hi); (try clear ho0); obtain ⟨Ao46, co46, eo46⟩ := Kd.R_slice HO200.out; subst eo46; obtain ⟨Ao47, co47, eo47⟩ := Kd.R_slice HO203.out; subst eo47) | (go_at_call 26; (with_reducible refine (capnpref01_Same.calls kj7 _ _ t198 _ _ t201 true _ ?side1 ?side2 ?side3 ?side4 A30.out).mono ?_); (case side1 => repeat (first | exact (Kd.R_reads' HO200.out).2.2 | (with_reducible refine Kd.C_alloc ?_ _) | (with_reducible refine Kd.C_drewN ?_ _) | (with_reducible refine Kd.C_drew ?_))); (case side2 => exact (Kd.R_reads' HO200.out).2.1); (case side3 => repeat (first | exact (Kd.R_reads' HO203.out).2.2 | (with_reducible refine Kd.C_alloc ?_ _) | (with_reducible refine Kd.C_drewN ?_ _) | (with_reducible refine Kd.C_drew ?_))); (case side4 => exact (Kd.R_reads' HO203.out).2.1); rintro e w' ⟨rfl, ⟨nd, rfl⟩⟩) | (go_at_call 28; (with_reducible refine (word_Field.calls a3 t195 t196 t205 _ A32.out).mono ?_); rintro e w' ⟨rfl, ⟨nd, rfl⟩⟩) | (go_at_call 29; (with_reducible refine (capnpref01_Field.calls kj7 a3 t195 t196 t206 _ A33.out).mono ?_); rintro e w' ⟨rfl, ⟨nd, rfl⟩⟩) | (go_at_call 30; (with_reducible refine (word_Signed.calls a3 t195 t196 t207 _ A35.out).mono ?_); rintro e w' ⟨rfl, ⟨nd, rfl⟩⟩) | (go_at_call 31; (with_reducible refine (capnpref01_Signed.calls kj7 a3 t195 t196 t208 _ A36.out).mono ?_); rintro e w' ⟨rfl, ⟨nd, rfl⟩⟩) | (go_at_call 32; (with_reducible refine (word_Insert.calls a3 t195 t196 a4 t209 _ A38.out).mono ?_); rintro e w' ⟨rfl, ⟨nd, rfl⟩⟩) | (go_at_call 33; (with_reducible refine (capnpref01_Insert.calls kj7 a3 t195 t196 a4 t210 _ A39.out).mono ?_); rintro e w' ⟨rfl, ⟨nd, rfl⟩⟩))
                      go_ret
                      exact ⟨by first | rfl | (simp [errW_none, errW_some] <;> rfl) | (simp [*, errW_none, errW_some] <;> rfl), by repeat (first | (with_reducible first | exact HB.out | apply below_alloc | apply pw_below_drewN | apply below_drew1) | exact HB.out)⟩
                    · rw [if_neg c37] at H
                      exact absurd H (by simp)
                  · rw [if_neg c34] at H
                    exact absurd H (by simp)
                · replace c31 := Bool.eq_false_iff.mpr c31
                  subst c31
                  have H1 : (none) = some r := by rw [if_neg (show ¬ (false = true) by decide)] at H; exact H
                  clear H
                  have H := H1
                  clear H1
                  exact absurd H (by simp)
              · rw [if_neg c27] at H
                exact absurd H (by simp)
            · replace c26 := Bool.eq_false_iff.mpr c26
              subst c26
              have H1 : (none) = some r := by rw [if_neg (show ¬ (false = true) by decide)] at H; exact H
              clear H
              have H := H1
              clear H1
              exact absurd H (by simp)
          · rw [if_neg c24] at H
            exact absurd H (by simp)
        · rw [if_neg c23] at H
          exact absurd H (by simp)

/-- THE ONE PURE STATEMENT of capnplaw01_WordMatchesReference: yours. -/
def capnplaw01_WordMatchesReference.Pure : Prop := ∀ (l0 : List Int) (a1 : Int) (l2 : List Int) (a3 : Int) (a4 : Int) (a5 : Int) (a6 : Int), l0.length ≤ maxLen → l0.length * 1 ≤ 140737488351232 → (∀ x ∈ l0, (Lit.int .u8 x).wf = true) → (Lit.int .i64 a1).wf = true → l2.length ≤ maxLen → l2.length * 8 ≤ 140737488351232 → (∀ x ∈ l2, (Lit.int .u64 x).wf = true) → (Lit.int .u64 a3).wf = true → (Lit.int .u64 a4).wf = true → (Lit.int .u8 a5).wf = true → (Lit.int .u8 a6).wf = true → ∃ k, capnplaw01_WordMatchesReference.f k l0 a1 l2 a3 a4 a5 a6 = some true
theorem capnplaw01_WordMatchesReference.walk (P : capnplaw01_WordMatchesReference.Pure) (a0 : Option Addr) (len0 cap0 : Nat) (z0 : List Int) (a1 : Int) (a2 : Option Addr) (len2 cap2 : Nat) (z2 : List Int) (a3 : Int) (a4 : Int) (a5 : Int) (a6 : Int) (w : World) (w0 : (a0 = none ∧ len0 = 0 ∧ cap0 = 0 ∧ z0 = []) ∨ ∃ x, a0 = some x ∧ len0 ≤ cap0 ∧ cap0 ≤ maxLen ∧ z0.length = cap0 ∧ (∀ i, i < z0.length → w.cell? (x.add i) = some (.int .u8 (z0.getD i 0))) ∧ ∀ n ∈ z0, (Lit.int .u8 n).wf = true) (y0 : len0 * 1 ≤ 140737488351232) (w1 : (Lit.int .i64 a1).wf = true) (w2 : (a2 = none ∧ len2 = 0 ∧ cap2 = 0 ∧ z2 = []) ∨ ∃ x, a2 = some x ∧ len2 ≤ cap2 ∧ cap2 ≤ maxLen ∧ z2.length = cap2 ∧ (∀ i, i < z2.length → w.cell? (x.add i) = some (.int .u64 (z2.getD i 0))) ∧ ∀ n ∈ z2, (Lit.int .u64 n).wf = true) (y2 : len2 * 8 ≤ 140737488351232) (w3 : (Lit.int .u64 a3).wf = true) (w4 : (Lit.int .u64 a4).wf = true) (w5 : (Lit.int .u8 a5).wf = true) (w6 : (Lit.int .u8 a6).wf = true) :
    Calls Try.prog 7 #[.slice a0 len0 cap0, .int .i64 a1, .slice a2 len2 cap2, .int .u64 a3, .int .u64 a4, .int .u8 a5, .int .u8 a6] w fun e w' => e = .returned (.bool true) ∧ Below w.heap.size w w' := by
  obtain ⟨l0, rfl, hr0, hm0, hw0, hc0⟩ := ReadsInt.ofRowC w0
  obtain ⟨l2, rfl, hr2, hm2, hw2, hc2⟩ := ReadsInt.ofRowC w2
  obtain ⟨k, h⟩ := P l0 a1 l2 a3 a4 a5 a6 hm0 y0 hw0 w1 hm2 y2 hw2 w3 w4 w5 w6
  refine (capnplaw01_WordMatchesReference.calls k _ _ l0 a1 _ _ l2 a3 a4 a5 a6 true w (Kd.C_of_reads (d := (0 : Int)) (h1 := fun _ => rfl) hr0) hc0 (Kd.C_of_reads (d := (0 : Int)) (h1 := fun _ => rfl) hr2) hc2 h).mono ?_
  rintro e w' ⟨rfl, hd⟩
  exact ⟨rfl, hd⟩

end Go.Proofs.Ytipimnidbopaoaa.PWordMatchesReference
