-- written by myprint.py, a program of this session
import Derived.Test.YtipimnidbopaoaaPWordSignedFieldsx0
import Derived.Test.YtipimnidbopaoaaPWordSignedFieldsx2
import Derived.Test.YtipimnidbopaoaaPWordSignedFieldsx3
namespace Go.Proofs.Ytipimnidbopaoaa.PWordSignedFields
open Go.RowKit Go.Proofs.YtipimnidbopaoaaW.PrintWords Go.Proofs.YtipimnidbopaoaaW.PrintLast Go.Proofs.YtipimnidbopaoaaW.PrintMore
attribute [local go_sem] max2_int min2_int max_two min_two max_three min_three max_four min_four   -- for this text's walks alone
set_option linter.unusedVariables false
set_option linter.unusedSimpArgs false

/-! ### capnpref01_Pow: function 34 -/
def capnpref01_Pow.l0 : Nat → Int → Int → Int → Option (Int)
  | 0, _, _, _ => none
  | k + 1, x0, x3, x4 => if x4 < x0 then (capnpref01_Pow.l0 k x0 (IntKind.u64.wrap (x3 * 2)) (wrap64 (x4 + 1))) else (some x3)
def capnpref01_Pow.f (k : Nat) (a0 : Int) : Option (Int) := capnpref01_Pow.l0 k a0 1 0
theorem capnpref01_Pow.mono_l : ∀ k, (∀ y0 y1 y2, LeO (capnpref01_Pow.l0 k y0 y1 y2) (capnpref01_Pow.l0 (k + 1) y0 y1 y2))
  | 0 => fun _ _ _ r h => by simp [capnpref01_Pow.l0] at h
  | k + 1 => by
    have ih0 := capnpref01_Pow.mono_l k
    · intro y0 y1 y2
      unfold capnpref01_Pow.l0
      repeat' first
      | (with_reducible exact ih0 _ _ _)
      | (with_reducible exact LeO.refl _)
      | (with_reducible exact LeO.none _)
      | (with_reducible refine LeO.ite ?_ ?_)
      | (with_reducible refine LeO.bind ?_ (fun _ => ?_))
      | exact ih0 _ _ _
      | exact LeO.none _
      | refine LeO.ite ?_ ?_
      | refine LeO.bind ?_ (fun _ => ?_)
theorem capnpref01_Pow.mono : ∀ a0 k, LeO (capnpref01_Pow.f k a0) (capnpref01_Pow.f (k + 1) a0) := by
  intro a0 k
  have ih0 := capnpref01_Pow.mono_l k
  unfold capnpref01_Pow.f
  repeat' first
      | (with_reducible exact ih0 _ _ _)
      | (with_reducible exact LeO.refl _)
      | (with_reducible exact LeO.none _)
      | (with_reducible refine LeO.ite ?_ ?_)
      | (with_reducible refine LeO.bind ?_ (fun _ => ?_))
      | exact ih0 _ _ _
      | exact LeO.none _
      | refine LeO.ite ?_ ?_
      | refine LeO.bind ?_ (fun _ => ?_)
set_option maxHeartbeats 8000000 in
set_option maxRecDepth 100000 in
theorem capnpref01_Pow.calls (k : Nat) (a0 : Int) (r : Int) (w : World) (h : capnpref01_Pow.f k a0 = some r) :
    Calls Try.prog 34 #[.int .i64 a0] w fun e w' => e = .returned (.int .u64 r) ∧ Drawn0 w w' := by
  have H : (capnpref01_Pow.l0 k a0 1 0) = some r := h
  clear h
  have H' := Aside0.mk H
  clear H
  go_enter Try.func34, Try.ntmps34
  go_wp2
  go_loopg [3, 4] k (fun kq v3 v4 w' => ∃ (x3_1 : Int) (x4_1 : Int), v3 = .int .u64 x3_1 ∧ v4 = .int .i64 x4_1 ∧ Aside0 (capnpref01_Pow.l0 kq a0 x3_1 x4_1 = some r) ∧ Aside0 (kq ≤ k) ∧ Drawn0 w w')
  case atStart => exact ⟨(1), (0), (by first | rfl | (simp; done) | (simp [*]; done)), (by first | rfl | (simp; done) | (simp [*]; done)), H', ⟨Nat.le_refl _⟩, by repeat (first | exact Drawn0.refl _ | apply Drawn0.step)⟩
  case round =>
    clear H'
    obtain ⟨x3_1, x4_1, rfl, rfl, HA, HK1, ⟨m1, rfl⟩⟩ := hrel
    cases gk with
    | zero => exact absurd HA.out (by simp [capnpref01_Pow.l0])
    | succ k1 =>
      have H := HA.out
      clear HA
      simp only [capnpref01_Pow.l0] at H
      by_cases c2 : x4_1 < a0
      · rw [if_pos c2] at H
        have c2b0 : decide (x4_1 < a0) = true := decide_eq_true c2
        clear c2
        have H' := Aside0.mk H
        clear H
        go_wp2
        go_roundg k1
        case measure => have := HK1.out; omega
        case rel => exact ⟨(IntKind.u64.wrap (x3_1 * 2)), (wrap64 (x4_1 + 1)), (by first | rfl | (simp; done) | (simp [*]; done)), (by first | rfl | (simp; done) | (simp [*]; done)), H', ⟨by have := HK1.out; omega⟩, by repeat (first | exact Drawn0.refl _ | apply Drawn0.step)⟩
      · rw [if_neg c2] at H
        have c2b0 : decide (x4_1 < a0) = false := decide_eq_false c2
        clear c2
        obtain rfl := Option.some.inj H
        go_wp2
        go_ret
        exact ⟨by first | rfl | (simp; done) | (simp [*]; done), by repeat (first | exact Drawn0.refl _ | apply Drawn0.step)⟩

/-! ### capnplaw01_WordSignedFields: function 10 -/
def capnplaw01_WordSignedFields.j0 : Nat → Int → Int → Int → Bool → Option (Bool)
  | 0, _, _, _, _ => none
  | k + 1, x8, x9, x10, x44 => if x44 = true then (some false) else (if x8 = 64 then (some (x9 == (wrap64 (x10)))) else ((capnpref01_Pow.f k (wrap64 (x8 - 1))).bind fun t168 => (if x9 ≥ (wrap64 (-(wrap64 (t168)))) then ((capnpref01_Pow.f k (wrap64 (x8 - 1))).bind fun t169 => (some (decide (x9 < (wrap64 (t169)))))) else (none))))
def capnplaw01_WordSignedFields.f (k : Nat) (a0 : Int) (a1 : Int) (a2 : Int) : Option (Bool) := (capnplaw01_awake.f k).bind fun t161 => (if t161 = true then ((capnpref01_Place.f a1 a2).bind fun bt162 => ((word_Signed.f a0 bt162.1 bt162.2).bind fun t164 => ((word_Field.f a0 bt162.1 bt162.2).bind fun t165 => ((word_Field.f (IntKind.u64.wrap (t164)) 0 bt162.2).bind fun t166 => (if t166 = t165 then ((word_Field.f a0 (wrap64 ((wrap64 (bt162.1 + bt162.2)) - 1)) 1).bind fun t167 => (capnplaw01_WordSignedFields.j0 k bt162.2 t164 t165 ((decide (t164 < 0)) != (t167 == 1)))) else (capnplaw01_WordSignedFields.j0 k bt162.2 t164 t165 true)))))) else (some false))
theorem capnplaw01_WordSignedFields.mono_l : ∀ k, (∀ y0 y1 y2 y3, LeO (capnplaw01_WordSignedFields.j0 k y0 y1 y2 y3) (capnplaw01_WordSignedFields.j0 (k + 1) y0 y1 y2 y3))
  | 0 => fun _ _ _ _ r h => by simp [capnplaw01_WordSignedFields.j0] at h
  | k + 1 => by
    have ih0 := capnplaw01_WordSignedFields.mono_l k
    · intro y0 y1 y2 y3
      unfold capnplaw01_WordSignedFields.j0
      repeat' first
      | (with_reducible exact ih0 _ _ _ _)
      | (with_reducible exact capnplaw01_awake.mono _)
      | (with_reducible exact capnpref01_Pow.mono _ _)
      | (with_reducible exact LeO.refl _)
      | (with_reducible exact LeO.none _)
      | (with_reducible refine LeO.ite ?_ ?_)
      | (with_reducible refine LeO.bind ?_ (fun _ => ?_))
      | exact ih0 _ _ _ _
      | exact capnplaw01_awake.mono _
      | exact capnpref01_Pow.mono _ _
      | exact LeO.none _
      | refine LeO.ite ?_ ?_
      | refine LeO.bind ?_ (fun _ => ?_)
theorem capnplaw01_WordSignedFields.mono : ∀ a0 a1 a2 k, LeO (capnplaw01_WordSignedFields.f k a0 a1 a2) (capnplaw01_WordSignedFields.f (k + 1) a0 a1 a2) := by
  intro a0 a1 a2 k
  have ih0 := capnplaw01_WordSignedFields.mono_l k
  unfold capnplaw01_WordSignedFields.f
  repeat' first
      | (with_reducible exact ih0 _ _ _ _)
      | (with_reducible exact capnplaw01_awake.mono _)
      | (with_reducible exact capnpref01_Pow.mono _ _)
      | (with_reducible exact LeO.refl _)
      | (with_reducible exact LeO.none _)
      | (with_reducible refine LeO.ite ?_ ?_)
      | (with_reducible refine LeO.bind ?_ (fun _ => ?_))
      | exact ih0 _ _ _ _
      | exact capnplaw01_awake.mono _
      | exact capnpref01_Pow.mono _ _
      | exact LeO.none _
      | refine LeO.ite ?_ ?_
      | refine LeO.bind ?_ (fun _ => ?_)
set_option maxHeartbeats 8000000 in
set_option maxRecDepth 100000 in
theorem capnplaw01_WordSignedFields.calls (k : Nat) (a0 : Int) (a1 : Int) (a2 : Int) (r : Bool) (w : World) (h : capnplaw01_WordSignedFields.f k a0 a1 a2 = some r) :
    Calls Try.prog 10 #[.int .u64 a0, .int .u8 a1, .int .u8 a2] w fun e w' => e = .returned (.bool r) ∧ Below w.heap.size w w' := by
  have HB := Aside0.mk (Below.refl w.heap.size w)
  have H : ((capnplaw01_awake.f k).bind fun t161 => (if t161 = true then ((capnpref01_Place.f a1 a2).bind fun bt162 => ((word_Signed.f a0 bt162.1 bt162.2).bind fun t164 => ((word_Field.f a0 bt162.1 bt162.2).bind fun t165 => ((word_Field.f (IntKind.u64.wrap (t164)) 0 bt162.2).bind fun t166 => (if t166 = t165 then ((word_Field.f a0 (wrap64 ((wrap64 (bt162.1 + bt162.2)) - 1)) 1).bind fun t167 => (capnplaw01_WordSignedFields.j0 k bt162.2 t164 t165 ((decide (t164 < 0)) != (t167 == 1)))) else (capnplaw01_WordSignedFields.j0 k bt162.2 t164 t165 true)))))) else (some false))) = some r := h
  clear h
  replace H := Option.bind_eq_some_iff.mp H
  obtain ⟨t161, A40, H⟩ := H
  replace H : (if t161 = true then ((capnpref01_Place.f a1 a2).bind fun bt162 => ((word_Signed.f a0 bt162.1 bt162.2).bind fun t164 => ((word_Field.f a0 bt162.1 bt162.2).bind fun t165 => ((word_Field.f (IntKind.u64.wrap (t164)) 0 bt162.2).bind fun t166 => (if t166 = t165 then ((word_Field.f a0 (wrap64 ((wrap64 (bt162.1 + bt162.2)) - 1)) 1).bind fun t167 => (capnplaw01_WordSignedFields.j0 k bt162.2 t164 t165 ((decide (t164 < 0)) != (t167 == 1)))) else (capnplaw01_WordSignedFields.j0 k bt162.2 t164 t165 true)))))) else (some false)) = some r := H
  have A4 := Aside0.mk A40
  clear A40
  by_cases c5 : t161 = true
  · subst c5
    have H1 : ((capnpref01_Place.f a1 a2).bind fun bt162 => ((word_Signed.f a0 bt162.1 bt162.2).bind fun t164 => ((word_Field.f a0 bt162.1 bt162.2).bind fun t165 => ((word_Field.f (IntKind.u64.wrap (t164)) 0 bt162.2).bind fun t166 => (if t166 = t165 then ((word_Field.f a0 (wrap64 ((wrap64 (bt162.1 + bt162.2)) - 1)) 1).bind fun t167 => (capnplaw01_WordSignedFields.j0 k bt162.2 t164 t165 ((decide (t164 < 0)) != (t167 == 1)))) else (capnplaw01_WordSignedFields.j0 k bt162.2 t164 t165 true)))))) = some r := by rw [if_pos rfl] at H; exact H
    clear H
    have H := H1
    clear H1
    replace H := Option.bind_eq_some_iff.mp H
    obtain ⟨⟨t162, t163⟩, A60, H⟩ := H
    replace H : ((word_Signed.f a0 t162 t163).bind fun t164 => ((word_Field.f a0 t162 t163).bind fun t165 => ((word_Field.f (IntKind.u64.wrap (t164)) 0 t163).bind fun t166 => (if t166 = t165 then ((word_Field.f a0 (wrap64 ((wrap64 (t162 + t163)) - 1)) 1).bind fun t167 => (capnplaw01_WordSignedFields.j0 k t163 t164 t165 ((decide (t164 < 0)) != (t167 == 1)))) else (capnplaw01_WordSignedFields.j0 k t163 t164 t165 true))))) = some r := H
    have A6 := Aside0.mk A60
    clear A60
    replace H := Option.bind_eq_some_iff.mp H
    obtain ⟨t164, A70, H⟩ := H
    replace H : ((word_Field.f a0 t162 t163).bind fun t165 => ((word_Field.f (IntKind.u64.wrap (t164)) 0 t163).bind fun t166 => (if t166 = t165 then ((word_Field.f a0 (wrap64 ((wrap64 (t162 + t163)) - 1)) 1).bind fun t167 => (capnplaw01_WordSignedFields.j0 k t163 t164 t165 ((decide (t164 < 0)) != (t167 == 1)))) else (capnplaw01_WordSignedFields.j0 k t163 t164 t165 true)))) = some r := H
    have A7 := Aside0.mk A70
    clear A70
    replace H := Option.bind_eq_some_iff.mp H
    obtain ⟨t165, A80, H⟩ := H
    replace H : ((word_Field.f (IntKind.u64.wrap (t164)) 0 t163).bind fun t166 => (if t166 = t165 then ((word_Field.f a0 (wrap64 ((wrap64 (t162 + t163)) - 1)) 1).bind fun t167 => (capnplaw01_WordSignedFields.j0 k t163 t164 t165 ((decide (t164 < 0)) != (t167 == 1)))) else (capnplaw01_WordSignedFields.j0 k t163 t164 t165 true))) = some r := H
    have A8 := Aside0.mk A80
    clear A80
    have HC9 := Aside0.mk H
    clear H
    go_enter Try.func10, Try.ntmps10
    go_upto_region 6 with (first | ((with_reducible refine gate_callee (f := 19) rfl ?_); refine goesL_ (some 11) rfl rfl Try.func19 (by kernel_rfl) rfl #[] rfl (by (try simp only [List.map_toArray, List.map_cons, List.map_nil]); first | done | rfl | (simp only [List.length_drop, List.length_take]; rfl)) ?_; (with_reducible refine (capnplaw01_awake.calls k  true _ A4.out).mono ?_); rintro e w10 ⟨rfl, hb⟩; refine ⟨_, rfl, ?_⟩; have n0_ := Aside0.mk (below_step (by repeat (first | (with_reducible first | exact HB.out | apply below_alloc | apply pw_below_drewN | apply below_drew1) | exact HB.out)) hb); clear HB; have HB := n0_; clear n0_; (try clear hb); (try clear hb2); (try clear hk); (try clear hi)) | ((with_reducible refine gate_callee (f := 24) rfl ?_); refine goesL_ (some 16) rfl rfl Try.func24 (by kernel_rfl) rfl #[.int .u8 a1, .int .u8 a2] rfl (by (try simp only [List.map_toArray, List.map_cons, List.map_nil]); first | done | rfl | (simp only [List.length_drop, List.length_take]; rfl)) ?_; (with_reducible refine (capnpref01_Place.calls a1 a2 t162 t163 _ A6.out).mono ?_); rintro e w' ⟨rfl, ⟨nd, rfl⟩⟩; refine ⟨_, rfl, ?_⟩) | ((with_reducible refine gate_callee (f := 30) rfl ?_); refine goesL_ (some 22) rfl rfl Try.func30 (by kernel_rfl) rfl #[.int .u64 a0, .int .i64 t162, .int .i64 t163] rfl (by (try simp only [List.map_toArray, List.map_cons, List.map_nil]); first | done | rfl | (simp only [List.length_drop, List.length_take]; rfl)) ?_; (with_reducible refine (word_Signed.calls a0 t162 t163 t164 _ A7.out).mono ?_); rintro e w' ⟨rfl, ⟨nd, rfl⟩⟩; refine ⟨_, rfl, ?_⟩) | ((with_reducible refine gate_callee (f := 28) rfl ?_); refine goesL_ (some 26) rfl rfl Try.func28 (by kernel_rfl) rfl #[.int .u64 a0, .int .i64 t162, .int .i64 t163] rfl (by (try simp only [List.map_toArray, List.map_cons, List.map_nil]); first | done | rfl | (simp only [List.length_drop, List.length_take]; rfl)) ?_; (with_reducible refine (word_Field.calls a0 t162 t163 t165 _ A8.out).mono ?_); rintro e w' ⟨rfl, ⟨nd, rfl⟩⟩; refine ⟨_, rfl, ?_⟩))
    (try simp only [Act.put, List.setIfInBounds_toArray, List.set_cons_zero, List.set_cons_succ])
    go_cut [44] (fun v44 wc => ∃ (kq : Nat) (x44_8 : Bool), v44 = .bool x44_8 ∧ Aside0 (capnplaw01_WordSignedFields.j0 kq t163 t164 t165 x44_8 = some r) ∧ Aside0 (kq ≤ k) ∧ Aside0 (Below w.heap.size w wc))
    case first =>
      have H := HC9.out
      clear HC9
      replace H := Option.bind_eq_some_iff.mp H
      obtain ⟨t166, A110, H⟩ := H
      replace H : (if t166 = t165 then ((word_Field.f a0 (wrap64 ((wrap64 (t162 + t163)) - 1)) 1).bind fun t167 => (capnplaw01_WordSignedFields.j0 k t163 t164 t165 ((decide (t164 < 0)) != (t167 == 1)))) else (capnplaw01_WordSignedFields.j0 k t163 t164 t165 true)) = some r := H
      have A11 := Aside0.mk A110
      clear A110
      by_cases c12 : t166 = t165
      · rw [if_pos c12] at H
        have c12b0 : (t166 == t165) = true := beq_iff_eq.mpr c12
        have c12b1 : (t166 != t165) = false := bne_eq_false_iff_eq.mpr c12
        clear c12
        (first | rw [c12b0] | (simp only [i64_w, i32_w]; rw [c12b0]) | skip)
        replace H := Option.bind_eq_some_iff.mp H
        obtain ⟨t167, A130, H⟩ := H
        replace H : (capnplaw01_WordSignedFields.j0 k t163 t164 t165 ((decide (t164 < 0)) != (t167 == 1))) = some r := H
        have A13 := Aside0.mk A130
        clear A130
        have H' := Aside0.mk H
        clear H
        go_wp2_with (first | ((with_reducible refine gate_callee (f := 28) rfl ?_); refine goesL_ (some 30) rfl rfl Try.func28 (by kernel_rfl) rfl #[.int .u64 (IntKind.u64.wrap (t164)), .int .i64 0, .int .i64 t163] rfl (by (try simp only [List.map_toArray, List.map_cons, List.map_nil]); first | done | rfl | (simp only [List.length_drop, List.length_take]; rfl)) ?_; (with_reducible refine (word_Field.calls (IntKind.u64.wrap (t164)) 0 t163 t166 _ A11.out).mono ?_); rintro e w' ⟨rfl, ⟨nd, rfl⟩⟩; refine ⟨_, rfl, ?_⟩) | (go_at_call 28; (with_reducible refine (word_Field.calls a0 (wrap64 ((wrap64 (t162 + t163)) - 1)) 1 t167 _ A13.out).mono ?_); rintro e w' ⟨rfl, ⟨nd, rfl⟩⟩))
        go_meet
        case rel => exact ⟨_, (((decide (t164 < 0)) != (t167 == 1))), (by first | rfl | (simp; done) | (simp [*]; done)), H', ⟨by first | omega | exact Nat.le_refl _⟩, ⟨by repeat (first | (with_reducible first | exact HB.out | apply below_alloc | apply pw_below_drewN | apply below_drew1) | exact HB.out)⟩⟩
      · rw [if_neg c12] at H
        have c12b0 : (t166 == t165) = false := beq_eq_false_iff_ne.mpr c12
        have c12b1 : (t166 != t165) = true := bne_iff_ne.mpr c12
        (first | rw [c12b0] | (simp only [i64_w, i32_w]; rw [c12b0]) | skip)
        have H' := Aside0.mk H
        clear H
        go_wp2_with (first | ((with_reducible refine gate_callee (f := 28) rfl ?_); refine goesL_ (some 30) rfl rfl Try.func28 (by kernel_rfl) rfl #[.int .u64 (IntKind.u64.wrap (t164)), .int .i64 0, .int .i64 t163] rfl (by (try simp only [List.map_toArray, List.map_cons, List.map_nil]); first | done | rfl | (simp only [List.length_drop, List.length_take]; rfl)) ?_; (with_reducible refine (word_Field.calls (IntKind.u64.wrap (t164)) 0 t163 t166 _ A11.out).mono ?_); rintro e w' ⟨rfl, ⟨nd, rfl⟩⟩; refine ⟨_, rfl, ?_⟩))
        go_meet
        case rel => exact ⟨_, (true), (by first | rfl | (simp; done) | (simp [*]; done)), H', ⟨by first | omega | exact Nat.le_refl _⟩, ⟨by repeat (first | (with_reducible first | exact HB.out | apply below_alloc | apply pw_below_drewN | apply below_drew1) | exact HB.out)⟩⟩
    case rest =>
      clear HC9
      try clear c1
      try clear c2
      try clear p2
      try clear c3
      try clear c5
      try clear p6
      try clear c10
      try clear c12
      try clear c12b0
      try clear c12b1
      obtain ⟨kq, x44_8, rfl, HA, HJ8, HB⟩ := hcut
      cases kq with
      | zero => exact absurd HA.out (by simp [capnplaw01_WordSignedFields.j0])
      | succ kj8 =>
        have H := HA.out
        clear HA
        simp only [capnplaw01_WordSignedFields.j0] at H
        by_cases c14 : x44_8 = true
        · subst c14
          have H1 : (some false) = some r := by rw [if_pos rfl] at H; exact H
          clear H
          have H := H1
          clear H1
          obtain rfl := Option.some.inj H
          go_wp2
          go_ret
          exact ⟨by first | rfl | (simp [errW_none, errW_some] <;> rfl) | (simp [*, errW_none, errW_some] <;> rfl), by repeat (first | (with_reducible first | exact HB.out | apply below_alloc | apply pw_below_drewN | apply below_drew1) | exact HB.out)⟩
        · replace c14 := Bool.eq_false_iff.mpr c14
          subst c14
          have H1 : (if t163 = 64 then (some (t164 == (wrap64 (t165)))) else ((capnpref01_Pow.f kj8 (wrap64 (t163 - 1))).bind fun t168 => (if t164 ≥ (wrap64 (-(wrap64 (t168)))) then ((capnpref01_Pow.f kj8 (wrap64 (t163 - 1))).bind fun t169 => (some (decide (t164 < (wrap64 (t169)))))) else (none)))) = some r := by rw [if_neg (show ¬ (false = true) by decide)] at H; exact H
          clear H
          have H := H1
          clear H1
          by_cases c15 : t163 = 64
          · rw [if_pos c15] at H
            have c15b0 : (t163 == 64) = true := beq_iff_eq.mpr c15
            have c15b1 : (t163 != 64) = false := bne_eq_false_iff_eq.mpr c15
            clear c15
            obtain rfl := Option.some.inj H
            go_wp2
            go_ret
            exact ⟨by first | rfl | (simp [errW_none, errW_some] <;> rfl) | (simp [*, errW_none, errW_some] <;> rfl), by repeat (first | (with_reducible first | exact HB.out | apply below_alloc | apply pw_below_drewN | apply below_drew1) | exact HB.out)⟩
          · rw [if_neg c15] at H
            have c15b0 : (t163 == 64) = false := beq_eq_false_iff_ne.mpr c15
            have c15b1 : (t163 != 64) = true := bne_iff_ne.mpr c15
            replace H := Option.bind_eq_some_iff.mp H
            obtain ⟨t168, A160, H⟩ := H
            replace H : (if t164 ≥ (wrap64 (-(wrap64 (t168)))) then ((capnpref01_Pow.f kj8 (wrap64 (t163 - 1))).bind fun t169 => (some (decide (t164 < (wrap64 (t169)))))) else (none)) = some r := H
            have A16 := Aside0.mk A160
            clear A160
            by_cases c17 : t164 ≥ (wrap64 (-(wrap64 (t168))))
            · rw [if_pos c17] at H
              have c17b0 : decide ((wrap64 (-(wrap64 (t168)))) ≤ t164) = true := decide_eq_true c17
              clear c17
              replace H := Option.bind_eq_some_iff.mp H
              obtain ⟨t169, A180, H⟩ := H
              replace H : (some (decide (t164 < (wrap64 (t169))))) = some r := H
              have A18 := Aside0.mk A180
              clear A180
              obtain rfl := Option.some.inj H
              go_wp2_with (first | ((with_reducible refine gate_callee (f := 34) rfl ?_); refine goesL_ (some 54) rfl rfl Try.func34 (by kernel_rfl) rfl #[.int .i64 (wrap64 (t163 - 1))] rfl (by (try simp only [List.map_toArray, List.map_cons, List.map_nil]); first | done | rfl | (simp only [List.length_drop, List.length_take]; rfl)) ?_; (with_reducible refine (capnpref01_Pow.calls kj8 (wrap64 (t163 - 1)) t168 _ A16.out).mono ?_); rintro e w' ⟨rfl, ⟨nd, rfl⟩⟩; refine ⟨_, rfl, ?_⟩) | (go_at_call 34; (with_reducible refine (capnpref01_Pow.calls kj8 (wrap64 (t163 - 1)) t169 _ A18.out).mono ?_); rintro e w' ⟨rfl, ⟨nd, rfl⟩⟩))
              go_ret
              exact ⟨by first | rfl | (simp [errW_none, errW_some] <;> rfl) | (simp [*, errW_none, errW_some] <;> rfl), by repeat (first | (with_reducible first | exact HB.out | apply below_alloc | apply pw_below_drewN | apply below_drew1) | exact HB.out)⟩
            · rw [if_neg c17] at H
              exact absurd H (by simp)
  · replace c5 := Bool.eq_false_iff.mpr c5
    subst c5
    have H1 : (some false) = some r := by rw [if_neg (show ¬ (false = true) by decide)] at H; exact H
    clear H
    have H := H1
    clear H1
    obtain rfl := Option.some.inj H
    go_enter Try.func10, Try.ntmps10
    go_wp2_with (first | ((with_reducible refine gate_callee (f := 19) rfl ?_); refine goesL_ (some 11) rfl rfl Try.func19 (by kernel_rfl) rfl #[] rfl (by (try simp only [List.map_toArray, List.map_cons, List.map_nil]); first | done | rfl | (simp only [List.length_drop, List.length_take]; rfl)) ?_; (with_reducible refine (capnplaw01_awake.calls k  false _ A4.out).mono ?_); rintro e w19 ⟨rfl, hb⟩; refine ⟨_, rfl, ?_⟩; have n0_ := Aside0.mk (below_step (by repeat (first | (with_reducible first | exact HB.out | apply below_alloc | apply pw_below_drewN | apply below_drew1) | exact HB.out)) hb); clear HB; have HB := n0_; clear n0_; (try clear hb); (try clear hb2); (try clear hk); (try clear hi)))
    go_ret
    exact ⟨by first | rfl | (simp [errW_none, errW_some] <;> rfl) | (simp [*, errW_none, errW_some] <;> rfl), by repeat (first | (with_reducible first | exact HB.out | apply below_alloc | apply pw_below_drewN | apply below_drew1) | exact HB.out)⟩

/-- THE ONE PURE STATEMENT of capnplaw01_WordSignedFields: yours. -/
def capnplaw01_WordSignedFields.Pure : Prop := ∀ (a0 : Int) (a1 : Int) (a2 : Int), (Lit.int .u64 a0).wf = true → (Lit.int .u8 a1).wf = true → (Lit.int .u8 a2).wf = true → ∃ k, capnplaw01_WordSignedFields.f k a0 a1 a2 = some true
theorem capnplaw01_WordSignedFields.walk (P : capnplaw01_WordSignedFields.Pure) (a0 : Int) (a1 : Int) (a2 : Int) (w : World) (w0 : (Lit.int .u64 a0).wf = true) (w1 : (Lit.int .u8 a1).wf = true) (w2 : (Lit.int .u8 a2).wf = true) :
    Calls Try.prog 10 #[.int .u64 a0, .int .u8 a1, .int .u8 a2] w fun e w' => e = .returned (.bool true) ∧ Below w.heap.size w w' := by
  obtain ⟨k, h⟩ := P a0 a1 a2 w0 w1 w2
  refine (capnplaw01_WordSignedFields.calls k a0 a1 a2 true w h).mono ?_
  rintro e w' ⟨rfl, hd⟩
  exact ⟨rfl, hd⟩

end Go.Proofs.Ytipimnidbopaoaa.PWordSignedFields
