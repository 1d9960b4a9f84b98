-- written by myprint.py, a program of this session
import Derived.Test.YtipimnidbopaoaaPWordInsertThenFieldx0
import Derived.Test.YtipimnidbopaoaaPWordInsertThenFieldx2
import Derived.Test.YtipimnidbopaoaaPWordInsertThenFieldx3
namespace Go.Proofs.Ytipimnidbopaoaa.PWordInsertThenField
open Go.RowKit Go.Proofs.YtipimnidbopaoaaW.PrintWords Go.Proofs.YtipimnidbopaoaaW.PrintLast Go.Proofs.YtipimnidbopaoaaW.PrintMore
attribute [local go_sem] max2_int min2_int max_two min_two max_three min_three max_four min_four   -- for this text's walks alone
set_option linter.unusedVariables false
set_option linter.unusedSimpArgs false

/-! ### capnplaw01_WordInsertThenField: function 9 -/
mutual
def capnplaw01_WordInsertThenField.j0 : Nat → Int → Int → Int → Int → Int → Int → Int → Bool → Option (Bool)
  | 0, _, _, _, _, _, _, _, _ => none
  | k + 1, x0, x1, x15, x16, x17, x18, x19, x71 => if x71 = true then (some false) else (if (wrap64 (x15 + x16)) ≤ x17 then (capnplaw01_WordInsertThenField.j1 k x0 x1 x17 x18 x19 true) else (capnplaw01_WordInsertThenField.j1 k x0 x1 x17 x18 x19 (decide ((wrap64 (x17 + x18)) ≤ x15))))
def capnplaw01_WordInsertThenField.j1 : Nat → Int → Int → Int → Int → Int → Bool → Option (Bool)
  | 0, _, _, _, _, _, _ => none
  | k + 1, x0, x1, x17, x18, x19, x83 => if x83 = true then ((word_Field.f x19 x17 x18).bind fun t173 => ((word_Field.f x0 x17 x18).bind fun t174 => (some (t173 == t174)))) else ((word_Insert.f x0 0 64 x1).bind fun t175 => ((word_Field.f t175 x17 x18).bind fun t176 => ((word_Field.f x1 x17 x18).bind fun t177 => (some (t176 == t177)))))
end
def capnplaw01_WordInsertThenField.f (k : Nat) (a0 : Int) (a1 : Int) (a2 : Int) (a3 : Int) (a4 : Int) (a5 : Int) (a6 : Int) : Option (Bool) := (capnplaw01_awake.f k).bind fun t161 => (if t161 = true then ((capnpref01_Place.f a3 a4).bind fun bt162 => ((capnpref01_Place.f a5 a6).bind fun bt164 => ((word_Insert.f a0 bt162.1 bt162.2 a1).bind fun t166 => ((word_Field.f t166 bt162.1 bt162.2).bind fun t167 => ((word_Field.f a1 0 bt162.2).bind fun t168 => (if t167 = t168 then ((word_Field.f a0 bt162.1 bt162.2).bind fun t169 => ((word_Insert.f t166 bt162.1 bt162.2 t169).bind fun t170 => (if t170 = a0 then ((word_Insert.f t166 bt162.1 bt162.2 a2).bind fun t171 => ((word_Insert.f a0 bt162.1 bt162.2 a2).bind fun t172 => (capnplaw01_WordInsertThenField.j0 k a0 a1 bt162.1 bt162.2 bt164.1 bt164.2 t166 (t171 != t172)))) else (capnplaw01_WordInsertThenField.j0 k a0 a1 bt162.1 bt162.2 bt164.1 bt164.2 t166 true)))) else (capnplaw01_WordInsertThenField.j0 k a0 a1 bt162.1 bt162.2 bt164.1 bt164.2 t166 true))))))) else (some false))
theorem capnplaw01_WordInsertThenField.mono_l : ∀ k, (∀ y0 y1 y2 y3 y4 y5 y6 y7, LeO (capnplaw01_WordInsertThenField.j0 k y0 y1 y2 y3 y4 y5 y6 y7) (capnplaw01_WordInsertThenField.j0 (k + 1) y0 y1 y2 y3 y4 y5 y6 y7)) ∧ (∀ y0 y1 y2 y3 y4 y5, LeO (capnplaw01_WordInsertThenField.j1 k y0 y1 y2 y3 y4 y5) (capnplaw01_WordInsertThenField.j1 (k + 1) y0 y1 y2 y3 y4 y5))
  | 0 => ⟨fun _ _ _ _ _ _ _ _ r h => by simp [capnplaw01_WordInsertThenField.j0] at h, fun _ _ _ _ _ _ r h => by simp [capnplaw01_WordInsertThenField.j1] at h⟩
  | k + 1 => by
    obtain ⟨ih0, ih1⟩ := capnplaw01_WordInsertThenField.mono_l k
    refine ⟨?_, ?_⟩
    · intro y0 y1 y2 y3 y4 y5 y6 y7
      unfold capnplaw01_WordInsertThenField.j0
      repeat' first
      | (with_reducible exact ih0 _ _ _ _ _ _ _ _)
      | (with_reducible exact ih1 _ _ _ _ _ _)
      | (with_reducible exact capnplaw01_awake.mono _)
      | (with_reducible exact LeO.refl _)
      | (with_reducible exact LeO.none _)
      | (with_reducible refine LeO.ite ?_ ?_)
      | (with_reducible refine LeO.bind ?_ (fun _ => ?_))
      | exact ih0 _ _ _ _ _ _ _ _
      | exact ih1 _ _ _ _ _ _
      | exact capnplaw01_awake.mono _
      | exact LeO.none _
      | refine LeO.ite ?_ ?_
      | refine LeO.bind ?_ (fun _ => ?_)
    · intro y0 y1 y2 y3 y4 y5
      unfold capnplaw01_WordInsertThenField.j1
      repeat' first
      | (with_reducible exact ih0 _ _ _ _ _ _ _ _)
      | (with_reducible exact ih1 _ _ _ _ _ _)
      | (with_reducible exact capnplaw01_awake.mono _)
      | (with_reducible exact LeO.refl _)
      | (with_reducible exact LeO.none _)
      | (with_reducible refine LeO.ite ?_ ?_)
      | (with_reducible refine LeO.bind ?_ (fun _ => ?_))
      | exact ih0 _ _ _ _ _ _ _ _
      | exact ih1 _ _ _ _ _ _
      | exact capnplaw01_awake.mono _
      | exact LeO.none _
      | refine LeO.ite ?_ ?_
      | refine LeO.bind ?_ (fun _ => ?_)
theorem capnplaw01_WordInsertThenField.mono : ∀ a0 a1 a2 a3 a4 a5 a6 k, LeO (capnplaw01_WordInsertThenField.f k a0 a1 a2 a3 a4 a5 a6) (capnplaw01_WordInsertThenField.f (k + 1) a0 a1 a2 a3 a4 a5 a6) := by
  intro a0 a1 a2 a3 a4 a5 a6 k
  obtain ⟨ih0, ih1⟩ := capnplaw01_WordInsertThenField.mono_l k
  unfold capnplaw01_WordInsertThenField.f
  repeat' first
      | (with_reducible exact ih0 _ _ _ _ _ _ _ _)
      | (with_reducible exact ih1 _ _ _ _ _ _)
      | (with_reducible exact capnplaw01_awake.mono _)
      | (with_reducible exact LeO.refl _)
      | (with_reducible exact LeO.none _)
      | (with_reducible refine LeO.ite ?_ ?_)
      | (with_reducible refine LeO.bind ?_ (fun _ => ?_))
      | exact ih0 _ _ _ _ _ _ _ _
      | exact ih1 _ _ _ _ _ _
      | exact capnplaw01_awake.mono _
      | exact LeO.none _
      | refine LeO.ite ?_ ?_
      | refine LeO.bind ?_ (fun _ => ?_)
set_option maxHeartbeats 8000000 in
set_option maxRecDepth 100000 in
theorem capnplaw01_WordInsertThenField.calls (k : Nat) (a0 : Int) (a1 : Int) (a2 : Int) (a3 : Int) (a4 : Int) (a5 : Int) (a6 : Int) (r : Bool) (w : World) (h : capnplaw01_WordInsertThenField.f k a0 a1 a2 a3 a4 a5 a6 = some r) :
    Calls Try.prog 9 #[.int .u64 a0, .int .u64 a1, .int .u64 a2, .int .u8 a3, .int .u8 a4, .int .u8 a5, .int .u8 a6] w fun e w' => e = .returned (.bool r) ∧ Below w.heap.size w w' := by
  have HB := Aside0.mk (Below.refl w.heap.size w)
  have H : ((capnplaw01_awake.f k).bind fun t161 => (if t161 = true then ((capnpref01_Place.f a3 a4).bind fun bt162 => ((capnpref01_Place.f a5 a6).bind fun bt164 => ((word_Insert.f a0 bt162.1 bt162.2 a1).bind fun t166 => ((word_Field.f t166 bt162.1 bt162.2).bind fun t167 => ((word_Field.f a1 0 bt162.2).bind fun t168 => (if t167 = t168 then ((word_Field.f a0 bt162.1 bt162.2).bind fun t169 => ((word_Insert.f t166 bt162.1 bt162.2 t169).bind fun t170 => (if t170 = a0 then ((word_Insert.f t166 bt162.1 bt162.2 a2).bind fun t171 => ((word_Insert.f a0 bt162.1 bt162.2 a2).bind fun t172 => (capnplaw01_WordInsertThenField.j0 k a0 a1 bt162.1 bt162.2 bt164.1 bt164.2 t166 (t171 != t172)))) else (capnplaw01_WordInsertThenField.j0 k a0 a1 bt162.1 bt162.2 bt164.1 bt164.2 t166 true)))) else (capnplaw01_WordInsertThenField.j0 k a0 a1 bt162.1 bt162.2 bt164.1 bt164.2 t166 true))))))) else (some false))) = some r := h
  clear h
  replace H := Option.bind_eq_some_iff.mp H
  obtain ⟨t161, A80, H⟩ := H
  replace H : (if t161 = true then ((capnpref01_Place.f a3 a4).bind fun bt162 => ((capnpref01_Place.f a5 a6).bind fun bt164 => ((word_Insert.f a0 bt162.1 bt162.2 a1).bind fun t166 => ((word_Field.f t166 bt162.1 bt162.2).bind fun t167 => ((word_Field.f a1 0 bt162.2).bind fun t168 => (if t167 = t168 then ((word_Field.f a0 bt162.1 bt162.2).bind fun t169 => ((word_Insert.f t166 bt162.1 bt162.2 t169).bind fun t170 => (if t170 = a0 then ((word_Insert.f t166 bt162.1 bt162.2 a2).bind fun t171 => ((word_Insert.f a0 bt162.1 bt162.2 a2).bind fun t172 => (capnplaw01_WordInsertThenField.j0 k a0 a1 bt162.1 bt162.2 bt164.1 bt164.2 t166 (t171 != t172)))) else (capnplaw01_WordInsertThenField.j0 k a0 a1 bt162.1 bt162.2 bt164.1 bt164.2 t166 true)))) else (capnplaw01_WordInsertThenField.j0 k a0 a1 bt162.1 bt162.2 bt164.1 bt164.2 t166 true))))))) else (some false)) = some r := H
  have A8 := Aside0.mk A80
  clear A80
  by_cases c9 : t161 = true
  · subst c9
    have H1 : ((capnpref01_Place.f a3 a4).bind fun bt162 => ((capnpref01_Place.f a5 a6).bind fun bt164 => ((word_Insert.f a0 bt162.1 bt162.2 a1).bind fun t166 => ((word_Field.f t166 bt162.1 bt162.2).bind fun t167 => ((word_Field.f a1 0 bt162.2).bind fun t168 => (if t167 = t168 then ((word_Field.f a0 bt162.1 bt162.2).bind fun t169 => ((word_Insert.f t166 bt162.1 bt162.2 t169).bind fun t170 => (if t170 = a0 then ((word_Insert.f t166 bt162.1 bt162.2 a2).bind fun t171 => ((word_Insert.f a0 bt162.1 bt162.2 a2).bind fun t172 => (capnplaw01_WordInsertThenField.j0 k a0 a1 bt162.1 bt162.2 bt164.1 bt164.2 t166 (t171 != t172)))) else (capnplaw01_WordInsertThenField.j0 k a0 a1 bt162.1 bt162.2 bt164.1 bt164.2 t166 true)))) else (capnplaw01_WordInsertThenField.j0 k a0 a1 bt162.1 bt162.2 bt164.1 bt164.2 t166 true))))))) = some r := by rw [if_pos rfl] at H; exact H
    clear H
    have H := H1
    clear H1
    replace H := Option.bind_eq_some_iff.mp H
    obtain ⟨⟨t162, t163⟩, A100, H⟩ := H
    replace H : ((capnpref01_Place.f a5 a6).bind fun bt164 => ((word_Insert.f a0 t162 t163 a1).bind fun t166 => ((word_Field.f t166 t162 t163).bind fun t167 => ((word_Field.f a1 0 t163).bind fun t168 => (if t167 = t168 then ((word_Field.f a0 t162 t163).bind fun t169 => ((word_Insert.f t166 t162 t163 t169).bind fun t170 => (if t170 = a0 then ((word_Insert.f t166 t162 t163 a2).bind fun t171 => ((word_Insert.f a0 t162 t163 a2).bind fun t172 => (capnplaw01_WordInsertThenField.j0 k a0 a1 t162 t163 bt164.1 bt164.2 t166 (t171 != t172)))) else (capnplaw01_WordInsertThenField.j0 k a0 a1 t162 t163 bt164.1 bt164.2 t166 true)))) else (capnplaw01_WordInsertThenField.j0 k a0 a1 t162 t163 bt164.1 bt164.2 t166 true)))))) = some r := H
    have A10 := Aside0.mk A100
    clear A100
    replace H := Option.bind_eq_some_iff.mp H
    obtain ⟨⟨t164, t165⟩, A110, H⟩ := H
    replace H : ((word_Insert.f a0 t162 t163 a1).bind fun t166 => ((word_Field.f t166 t162 t163).bind fun t167 => ((word_Field.f a1 0 t163).bind fun t168 => (if t167 = t168 then ((word_Field.f a0 t162 t163).bind fun t169 => ((word_Insert.f t166 t162 t163 t169).bind fun t170 => (if t170 = a0 then ((word_Insert.f t166 t162 t163 a2).bind fun t171 => ((word_Insert.f a0 t162 t163 a2).bind fun t172 => (capnplaw01_WordInsertThenField.j0 k a0 a1 t162 t163 t164 t165 t166 (t171 != t172)))) else (capnplaw01_WordInsertThenField.j0 k a0 a1 t162 t163 t164 t165 t166 true)))) else (capnplaw01_WordInsertThenField.j0 k a0 a1 t162 t163 t164 t165 t166 true))))) = some r := H
    have A11 := Aside0.mk A110
    clear A110
    replace H := Option.bind_eq_some_iff.mp H
    obtain ⟨t166, A120, H⟩ := H
    replace H : ((word_Field.f t166 t162 t163).bind fun t167 => ((word_Field.f a1 0 t163).bind fun t168 => (if t167 = t168 then ((word_Field.f a0 t162 t163).bind fun t169 => ((word_Insert.f t166 t162 t163 t169).bind fun t170 => (if t170 = a0 then ((word_Insert.f t166 t162 t163 a2).bind fun t171 => ((word_Insert.f a0 t162 t163 a2).bind fun t172 => (capnplaw01_WordInsertThenField.j0 k a0 a1 t162 t163 t164 t165 t166 (t171 != t172)))) else (capnplaw01_WordInsertThenField.j0 k a0 a1 t162 t163 t164 t165 t166 true)))) else (capnplaw01_WordInsertThenField.j0 k a0 a1 t162 t163 t164 t165 t166 true)))) = some r := H
    have A12 := Aside0.mk A120
    clear A120
    have HC13 := Aside0.mk H
    clear H
    go_enter Try.func9, Try.ntmps9
    go_upto_region 6 with (first | ((with_reducible refine gate_callee (f := 19) rfl ?_); refine goesL_ (some 20) rfl rfl Try.func19 (by kernel_rfl) rfl #[] rfl (by (try simp only [List.map_toArray, List.map_cons, List.map_nil]); first | done | rfl | (simp only [List.length_drop, List.length_take]; rfl)) ?_; (with_reducible refine (capnplaw01_awake.calls k  true _ A8.out).mono ?_); rintro e w14 ⟨rfl, hb⟩; refine ⟨_, rfl, ?_⟩; have n0_ := Aside0.mk (below_step (by repeat (first | (with_reducible first | exact HB.out | apply below_alloc | apply pw_below_drewN | apply below_drew1) | exact HB.out)) hb); clear HB; have HB := n0_; clear n0_; (try clear hb); (try clear hb2); (try clear hk); (try clear hi)) | ((with_reducible refine gate_callee (f := 24) rfl ?_); refine goesL_ (some 25) rfl rfl Try.func24 (by kernel_rfl) rfl #[.int .u8 a3, .int .u8 a4] rfl (by (try simp only [List.map_toArray, List.map_cons, List.map_nil]); first | done | rfl | (simp only [List.length_drop, List.length_take]; rfl)) ?_; (with_reducible refine (capnpref01_Place.calls a3 a4 t162 t163 _ A10.out).mono ?_); rintro e w' ⟨rfl, ⟨nd, rfl⟩⟩; refine ⟨_, rfl, ?_⟩) | ((with_reducible refine gate_callee (f := 24) rfl ?_); refine goesL_ (some 31) rfl rfl Try.func24 (by kernel_rfl) rfl #[.int .u8 a5, .int .u8 a6] rfl (by (try simp only [List.map_toArray, List.map_cons, List.map_nil]); first | done | rfl | (simp only [List.length_drop, List.length_take]; rfl)) ?_; (with_reducible refine (capnpref01_Place.calls a5 a6 t164 t165 _ A11.out).mono ?_); rintro e w' ⟨rfl, ⟨nd, rfl⟩⟩; refine ⟨_, rfl, ?_⟩) | ((with_reducible refine gate_callee (f := 32) rfl ?_); refine goesL_ (some 38) rfl rfl Try.func32 (by kernel_rfl) rfl #[.int .u64 a0, .int .i64 t162, .int .i64 t163, .int .u64 a1] rfl (by (try simp only [List.map_toArray, List.map_cons, List.map_nil]); first | done | rfl | (simp only [List.length_drop, List.length_take]; rfl)) ?_; (with_reducible refine (word_Insert.calls a0 t162 t163 a1 t166 _ A12.out).mono ?_); rintro e w' ⟨rfl, ⟨nd, rfl⟩⟩; refine ⟨_, rfl, ?_⟩))
    (try simp only [Act.put, List.setIfInBounds_toArray, List.set_cons_zero, List.set_cons_succ])
    go_cut [71] (fun v71 wc => ∃ (kq : Nat) (x71_12 : Bool), v71 = .bool x71_12 ∧ Aside0 (capnplaw01_WordInsertThenField.j0 kq a0 a1 t162 t163 t164 t165 t166 x71_12 = some r) ∧ Aside0 (kq ≤ k) ∧ Aside0 (Below w.heap.size w wc))
    case first =>
      have H := HC13.out
      clear HC13
      replace H := Option.bind_eq_some_iff.mp H
      obtain ⟨t167, A150, H⟩ := H
      replace H : ((word_Field.f a1 0 t163).bind fun t168 => (if t167 = t168 then ((word_Field.f a0 t162 t163).bind fun t169 => ((word_Insert.f t166 t162 t163 t169).bind fun t170 => (if t170 = a0 then ((word_Insert.f t166 t162 t163 a2).bind fun t171 => ((word_Insert.f a0 t162 t163 a2).bind fun t172 => (capnplaw01_WordInsertThenField.j0 k a0 a1 t162 t163 t164 t165 t166 (t171 != t172)))) else (capnplaw01_WordInsertThenField.j0 k a0 a1 t162 t163 t164 t165 t166 true)))) else (capnplaw01_WordInsertThenField.j0 k a0 a1 t162 t163 t164 t165 t166 true))) = some r := H
      have A15 := Aside0.mk A150
      clear A150
      replace H := Option.bind_eq_some_iff.mp H
      obtain ⟨t168, A160, H⟩ := H
      replace H : (if t167 = t168 then ((word_Field.f a0 t162 t163).bind fun t169 => ((word_Insert.f t166 t162 t163 t169).bind fun t170 => (if t170 = a0 then ((word_Insert.f t166 t162 t163 a2).bind fun t171 => ((word_Insert.f a0 t162 t163 a2).bind fun t172 => (capnplaw01_WordInsertThenField.j0 k a0 a1 t162 t163 t164 t165 t166 (t171 != t172)))) else (capnplaw01_WordInsertThenField.j0 k a0 a1 t162 t163 t164 t165 t166 true)))) else (capnplaw01_WordInsertThenField.j0 k a0 a1 t162 t163 t164 t165 t166 true)) = some r := H
      have A16 := Aside0.mk A160
      clear A160
      by_cases c17 : t167 = t168
      · rw [if_pos c17] at H
        have c17b0 : (t167 == t168) = true := beq_iff_eq.mpr c17
        have c17b1 : (t167 != t168) = false := bne_eq_false_iff_eq.mpr c17
        clear c17
        (first | rw [c17b0] | (simp only [i64_w, i32_w]; rw [c17b0]) | skip)
        replace H := Option.bind_eq_some_iff.mp H
        obtain ⟨t169, A180, H⟩ := H
        replace H : ((word_Insert.f t166 t162 t163 t169).bind fun t170 => (if t170 = a0 then ((word_Insert.f t166 t162 t163 a2).bind fun t171 => ((word_Insert.f a0 t162 t163 a2).bind fun t172 => (capnplaw01_WordInsertThenField.j0 k a0 a1 t162 t163 t164 t165 t166 (t171 != t172)))) else (capnplaw01_WordInsertThenField.j0 k a0 a1 t162 t163 t164 t165 t166 true))) = some r := H
        have A18 := Aside0.mk A180
        clear A180
        replace H := Option.bind_eq_some_iff.mp H
        obtain ⟨t170, A190, H⟩ := H
        replace H : (if t170 = a0 then ((word_Insert.f t166 t162 t163 a2).bind fun t171 => ((word_Insert.f a0 t162 t163 a2).bind fun t172 => (capnplaw01_WordInsertThenField.j0 k a0 a1 t162 t163 t164 t165 t166 (t171 != t172)))) else (capnplaw01_WordInsertThenField.j0 k a0 a1 t162 t163 t164 t165 t166 true)) = some r := H
        have A19 := Aside0.mk A190
        clear A190
        by_cases c20 : t170 = a0
        · rw [if_pos c20] at H
          have c20b0 : (t170 == a0) = true := beq_iff_eq.mpr c20
          have c20b1 : (t170 != a0) = false := bne_eq_false_iff_eq.mpr c20
          clear c20
          replace H := Option.bind_eq_some_iff.mp H
          obtain ⟨t171, A210, H⟩ := H
          replace H : ((word_Insert.f a0 t162 t163 a2).bind fun t172 => (capnplaw01_WordInsertThenField.j0 k a0 a1 t162 t163 t164 t165 t166 (t171 != t172))) = some r := H
          have A21 := Aside0.mk A210
          clear A210
          replace H := Option.bind_eq_some_iff.mp H
          obtain ⟨t172, A220, H⟩ := H
          replace H : (capnplaw01_WordInsertThenField.j0 k a0 a1 t162 t163 t164 t165 t166 (t171 != t172)) = some r := H
          have A22 := Aside0.mk A220
          clear A220
          have H' := Aside0.mk H
          clear H
          go_wp2_with (first | ((with_reducible refine gate_callee (f := 28) rfl ?_); refine goesL_ (some 42) rfl rfl Try.func28 (by kernel_rfl) rfl #[.int .u64 t166, .int .i64 t162, .int .i64 t163] rfl (by (try simp only [List.map_toArray, List.map_cons, List.map_nil]); first | done | rfl | (simp only [List.length_drop, List.length_take]; rfl)) ?_; (with_reducible refine (word_Field.calls t166 t162 t163 t167 _ A15.out).mono ?_); rintro e w' ⟨rfl, ⟨nd, rfl⟩⟩; refine ⟨_, rfl, ?_⟩) | ((with_reducible refine gate_callee (f := 28) rfl ?_); refine goesL_ (some 45) rfl rfl Try.func28 (by kernel_rfl) rfl #[.int .u64 a1, .int .i64 0, .int .i64 t163] rfl (by (try simp only [List.map_toArray, List.map_cons, List.map_nil]); first | done | rfl | (simp only [List.length_drop, List.length_take]; rfl)) ?_; (with_reducible refine (word_Field.calls a1 0 t163 t168 _ A16.out).mono ?_); rintro e w' ⟨rfl, ⟨nd, rfl⟩⟩; refine ⟨_, rfl, ?_⟩) | (go_at_call 28; (with_reducible refine (word_Field.calls a0 t162 t163 t169 _ A18.out).mono ?_); rintro e w' ⟨rfl, ⟨nd, rfl⟩⟩) | (go_at_call 32; (with_reducible refine (word_Insert.calls t166 t162 t163 t169 t170 _ A19.out).mono ?_); rintro e w' ⟨rfl, ⟨nd, rfl⟩⟩) | (go_at_call 32; (with_reducible refine (word_Insert.calls t166 t162 t163 a2 t171 _ A21.out).mono ?_); rintro e w' ⟨rfl, ⟨nd, rfl⟩⟩) | (go_at_call 32; (with_reducible refine (word_Insert.calls a0 t162 t163 a2 t172 _ A22.out).mono ?_); rintro e w' ⟨rfl, ⟨nd, rfl⟩⟩))
          go_meet
          case rel => exact ⟨_, ((t171 != t172)), (by first | rfl | (simp; done) | (simp [*]; done)), H', ⟨by first | omega | exact Nat.le_refl _⟩, ⟨by repeat (first | (with_reducible first | exact HB.out | apply below_alloc | apply pw_below_drewN | apply below_drew1) | exact HB.out)⟩⟩
        · rw [if_neg c20] at H
          have c20b0 : (t170 == a0) = false := beq_eq_false_iff_ne.mpr c20
          have c20b1 : (t170 != a0) = true := bne_iff_ne.mpr c20
          have H' := Aside0.mk H
          clear H
          go_wp2_with (first | ((with_reducible refine gate_callee (f := 28) rfl ?_); refine goesL_ (some 42) rfl rfl Try.func28 (by kernel_rfl) rfl #[.int .u64 t166, .int .i64 t162, .int .i64 t163] rfl (by (try simp only [List.map_toArray, List.map_cons, List.map_nil]); first | done | rfl | (simp only [List.length_drop, List.length_take]; rfl)) ?_; (with_reducible refine (word_Field.calls t166 t162 t163 t167 _ A15.out).mono ?_); rintro e w' ⟨rfl, ⟨nd, rfl⟩⟩; refine ⟨_, rfl, ?_⟩) | ((with_reducible refine gate_callee (f := 28) rfl ?_); refine goesL_ (some 45) rfl rfl Try.func28 (by kernel_rfl) rfl #[.int .u64 a1, .int .i64 0, .int .i64 t163] rfl (by (try simp only [List.map_toArray, List.map_cons, List.map_nil]); first | done | rfl | (simp only [List.length_drop, List.length_take]; rfl)) ?_; (with_reducible refine (word_Field.calls a1 0 t163 t168 _ A16.out).mono ?_); rintro e w' ⟨rfl, ⟨nd, rfl⟩⟩; refine ⟨_, rfl, ?_⟩) | (go_at_call 28; (with_reducible refine (word_Field.calls a0 t162 t163 t169 _ A18.out).mono ?_); rintro e w' ⟨rfl, ⟨nd, rfl⟩⟩) | (go_at_call 32; (with_reducible refine (word_Insert.calls t166 t162 t163 t169 t170 _ A19.out).mono ?_); rintro e w' ⟨rfl, ⟨nd, rfl⟩⟩))
          go_meet
          case rel => exact ⟨_, (true), (by first | rfl | (simp; done) | (simp [*]; done)), H', ⟨by first | omega | exact Nat.le_refl _⟩, ⟨by repeat (first | (with_reducible first | exact HB.out | apply below_alloc | apply pw_below_drewN | apply below_drew1) | exact HB.out)⟩⟩
      · rw [if_neg c17] at H
        have c17b0 : (t167 == t168) = false := beq_eq_false_iff_ne.mpr c17
        have c17b1 : (t167 != t168) = true := bne_iff_ne.mpr c17
        (first | rw [c17b0] | (simp only [i64_w, i32_w]; rw [c17b0]) | skip)
        have H' := Aside0.mk H
        clear H
        go_wp2_with (first | ((with_reducible refine gate_callee (f := 28) rfl ?_); refine goesL_ (some 42) rfl rfl Try.func28 (by kernel_rfl) rfl #[.int .u64 t166, .int .i64 t162, .int .i64 t163] rfl (by (try simp only [List.map_toArray, List.map_cons, List.map_nil]); first | done | rfl | (simp only [List.length_drop, List.length_take]; rfl)) ?_; (with_reducible refine (word_Field.calls t166 t162 t163 t167 _ A15.out).mono ?_); rintro e w' ⟨rfl, ⟨nd, rfl⟩⟩; refine ⟨_, rfl, ?_⟩) | ((with_reducible refine gate_callee (f := 28) rfl ?_); refine goesL_ (some 45) rfl rfl Try.func28 (by kernel_rfl) rfl #[.int .u64 a1, .int .i64 0, .int .i64 t163] rfl (by (try simp only [List.map_toArray, List.map_cons, List.map_nil]); first | done | rfl | (simp only [List.length_drop, List.length_take]; rfl)) ?_; (with_reducible refine (word_Field.calls a1 0 t163 t168 _ A16.out).mono ?_); rintro e w' ⟨rfl, ⟨nd, rfl⟩⟩; refine ⟨_, rfl, ?_⟩))
        go_meet
        case rel => exact ⟨_, (true), (by first | rfl | (simp; done) | (simp [*]; done)), H', ⟨by first | omega | exact Nat.le_refl _⟩, ⟨by repeat (first | (with_reducible first | exact HB.out | apply below_alloc | apply pw_below_drewN | apply below_drew1) | exact HB.out)⟩⟩
    case rest =>
      clear HC13
      try clear c1
      try clear c2
      try clear p2
      try clear c3
      try clear c9
      try clear c17
      try clear c17b0
      try clear c17b1
      try clear c19
      try clear c20
      try clear c20b0
      try clear c20b1
      obtain ⟨kq, x71_12, rfl, HA, HJ12, HB⟩ := hcut
      cases kq with
      | zero => exact absurd HA.out (by simp [capnplaw01_WordInsertThenField.j0])
      | succ kj12 =>
        have H := HA.out
        clear HA
        simp only [capnplaw01_WordInsertThenField.j0] at H
        by_cases c23 : x71_12 = true
        · subst c23
          have H1 : (some false) = some r := by rw [if_pos rfl] at H; exact H
          clear H
          have H := H1
          clear H1
          obtain rfl := Option.some.inj H
          go_wp2
          go_ret
          exact ⟨by first | rfl | (simp [errW_none, errW_some] <;> rfl) | (simp [*, errW_none, errW_some] <;> rfl), by repeat (first | (with_reducible first | exact HB.out | apply below_alloc | apply pw_below_drewN | apply below_drew1) | exact HB.out)⟩
        · replace c23 := Bool.eq_false_iff.mpr c23
          subst c23
          have H1 : (if (wrap64 (t162 + t163)) ≤ t164 then (capnplaw01_WordInsertThenField.j1 kj12 a0 a1 t164 t165 t166 true) else (capnplaw01_WordInsertThenField.j1 kj12 a0 a1 t164 t165 t166 (decide ((wrap64 (t164 + t165)) ≤ t162)))) = some r := by rw [if_neg (show ¬ (false = true) by decide)] at H; exact H
          clear H
          have H := H1
          clear H1
          have HC24 := Aside0.mk H
          clear H
          go_upto_region 8 with (fail)
          go_cut [83] (fun v83 wc => ∃ (kq : Nat) (x83_23 : Bool), v83 = .bool x83_23 ∧ Aside0 (capnplaw01_WordInsertThenField.j1 kq a0 a1 t164 t165 t166 x83_23 = some r) ∧ Aside0 (kq ≤ kj12) ∧ Aside0 (Below w.heap.size w wc))
          case first =>
            have H := HC24.out
            clear HC24
            by_cases c25 : (wrap64 (t162 + t163)) ≤ t164
            · rw [if_pos c25] at H
              have c25b0 : decide ((wrap64 (t162 + t163)) ≤ t164) = true := decide_eq_true c25
              clear c25
              (first | rw [c25b0] | (simp only [i64_w, i32_w]; rw [c25b0]) | skip)
              have H' := Aside0.mk H
              clear H
              go_wp2
              go_meet
              case rel => exact ⟨_, (true), (by first | rfl | (simp; done) | (simp [*]; done)), H', ⟨by have := HJ12.out; first | omega | exact Nat.le_refl _⟩, ⟨by repeat (first | (with_reducible first | exact HB.out | apply below_alloc | apply pw_below_drewN | apply below_drew1) | exact HB.out)⟩⟩
            · rw [if_neg c25] at H
              have c25b0 : decide ((wrap64 (t162 + t163)) ≤ t164) = false := decide_eq_false c25
              clear c25
              (first | rw [c25b0] | (simp only [i64_w, i32_w]; rw [c25b0]) | skip)
              have H' := Aside0.mk H
              clear H
              go_wp2
              go_meet
              case rel => exact ⟨_, (decide ((wrap64 (t164 + t165)) ≤ t162)), (by first | rfl | (simp; done) | (simp [*]; done)), H', ⟨by have := HJ12.out; first | omega | exact Nat.le_refl _⟩, ⟨by repeat (first | (with_reducible first | exact HB.out | apply below_alloc | apply pw_below_drewN | apply below_drew1) | exact HB.out)⟩⟩
          case rest =>
            clear HC24
            try clear c1
            try clear c2
            try clear p2
            try clear c3
            try clear p6
            try clear c9
            try clear c17
            try clear c17b0
            try clear c17b1
            try clear c19
            try clear c20
            try clear c20b0
            try clear c20b1
            try clear c23
            try clear c24
            try clear c25
            try clear c25b0
            try clear p2
            obtain ⟨kq, x83_23, rfl, HA, HJ23, HB⟩ := hcut
            cases kq with
            | zero => exact absurd HA.out (by simp [capnplaw01_WordInsertThenField.j1])
            | succ kj23 =>
              have H := HA.out
              clear HA
              simp only [capnplaw01_WordInsertThenField.j1] at H
              by_cases c26 : x83_23 = true
              · subst c26
                have H1 : ((word_Field.f t166 t164 t165).bind fun t173 => ((word_Field.f a0 t164 t165).bind fun t174 => (some (t173 == t174)))) = some r := by rw [if_pos rfl] at H; exact H
                clear H
                have H := H1
                clear H1
                replace H := Option.bind_eq_some_iff.mp H
                obtain ⟨t173, A270, H⟩ := H
                replace H : ((word_Field.f a0 t164 t165).bind fun t174 => (some (t173 == t174))) = some r := H
                have A27 := Aside0.mk A270
                clear A270
                replace H := Option.bind_eq_some_iff.mp H
                obtain ⟨t174, A280, H⟩ := H
                replace H : (some (t173 == t174)) = some r := H
                have A28 := Aside0.mk A280
                clear A280
                obtain rfl := Option.some.inj H
                go_wp2_with (first | ((with_reducible refine gate_callee (f := 28) rfl ?_); refine goesL_ (some 87) rfl rfl Try.func28 (by kernel_rfl) rfl #[.int .u64 t166, .int .i64 t164, .int .i64 t165] rfl (by (try simp only [List.map_toArray, List.map_cons, List.map_nil]); first | done | rfl | (simp only [List.length_drop, List.length_take]; rfl)) ?_; (with_reducible refine (word_Field.calls t166 t164 t165 t173 _ A27.out).mono ?_); rintro e w' ⟨rfl, ⟨nd, rfl⟩⟩; refine ⟨_, rfl, ?_⟩) | ((with_reducible refine gate_callee (f := 28) rfl ?_); refine goesL_ (some 91) rfl rfl Try.func28 (by kernel_rfl) rfl #[.int .u64 a0, .int .i64 t164, .int .i64 t165] rfl (by (try simp only [List.map_toArray, List.map_cons, List.map_nil]); first | done | rfl | (simp only [List.length_drop, List.length_take]; rfl)) ?_; (with_reducible refine (word_Field.calls a0 t164 t165 t174 _ A28.out).mono ?_); rintro e w' ⟨rfl, ⟨nd, rfl⟩⟩; refine ⟨_, rfl, ?_⟩))
                go_ret
                exact ⟨by first | rfl | (simp [errW_none, errW_some] <;> rfl) | (simp [*, errW_none, errW_some] <;> rfl), by repeat (first | (with_reducible first | exact HB.out | apply below_alloc | apply pw_below_drewN | apply below_drew1) | exact HB.out)⟩
              · replace c26 := Bool.eq_false_iff.mpr c26
                subst c26
                have H1 : ((word_Insert.f a0 0 64 a1).bind fun t175 => ((word_Field.f t175 t164 t165).bind fun t176 => ((word_Field.f a1 t164 t165).bind fun t177 => (some (t176 == t177))))) = some r := by rw [if_neg (show ¬ (false = true) by decide)] at H; exact H
                clear H
                have H := H1
                clear H1
                replace H := Option.bind_eq_some_iff.mp H
                obtain ⟨t175, A290, H⟩ := H
                replace H : ((word_Field.f t175 t164 t165).bind fun t176 => ((word_Field.f a1 t164 t165).bind fun t177 => (some (t176 == t177)))) = some r := H
                have A29 := Aside0.mk A290
                clear A290
                replace H := Option.bind_eq_some_iff.mp H
                obtain ⟨t176, A300, H⟩ := H
                replace H : ((word_Field.f a1 t164 t165).bind fun t177 => (some (t176 == t177))) = some r := H
                have A30 := Aside0.mk A300
                clear A300
                replace H := Option.bind_eq_some_iff.mp H
                obtain ⟨t177, A310, H⟩ := H
                replace H : (some (t176 == t177)) = some r := H
                have A31 := Aside0.mk A310
                clear A310
                obtain rfl := Option.some.inj H
                go_wp2_with (first | ((with_reducible refine gate_callee (f := 32) rfl ?_); refine goesL_ (some 95) rfl rfl Try.func32 (by kernel_rfl) rfl #[.int .u64 a0, .int .i64 0, .int .i64 64, .int .u64 a1] rfl (by (try simp only [List.map_toArray, List.map_cons, List.map_nil]); first | done | rfl | (simp only [List.length_drop, List.length_take]; rfl)) ?_; (with_reducible refine (word_Insert.calls a0 0 64 a1 t175 _ A29.out).mono ?_); rintro e w' ⟨rfl, ⟨nd, rfl⟩⟩; refine ⟨_, rfl, ?_⟩) | ((with_reducible refine gate_callee (f := 28) rfl ?_); refine goesL_ (some 98) rfl rfl Try.func28 (by kernel_rfl) rfl #[.int .u64 t175, .int .i64 t164, .int .i64 t165] rfl (by (try simp only [List.map_toArray, List.map_cons, List.map_nil]); first | done | rfl | (simp only [List.length_drop, List.length_take]; rfl)) ?_; (with_reducible refine (word_Field.calls t175 t164 t165 t176 _ A30.out).mono ?_); rintro e w' ⟨rfl, ⟨nd, rfl⟩⟩; refine ⟨_, rfl, ?_⟩) | ((with_reducible refine gate_callee (f := 28) rfl ?_); refine goesL_ (some 102) rfl rfl Try.func28 (by kernel_rfl) rfl #[.int .u64 a1, .int .i64 t164, .int .i64 t165] rfl (by (try simp only [List.map_toArray, List.map_cons, List.map_nil]); first | done | rfl | (simp only [List.length_drop, List.length_take]; rfl)) ?_; (with_reducible refine (word_Field.calls a1 t164 t165 t177 _ A31.out).mono ?_); rintro e w' ⟨rfl, ⟨nd, rfl⟩⟩; refine ⟨_, rfl, ?_⟩))
                go_ret
                exact ⟨by first | rfl | (simp [errW_none, errW_some] <;> rfl) | (simp [*, errW_none, errW_some] <;> rfl), by repeat (first | (with_reducible first | exact HB.out | apply below_alloc | apply pw_below_drewN | apply below_drew1) | exact HB.out)⟩
  · replace c9 := Bool.eq_false_iff.mpr c9
    subst c9
    have H1 : (some false) = some r := by rw [if_neg (show ¬ (false = true) by decide)] at H; exact H
    clear H
    have H := H1
    clear H1
    obtain rfl := Option.some.inj H
    go_enter Try.func9, Try.ntmps9
    go_wp2_with (first | ((with_reducible refine gate_callee (f := 19) rfl ?_); refine goesL_ (some 20) rfl rfl Try.func19 (by kernel_rfl) rfl #[] rfl (by (try simp only [List.map_toArray, List.map_cons, List.map_nil]); first | done | rfl | (simp only [List.length_drop, List.length_take]; rfl)) ?_; (with_reducible refine (capnplaw01_awake.calls k  false _ A8.out).mono ?_); rintro e w32 ⟨rfl, hb⟩; refine ⟨_, rfl, ?_⟩; have n0_ := Aside0.mk (below_step (by repeat (first | (with_reducible first | exact HB.out | apply below_alloc | apply pw_below_drewN | apply below_drew1) | exact HB.out)) hb); clear HB; have HB := n0_; clear n0_; (try clear hb); (try clear hb2); (try clear hk); (try clear hi)))
    go_ret
    exact ⟨by first | rfl | (simp [errW_none, errW_some] <;> rfl) | (simp [*, errW_none, errW_some] <;> rfl), by repeat (first | (with_reducible first | exact HB.out | apply below_alloc | apply pw_below_drewN | apply below_drew1) | exact HB.out)⟩

/-- THE ONE PURE STATEMENT of capnplaw01_WordInsertThenField: yours. -/
def capnplaw01_WordInsertThenField.Pure : Prop := ∀ (a0 : Int) (a1 : Int) (a2 : Int) (a3 : Int) (a4 : Int) (a5 : Int) (a6 : Int), (Lit.int .u64 a0).wf = true → (Lit.int .u64 a1).wf = true → (Lit.int .u64 a2).wf = true → (Lit.int .u8 a3).wf = true → (Lit.int .u8 a4).wf = true → (Lit.int .u8 a5).wf = true → (Lit.int .u8 a6).wf = true → ∃ k, capnplaw01_WordInsertThenField.f k a0 a1 a2 a3 a4 a5 a6 = some true
theorem capnplaw01_WordInsertThenField.walk (P : capnplaw01_WordInsertThenField.Pure) (a0 : Int) (a1 : Int) (a2 : Int) (a3 : Int) (a4 : Int) (a5 : Int) (a6 : Int) (w : World) (w0 : (Lit.int .u64 a0).wf = true) (w1 : (Lit.int .u64 a1).wf = true) (w2 : (Lit.int .u64 a2).wf = true) (w3 : (Lit.int .u8 a3).wf = true) (w4 : (Lit.int .u8 a4).wf = true) (w5 : (Lit.int .u8 a5).wf = true) (w6 : (Lit.int .u8 a6).wf = true) :
    Calls Try.prog 9 #[.int .u64 a0, .int .u64 a1, .int .u64 a2, .int .u8 a3, .int .u8 a4, .int .u8 a5, .int .u8 a6] w fun e w' => e = .returned (.bool true) ∧ Below w.heap.size w w' := by
  obtain ⟨k, h⟩ := P a0 a1 a2 a3 a4 a5 a6 w0 w1 w2 w3 w4 w5 w6
  refine (capnplaw01_WordInsertThenField.calls k a0 a1 a2 a3 a4 a5 a6 true w h).mono ?_
  rintro e w' ⟨rfl, hd⟩
  exact ⟨rfl, hd⟩

end Go.Proofs.Ytipimnidbopaoaa.PWordInsertThenField
