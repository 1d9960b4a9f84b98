/- Written by myprint.py, a program of this session: printed functions of a law, and the proofs that the Go code comes to them. -/
import Derived.Test.YtamcadegencfbaaPTagbyteKeepsx0
import Derived.Test.YtamcadegencfbaaPTagbyteKeepsx1
namespace Go.Proofs.Ytamcadegencfbaa.PTagbyteKeeps
open Go.RowKit Go.Proofs.YtamcadegencfbaaW.PrintWords Go.Proofs.YtamcadegencfbaaW.PrintLast Go.Proofs.YtamcadegencfbaaW.PrintMore
attribute [local go_sem] max2_int min2_int max_two min_two max_three min_three max_four min_four   -- for this text's walks alone
set_option linter.unusedVariables false
set_option linter.unusedSimpArgs false

/-! ### tagbyte_Bytes: function 20 -/
def tagbyte_Bytes.l0 : Nat → List Int → List Int → Int → Int → Option (List Int)
  | 0, _, _, _, _ => none
  | k + 1, x3, x8, x9, x10 => if x10 < x9 then (if 0 ≤ x10 then (if x10 < (x8.length : Int) then (if (rd x8 x10) = 0 then (tagbyte_Bytes.l0 k x3 x8 x9 (wrap64 (x10 + 1))) else (if x3.length < 140737488355328 then (tagbyte_Bytes.l0 k (x3 ++ [rd x8 x10]) x8 x9 (wrap64 (x10 + 1))) else (none))) else (none)) else (none)) else (some x3)
def tagbyte_Bytes.f (k : Nat) (a0 : Int) : Option (List Int) := (word_Bytes.f k (([a0] : List Int))).bind fun t125 => (tagbyte_Bytes.l0 k ([] : List Int) t125 (t125.length : Int) 0)
theorem tagbyte_Bytes.mono_l : ∀ k, (∀ y0 y1 y2 y3, LeO (tagbyte_Bytes.l0 k y0 y1 y2 y3) (tagbyte_Bytes.l0 (k + 1) y0 y1 y2 y3))
  | 0 => fun _ _ _ _ r h => by simp [tagbyte_Bytes.l0] at h
  | k + 1 => by
    have ih0 := tagbyte_Bytes.mono_l k
    · intro y0 y1 y2 y3
      unfold tagbyte_Bytes.l0
      repeat' first
      | (with_reducible exact ih0 _ _ _ _)
      | (with_reducible exact word_Bytes.mono _ _)
      | (with_reducible exact LeO.refl _)
      | (with_reducible exact LeO.none _)
      | (with_reducible refine LeO.ite ?_ ?_)
      | (with_reducible refine LeO.bind ?_ (fun _ => ?_))
      | exact ih0 _ _ _ _
      | exact word_Bytes.mono _ _
      | exact LeO.none _
      | refine LeO.ite ?_ ?_
      | refine LeO.bind ?_ (fun _ => ?_)
theorem tagbyte_Bytes.mono : ∀ a0 k, LeO (tagbyte_Bytes.f k a0) (tagbyte_Bytes.f (k + 1) a0) := by
  intro a0 k
  have ih0 := tagbyte_Bytes.mono_l k
  unfold tagbyte_Bytes.f
  repeat' first
      | (with_reducible exact ih0 _ _ _ _)
      | (with_reducible exact word_Bytes.mono _ _)
      | (with_reducible exact LeO.refl _)
      | (with_reducible exact LeO.none _)
      | (with_reducible refine LeO.ite ?_ ?_)
      | (with_reducible refine LeO.bind ?_ (fun _ => ?_))
      | exact ih0 _ _ _ _
      | exact word_Bytes.mono _ _
      | exact LeO.none _
      | refine LeO.ite ?_ ?_
      | refine LeO.bind ?_ (fun _ => ?_)
set_option maxHeartbeats 8000000 in
set_option maxRecDepth 100000 in
theorem tagbyte_Bytes.calls (k : Nat) (a0 : Int) (r : List Int) (w : World) (h : tagbyte_Bytes.f k a0 = some r) :
    Calls Try.prog 20 #[.int .u64 a0] w fun e w' => ∃ v0_ : Value, e = .returned (v0_) ∧ Kd.R (Kd.int .u8) 5 w' w.heap.size (fun _ => True) v0_ r ∧ Below w.heap.size w w' := by
  have HB := Aside0.mk (Below.refl w.heap.size w)
  have H : ((word_Bytes.f k (([a0] : List Int))).bind fun t125 => (tagbyte_Bytes.l0 k ([] : List Int) t125 (t125.length : Int) 0)) = some r := h
  clear h
  obtain ⟨y122, hy122⟩ : ∃ y_ : List Int, y_ = (([a0] : List Int)) := ⟨_, rfl⟩
  replace H : ((word_Bytes.f k y122).bind fun t125 => (tagbyte_Bytes.l0 k ([] : List Int) t125 (t125.length : Int) 0)) = some r := by first | (rw [hy122]; with_reducible exact H) | (have H2_ := (Option.bind_some _ _).symm.trans H; rw [hy122]; with_reducible exact H2_) | (have H2_ := (Option.bind_some _ _).symm.trans H; with_reducible exact H2_) | with_reducible exact H | (rw [hy122]; exact H) | exact H
  have Ny122 := Aside0.mk hy122
  clear hy122
  replace H := Option.bind_eq_some_iff.mp H
  obtain ⟨t125, A20, H⟩ := H
  replace H : (tagbyte_Bytes.l0 k ([] : List Int) t125 (t125.length : Int) 0) = some r := H
  have A2 := Aside0.mk A20
  clear A20
  have H' := Aside0.mk H
  clear H
  go_enter Try.func20, Try.ntmps20
  go_wp2_with (first | ((with_reducible refine gate_dst (N := 7) rfl ?_); refine Kd.R_lit (Kd.int .u64) _ 22 ?hg (N := 7) ?hd (xs := ([a0] : List Int)) (inner := [.int .u64 a0]) (ok := fun _ => True) (okp := fun _ => True) ?hr ?hp (fun _ hk => hk) trivial (Below.refl _ _) (Nat.le_refl _) (by simp) ?_; (case hd => rfl); (case hg => rfl); (case hr => first | (go_simp; done) | (go_simp; rfl)); (case hp => exact (Reps.one (show Kd.M (Kd.int .u64) _ _ _ a0 [.int .u64 a0] from rfl) (Reps.none _ _))); intro v123 w3 ho4 hb hg_ hnew_; clear hg_ hnew_; (first | rw [← Ny122.out] at ho4 | (simp only [Int.reduceToNat] at ho4; rw [← Ny122.out] at ho4)); have n0_ := Aside0.mk (Kd.R_lower ho4 (below_size (by repeat (first | (with_reducible first | exact HB.out | apply below_alloc | apply pw_below_drewN | apply below_drew1) | exact HB.out)))); have n1_ := Aside0.mk (below_step (by repeat (first | (with_reducible first | exact HB.out | apply below_alloc | apply pw_below_drewN | apply below_drew1) | exact HB.out)) hb); clear HB; have HO124 := n0_; have HB := n1_; clear n0_ n1_; clear hb ho4; obtain ⟨Ao5, co5, eo5⟩ := Kd.R_slice HO124.out; subst eo5) | ((with_reducible refine gate_callee (f := 36) rfl ?_); refine goesL_ (some 8) rfl rfl Try.func36 (by kernel_rfl) rfl #[.slice Ao5 y122.length co5] rfl (by (try simp only [List.map_toArray, List.map_cons, List.map_nil]); first | done | rfl | (simp only [List.length_drop, List.length_take]; rfl)) ?_; (with_reducible refine (word_Bytes.calls k _ _ y122 t125 _ ?side1 ?side2 A2.out).mono ?_); (case side1 => repeat (first | exact (Kd.R_reads' HO124.out).2.2 | (with_reducible refine Kd.C_alloc ?_ _) | (with_reducible refine Kd.C_drewN ?_ _) | (with_reducible refine Kd.C_drew ?_))); (case side2 => exact (Kd.R_reads' HO124.out).2.1); rintro e w6 ⟨v126, rfl, ho0, hb⟩; refine ⟨_, rfl, ?_⟩; have n0_ := Aside0.mk (Kd.R_below (by (with_reducible repeat (first | apply Kd.R_alloc | apply Kd.R_drewN | apply Kd.R_drew)); exact HO124.out) hb); have n1_ := Aside0.mk (Kd.R_lower ho0 (below_size (by repeat (first | (with_reducible first | exact HB.out | apply below_alloc | apply pw_below_drewN | apply below_drew1) | exact HB.out)))); have n2_ := Aside0.mk (below_step (by repeat (first | (with_reducible first | exact HB.out | apply below_alloc | apply pw_below_drewN | apply below_drew1) | exact HB.out)) hb); clear HO124; clear HB; have HO124 := n0_; have HO127 := n1_; have HB := n2_; clear n0_ n1_ n2_; (try clear hb); (try clear hb2); (try clear hk); (try clear hi); (try clear ho0); obtain ⟨Ao7, co7, eo7⟩ := Kd.R_slice HO127.out; subst eo7))
  go_loopg [3, 10] k (fun kq v3 v10 w' => ∃ (x3_1 : List Int) (x10_1 : Int), v10 = .int .i64 x10_1 ∧ Aside0 (tagbyte_Bytes.l0 kq x3_1 t125 (t125.length : Int) x10_1 = some r) ∧ Aside0 (kq ≤ k) ∧ Aside0 (Kd.R (Kd.int .u8) 5 w' w.heap.size (fun k_ => some k_ ≠ ((.slice Ao7 t125.length co7) : Value).ownBlock) v3 x3_1) ∧ Aside0 (Kd.R (Kd.int .u8) 5 w' w.heap.size (fun k_ => some k_ ≠ (v3 : Value).ownBlock) (.slice Ao7 t125.length co7) t125) ∧ Aside0 (Below w.heap.size w w'))
  case atStart => exact ⟨(([] : List Int)), (0), (by first | rfl | (simp; done) | (simp [*]; done)), H', ⟨Nat.le_refl _⟩, ⟨by first | exact Kd.R_nil _ _ _ _ _ | exact Kd.N_nil _ _ _ _ _ | exact Kd.V_nil _ _ _ _ _ | exact Kd.Q_nil _ _ _ _ _ | exact Kd.S_nil _ _ _ _ _⟩, ⟨by (with_reducible repeat (first | apply Kd.R_alloc | apply Kd.R_drewN | apply Kd.R_drew)); exact Kd.R_mono HO127.out (fun _ hk => (by simp [Value.ownBlock]))⟩, ⟨by repeat (first | (with_reducible first | exact HB.out | apply below_alloc | apply pw_below_drewN | apply below_drew1) | exact HB.out)⟩⟩
  case round =>
    clear H'
    try clear c2
    try clear p2
    try clear c3
    obtain ⟨x3_1, x10_1, rfl, HA, HK1, HO_3, HO_8, HB⟩ := hrel
    cases gk with
    | zero => exact absurd HA.out (by simp [tagbyte_Bytes.l0])
    | succ k1 =>
      have H := HA.out
      clear HA
      simp only [tagbyte_Bytes.l0] at H
      by_cases c8 : x10_1 < (t125.length : Int)
      · rw [if_pos c8] at H
        have c8b0 : decide (x10_1 < (t125.length : Int)) = true := decide_eq_true c8
        clear c8
        by_cases c9 : 0 ≤ x10_1
        · rw [if_pos c9] at H
          have c9b0 : decide (0 ≤ x10_1) = true := decide_eq_true c9
          clear c9
          by_cases c10 : x10_1 < (t125.length : Int)
          · rw [if_pos c10] at H
            have c10b0 : decide (x10_1 < (t125.length : Int)) = true := decide_eq_true c10
            clear c10
            by_cases c11 : (rd t125 x10_1) = 0
            · rw [if_pos c11] at H
              have c11b0 : ((rd t125 x10_1) == 0) = true := beq_iff_eq.mpr c11
              have c11b1 : ((rd t125 x10_1) != 0) = false := bne_eq_false_iff_eq.mpr c11
              clear c11
              have H' := Aside0.mk H
              clear H
              have p128 : 0 ≤ (x10_1 : Int) := of_decide_eq_true (by first | (with_reducible assumption) | assumption)
              have q128 : x10_1 < (t125.length : Int) := of_decide_eq_true (by first | (with_reducible assumption) | assumption)
              obtain ⟨ad128, e128, hx128_0⟩ := Kd.at_int (Kd.R_reads' HO_8.out).2.2 x10_1 p128 q128
              cases e128
              replace p128 := eq_true p128
              replace q128 := eq_true q128
              go_wp2
              go_roundg k1
              case measure => have := HK1.out; omega
              case rel => exact ⟨(x3_1), (wrap64 (x10_1 + 1)), (by first | rfl | (simp; done) | (simp [*]; done)), H', ⟨by have := HK1.out; omega⟩, ⟨by (with_reducible repeat (first | apply Kd.R_alloc | apply Kd.R_drewN | apply Kd.R_drew)); exact HO_3.out⟩, ⟨by (with_reducible repeat (first | apply Kd.R_alloc | apply Kd.R_drewN | apply Kd.R_drew)); exact HO_8.out⟩, ⟨by repeat (first | (with_reducible first | exact HB.out | apply below_alloc | apply pw_below_drewN | apply below_drew1) | exact HB.out)⟩⟩
            · rw [if_neg c11] at H
              have c11b0 : ((rd t125 x10_1) == 0) = false := beq_eq_false_iff_ne.mpr c11
              have c11b1 : ((rd t125 x10_1) != 0) = true := bne_iff_ne.mpr c11
              by_cases c12 : x3_1.length < 140737488355328
              · rw [if_pos c12] at H
                have LMc12 := Aside0.mk c12
                clear c12
                obtain ⟨y129, hy129⟩ : ∃ y_ : List Int, y_ = (x3_1 ++ [rd t125 x10_1]) := ⟨_, rfl⟩
                replace H : (tagbyte_Bytes.l0 k1 y129 t125 (t125.length : Int) (wrap64 (x10_1 + 1))) = some r := by first | (rw [hy129]; with_reducible exact H) | (have H2_ := (Option.bind_some _ _).symm.trans H; rw [hy129]; with_reducible exact H2_) | (have H2_ := (Option.bind_some _ _).symm.trans H; with_reducible exact H2_) | with_reducible exact H | (rw [hy129]; exact H) | exact H
                have Ny129 := Aside0.mk hy129
                clear hy129
                have H' := Aside0.mk H
                clear H
                have p128 : 0 ≤ (x10_1 : Int) := of_decide_eq_true (by first | (with_reducible assumption) | assumption)
                have q128 : x10_1 < (t125.length : Int) := of_decide_eq_true (by first | (with_reducible assumption) | assumption)
                obtain ⟨ad128, e128, hx128_0⟩ := Kd.at_int (Kd.R_reads' HO_8.out).2.2 x10_1 p128 q128
                cases e128
                replace p128 := eq_true p128
                replace q128 := eq_true q128
                go_wp2_with (first | ((with_reducible refine gate_builtin (b := .append) (xs := #[.tmp 16, .tmp 18]) rfl ?_); at_builtin; refine Kd.R_append (Kd.int .u8) (w0 := w) w.heap.size rfl (.tmp 16) (.tmp 18) 23 5 (.int .u8 0) 1 rfl Try.underlying23 info5 rfl (by decide) (by omega) u3 x3_1 (rd t125 x10_1) [.int .u8 (rd t125 x10_1)] (fun k_ => some k_ ≠ (.slice (some ad128) t125.length co7 : Value).ownBlock) (fun _ => False) rfl rfl ?aP (fun _ hk => hk.elim) ?aF ?aO ?aB ?aS ?aL ?_; (case aP => exact rfl); (case aB => exact (by repeat (first | (with_reducible first | exact HB.out | apply below_alloc | apply pw_below_drewN | apply below_drew1) | exact HB.out))); (case aF => exact (fun k_ hk => Kd.fresh' (Kd.R_lt (by (with_reducible repeat (first | apply Kd.R_alloc | apply Kd.R_drewN | apply Kd.R_drew)); exact HO_8.out)) k_ hk)); (case aO => exact (by (with_reducible repeat (first | apply Kd.R_alloc | apply Kd.R_drewN | apply Kd.R_drew)); exact HO_3.out)); (case aS => exact (below_size (by repeat (first | (with_reducible first | exact HB.out | apply below_alloc | apply pw_below_drewN | apply below_drew1) | exact HB.out)))); (case aL => have := LMc12.out; omega); intro v130 w13 ho hb hg hat; rw [← Ny129.out] at ho; have n0_ := Aside0.mk (Kd.R_after (ok := (fun _ => True)) (by (with_reducible repeat (first | apply Kd.R_alloc | apply Kd.R_drewN | apply Kd.R_drew)); exact Kd.R_mono HO_8.out (fun _ hk => ⟨trivial, hk⟩)) hg hat); have n1_ := Aside0.mk (hb); have n2_ := Aside0.mk (ho); clear HO_8; clear HB; clear HO_3; have HO_8 := n0_; have HB := n1_; have HO131 := n2_; clear n0_ n1_ n2_; clear ho hb hg hat))
                go_roundg k1
                case measure => have := HK1.out; omega
                case rel => exact ⟨(y129), (wrap64 (x10_1 + 1)), (by first | rfl | (simp; done) | (simp [*]; done)), H', ⟨by have := HK1.out; omega⟩, ⟨by (with_reducible repeat (first | apply Kd.R_alloc | apply Kd.R_drewN | apply Kd.R_drew)); exact HO131.out⟩, ⟨by (with_reducible repeat (first | apply Kd.R_alloc | apply Kd.R_drewN | apply Kd.R_drew)); exact Kd.R_mono HO_8.out (fun _ hk => hk.2)⟩, ⟨by repeat (first | (with_reducible first | exact HB.out | apply below_alloc | apply pw_below_drewN | apply below_drew1) | exact HB.out)⟩⟩
              · rw [if_neg c12] at H
                exact absurd H (by simp)
          · rw [if_neg c10] at H
            exact absurd H (by simp)
        · rw [if_neg c9] at H
          exact absurd H (by simp)
      · rw [if_neg c8] at H
        have c8b0 : decide (x10_1 < (t125.length : Int)) = false := decide_eq_false c8
        clear c8
        obtain rfl := Option.some.inj H
        go_wp2
        go_ret
        exact ⟨_, by first | rfl | (simp [errW_none, errW_some] <;> rfl) | (simp [*, errW_none, errW_some] <;> rfl), by (with_reducible repeat (first | apply Kd.R_alloc | apply Kd.R_drewN | apply Kd.R_drew)); exact Kd.R_mono HO_3.out (fun _ hk => trivial), by repeat (first | (with_reducible first | exact HB.out | apply below_alloc | apply pw_below_drewN | apply below_drew1) | exact HB.out)⟩

/-! ### tagbyte_Dense: function 24 -/
def tagbyte_Dense.f (k : Nat) (a0 : Int) : Option (Bool) := (tagbyte_Of.f k a0).bind fun t132 => ((tagbyte_Ones.f t132).bind fun t133 => (some (decide (t133 ≥ 7))))
theorem tagbyte_Dense.mono : ∀ a0 k, LeO (tagbyte_Dense.f k a0) (tagbyte_Dense.f (k + 1) a0) := by
  intro a0 k
  unfold tagbyte_Dense.f
  repeat' first
      | (with_reducible exact tagbyte_Of.mono _ _)
      | (with_reducible exact LeO.refl _)
      | (with_reducible exact LeO.none _)
      | (with_reducible refine LeO.ite ?_ ?_)
      | (with_reducible refine LeO.bind ?_ (fun _ => ?_))
      | exact tagbyte_Of.mono _ _
      | exact LeO.none _
      | refine LeO.ite ?_ ?_
      | refine LeO.bind ?_ (fun _ => ?_)
set_option maxHeartbeats 8000000 in
set_option maxRecDepth 100000 in
theorem tagbyte_Dense.calls (k : Nat) (a0 : Int) (r : Bool) (w : World) (h : tagbyte_Dense.f k a0 = some r) :
    Calls Try.prog 24 #[.int .u64 a0] w fun e w' => e = .returned (.bool r) ∧ Below w.heap.size w w' := by
  have HB := Aside0.mk (Below.refl w.heap.size w)
  have H : ((tagbyte_Of.f k a0).bind fun t132 => ((tagbyte_Ones.f t132).bind fun t133 => (some (decide (t133 ≥ 7))))) = some r := h
  clear h
  replace H := Option.bind_eq_some_iff.mp H
  obtain ⟨t132, A20, H⟩ := H
  replace H : ((tagbyte_Ones.f t132).bind fun t133 => (some (decide (t133 ≥ 7)))) = some r := H
  have A2 := Aside0.mk A20
  clear A20
  replace H := Option.bind_eq_some_iff.mp H
  obtain ⟨t133, A30, H⟩ := H
  replace H : (some (decide (t133 ≥ 7))) = some r := H
  have A3 := Aside0.mk A30
  clear A30
  obtain rfl := Option.some.inj H
  go_enter Try.func24, Try.ntmps24
  go_wp2_with (first | ((with_reducible refine gate_callee (f := 17) rfl ?_); refine goesL_ (some 4) rfl rfl Try.func17 (by kernel_rfl) rfl #[.int .u64 a0] rfl (by (try simp only [List.map_toArray, List.map_cons, List.map_nil]); first | done | rfl | (simp only [List.length_drop, List.length_take]; rfl)) ?_; (with_reducible refine (tagbyte_Of.calls k a0 t132 _ A2.out).mono ?_); rintro e w4 ⟨rfl, hb⟩; refine ⟨_, rfl, ?_⟩; have n0_ := Aside0.mk (below_step (by repeat (first | (with_reducible first | exact HB.out | apply below_alloc | apply pw_below_drewN | apply below_drew1) | exact HB.out)) hb); clear HB; have HB := n0_; clear n0_; (try clear hb); (try clear hb2); (try clear hk); (try clear hi)) | ((with_reducible refine gate_callee (f := 22) rfl ?_); refine goesL_ (some 5) rfl rfl Try.func22 (by kernel_rfl) rfl #[.int .u8 t132] rfl (by (try simp only [List.map_toArray, List.map_cons, List.map_nil]); first | done | rfl | (simp only [List.length_drop, List.length_take]; rfl)) ?_; (with_reducible refine (tagbyte_Ones.calls t132 t133 _ A3.out).mono ?_); rintro e w' ⟨rfl, ⟨nd, rfl⟩⟩; refine ⟨_, rfl, ?_⟩))
  go_ret
  exact ⟨by first | rfl | (simp [errW_none, errW_some] <;> rfl) | (simp [*, errW_none, errW_some] <;> rfl), by repeat (first | (with_reducible first | exact HB.out | apply below_alloc | apply pw_below_drewN | apply below_drew1) | exact HB.out)⟩

/-! ### capnplaw20_awake: function 14 -/
def capnplaw20_awake.f (k : Nat)  : Option (Bool) := (tagbyte_Expand.f k 33 (([1, 255, 7] : List Int))).bind fun bt137 => ((tagbyte_Expand.f k 33 (([1] : List Int))).bind fun bt143 => ((tagbyte_Expand.f k 3 (([0, 5] : List Int))).bind fun bt149 => ((tagbyte_Of.f k 280375465082881).bind fun t152 => (if t152 = 33 then ((tagbyte_Bytes.f k 280375465082881).bind fun t153 => ((capnpref01_Same.f k t153 (([1, 255] : List Int))).bind fun t159 => (if t159 = true then (if bt137.1 = 280375465082881 then (if bt137.2.1 = 2 then (if bt137.2.2 = true then (if bt143.2.2 = true then (none) else (if bt149.1 = 1280 then (if bt149.2.1 = 2 then (if bt149.2.2 = true then ((tagbyte_Ones.f 255).bind fun t160 => (if t160 = 8 then ((tagbyte_Dense.f k 1234605616436508416).bind fun t161 => (if t161 = true then ((tagbyte_Dense.f k 1234605616436477952).bind fun t162 => (if t162 = true then (none) else ((tagbyte_Of.f k 0).bind fun t163 => (some (t163 == 0))))) else (none))) else (none))) else (none)) else (none)) else (none))) else (none)) else (none)) else (none)) else (none)))) else (none)))))
theorem capnplaw20_awake.mono : ∀ k, LeO (capnplaw20_awake.f k ) (capnplaw20_awake.f (k + 1) ) := by
  intro  k
  unfold capnplaw20_awake.f
  repeat' first
      | (with_reducible exact capnpref01_Same.mono _ _ _)
      | (with_reducible exact tagbyte_Bytes.mono _ _)
      | (with_reducible exact tagbyte_Dense.mono _ _)
      | (with_reducible exact tagbyte_Expand.mono _ _ _)
      | (with_reducible exact tagbyte_Of.mono _ _)
      | (with_reducible exact LeO.refl _)
      | (with_reducible exact LeO.none _)
      | (with_reducible refine LeO.ite ?_ ?_)
      | (with_reducible refine LeO.bind ?_ (fun _ => ?_))
      | exact capnpref01_Same.mono _ _ _
      | exact tagbyte_Bytes.mono _ _
      | exact tagbyte_Dense.mono _ _
      | exact tagbyte_Expand.mono _ _ _
      | exact tagbyte_Of.mono _ _
      | exact LeO.none _
      | refine LeO.ite ?_ ?_
      | refine LeO.bind ?_ (fun _ => ?_)
set_option maxHeartbeats 8000000 in
set_option maxRecDepth 100000 in
theorem capnplaw20_awake.calls (k : Nat)  (r : Bool) (w : World) (h : capnplaw20_awake.f k  = some r) :
    Calls Try.prog 14 #[] w fun e w' => e = .returned (.bool r) ∧ Below w.heap.size w w' := by
  have HB := Aside0.mk (Below.refl w.heap.size w)
  have H : ((tagbyte_Expand.f k 33 (([1, 255, 7] : List Int))).bind fun bt137 => ((tagbyte_Expand.f k 33 (([1] : List Int))).bind fun bt143 => ((tagbyte_Expand.f k 3 (([0, 5] : List Int))).bind fun bt149 => ((tagbyte_Of.f k 280375465082881).bind fun t152 => (if t152 = 33 then ((tagbyte_Bytes.f k 280375465082881).bind fun t153 => ((capnpref01_Same.f k t153 (([1, 255] : List Int))).bind fun t159 => (if t159 = true then (if bt137.1 = 280375465082881 then (if bt137.2.1 = 2 then (if bt137.2.2 = true then (if bt143.2.2 = true then (none) else (if bt149.1 = 1280 then (if bt149.2.1 = 2 then (if bt149.2.2 = true then ((tagbyte_Ones.f 255).bind fun t160 => (if t160 = 8 then ((tagbyte_Dense.f k 1234605616436508416).bind fun t161 => (if t161 = true then ((tagbyte_Dense.f k 1234605616436477952).bind fun t162 => (if t162 = true then (none) else ((tagbyte_Of.f k 0).bind fun t163 => (some (t163 == 0))))) else (none))) else (none))) else (none)) else (none)) else (none))) else (none)) else (none)) else (none)) else (none)))) else (none)))))) = some r := h
  clear h
  obtain ⟨y134, hy134⟩ : ∃ y_ : List Int, y_ = (([1, 255, 7] : List Int)) := ⟨_, rfl⟩
  replace H : ((tagbyte_Expand.f k 33 y134).bind fun bt137 => ((tagbyte_Expand.f k 33 (([1] : List Int))).bind fun bt143 => ((tagbyte_Expand.f k 3 (([0, 5] : List Int))).bind fun bt149 => ((tagbyte_Of.f k 280375465082881).bind fun t152 => (if t152 = 33 then ((tagbyte_Bytes.f k 280375465082881).bind fun t153 => ((capnpref01_Same.f k t153 (([1, 255] : List Int))).bind fun t159 => (if t159 = true then (if bt137.1 = 280375465082881 then (if bt137.2.1 = 2 then (if bt137.2.2 = true then (if bt143.2.2 = true then (none) else (if bt149.1 = 1280 then (if bt149.2.1 = 2 then (if bt149.2.2 = true then ((tagbyte_Ones.f 255).bind fun t160 => (if t160 = 8 then ((tagbyte_Dense.f k 1234605616436508416).bind fun t161 => (if t161 = true then ((tagbyte_Dense.f k 1234605616436477952).bind fun t162 => (if t162 = true then (none) else ((tagbyte_Of.f k 0).bind fun t163 => (some (t163 == 0))))) else (none))) else (none))) else (none)) else (none)) else (none))) else (none)) else (none)) else (none)) else (none)))) else (none)))))) = some r := by first | (rw [hy134]; with_reducible exact H) | (have H2_ := (Option.bind_some _ _).symm.trans H; rw [hy134]; with_reducible exact H2_) | (have H2_ := (Option.bind_some _ _).symm.trans H; with_reducible exact H2_) | with_reducible exact H | (rw [hy134]; exact H) | exact H
  have Ny134 := Aside0.mk hy134
  clear hy134
  replace H := Option.bind_eq_some_iff.mp H
  obtain ⟨⟨t137, t138, t139⟩, A10, H⟩ := H
  replace H : ((tagbyte_Expand.f k 33 (([1] : List Int))).bind fun bt143 => ((tagbyte_Expand.f k 3 (([0, 5] : List Int))).bind fun bt149 => ((tagbyte_Of.f k 280375465082881).bind fun t152 => (if t152 = 33 then ((tagbyte_Bytes.f k 280375465082881).bind fun t153 => ((capnpref01_Same.f k t153 (([1, 255] : List Int))).bind fun t159 => (if t159 = true then (if t137 = 280375465082881 then (if t138 = 2 then (if t139 = true then (if bt143.2.2 = true then (none) else (if bt149.1 = 1280 then (if bt149.2.1 = 2 then (if bt149.2.2 = true then ((tagbyte_Ones.f 255).bind fun t160 => (if t160 = 8 then ((tagbyte_Dense.f k 1234605616436508416).bind fun t161 => (if t161 = true then ((tagbyte_Dense.f k 1234605616436477952).bind fun t162 => (if t162 = true then (none) else ((tagbyte_Of.f k 0).bind fun t163 => (some (t163 == 0))))) else (none))) else (none))) else (none)) else (none)) else (none))) else (none)) else (none)) else (none)) else (none)))) else (none))))) = some r := H
  have A1 := Aside0.mk A10
  clear A10
  obtain ⟨y140, hy140⟩ : ∃ y_ : List Int, y_ = (([1] : List Int)) := ⟨_, rfl⟩
  replace H : ((tagbyte_Expand.f k 33 y140).bind fun bt143 => ((tagbyte_Expand.f k 3 (([0, 5] : List Int))).bind fun bt149 => ((tagbyte_Of.f k 280375465082881).bind fun t152 => (if t152 = 33 then ((tagbyte_Bytes.f k 280375465082881).bind fun t153 => ((capnpref01_Same.f k t153 (([1, 255] : List Int))).bind fun t159 => (if t159 = true then (if t137 = 280375465082881 then (if t138 = 2 then (if t139 = true then (if bt143.2.2 = true then (none) else (if bt149.1 = 1280 then (if bt149.2.1 = 2 then (if bt149.2.2 = true then ((tagbyte_Ones.f 255).bind fun t160 => (if t160 = 8 then ((tagbyte_Dense.f k 1234605616436508416).bind fun t161 => (if t161 = true then ((tagbyte_Dense.f k 1234605616436477952).bind fun t162 => (if t162 = true then (none) else ((tagbyte_Of.f k 0).bind fun t163 => (some (t163 == 0))))) else (none))) else (none))) else (none)) else (none)) else (none))) else (none)) else (none)) else (none)) else (none)))) else (none))))) = some r := by first | (rw [hy140]; with_reducible exact H) | (have H2_ := (Option.bind_some _ _).symm.trans H; rw [hy140]; with_reducible exact H2_) | (have H2_ := (Option.bind_some _ _).symm.trans H; with_reducible exact H2_) | with_reducible exact H | (rw [hy140]; exact H) | exact H
  have Ny140 := Aside0.mk hy140
  clear hy140
  replace H := Option.bind_eq_some_iff.mp H
  obtain ⟨⟨t143, t144, t145⟩, A20, H⟩ := H
  replace H : ((tagbyte_Expand.f k 3 (([0, 5] : List Int))).bind fun bt149 => ((tagbyte_Of.f k 280375465082881).bind fun t152 => (if t152 = 33 then ((tagbyte_Bytes.f k 280375465082881).bind fun t153 => ((capnpref01_Same.f k t153 (([1, 255] : List Int))).bind fun t159 => (if t159 = true then (if t137 = 280375465082881 then (if t138 = 2 then (if t139 = true then (if t145 = true then (none) else (if bt149.1 = 1280 then (if bt149.2.1 = 2 then (if bt149.2.2 = true then ((tagbyte_Ones.f 255).bind fun t160 => (if t160 = 8 then ((tagbyte_Dense.f k 1234605616436508416).bind fun t161 => (if t161 = true then ((tagbyte_Dense.f k 1234605616436477952).bind fun t162 => (if t162 = true then (none) else ((tagbyte_Of.f k 0).bind fun t163 => (some (t163 == 0))))) else (none))) else (none))) else (none)) else (none)) else (none))) else (none)) else (none)) else (none)) else (none)))) else (none)))) = some r := H
  have A2 := Aside0.mk A20
  clear A20
  obtain ⟨y146, hy146⟩ : ∃ y_ : List Int, y_ = (([0, 5] : List Int)) := ⟨_, rfl⟩
  replace H : ((tagbyte_Expand.f k 3 y146).bind fun bt149 => ((tagbyte_Of.f k 280375465082881).bind fun t152 => (if t152 = 33 then ((tagbyte_Bytes.f k 280375465082881).bind fun t153 => ((capnpref01_Same.f k t153 (([1, 255] : List Int))).bind fun t159 => (if t159 = true then (if t137 = 280375465082881 then (if t138 = 2 then (if t139 = true then (if t145 = true then (none) else (if bt149.1 = 1280 then (if bt149.2.1 = 2 then (if bt149.2.2 = true then ((tagbyte_Ones.f 255).bind fun t160 => (if t160 = 8 then ((tagbyte_Dense.f k 1234605616436508416).bind fun t161 => (if t161 = true then ((tagbyte_Dense.f k 1234605616436477952).bind fun t162 => (if t162 = true then (none) else ((tagbyte_Of.f k 0).bind fun t163 => (some (t163 == 0))))) else (none))) else (none))) else (none)) else (none)) else (none))) else (none)) else (none)) else (none)) else (none)))) else (none)))) = some r := by first | (rw [hy146]; with_reducible exact H) | (have H2_ := (Option.bind_some _ _).symm.trans H; rw [hy146]; with_reducible exact H2_) | (have H2_ := (Option.bind_some _ _).symm.trans H; with_reducible exact H2_) | with_reducible exact H | (rw [hy146]; exact H) | exact H
  have Ny146 := Aside0.mk hy146
  clear hy146
  replace H := Option.bind_eq_some_iff.mp H
  obtain ⟨⟨t149, t150, t151⟩, A30, H⟩ := H
  replace H : ((tagbyte_Of.f k 280375465082881).bind fun t152 => (if t152 = 33 then ((tagbyte_Bytes.f k 280375465082881).bind fun t153 => ((capnpref01_Same.f k t153 (([1, 255] : List Int))).bind fun t159 => (if t159 = true then (if t137 = 280375465082881 then (if t138 = 2 then (if t139 = true then (if t145 = true then (none) else (if t149 = 1280 then (if t150 = 2 then (if t151 = true then ((tagbyte_Ones.f 255).bind fun t160 => (if t160 = 8 then ((tagbyte_Dense.f k 1234605616436508416).bind fun t161 => (if t161 = true then ((tagbyte_Dense.f k 1234605616436477952).bind fun t162 => (if t162 = true then (none) else ((tagbyte_Of.f k 0).bind fun t163 => (some (t163 == 0))))) else (none))) else (none))) else (none)) else (none)) else (none))) else (none)) else (none)) else (none)) else (none)))) else (none))) = some r := H
  have A3 := Aside0.mk A30
  clear A30
  replace H := Option.bind_eq_some_iff.mp H
  obtain ⟨t152, A40, H⟩ := H
  replace H : (if t152 = 33 then ((tagbyte_Bytes.f k 280375465082881).bind fun t153 => ((capnpref01_Same.f k t153 (([1, 255] : List Int))).bind fun t159 => (if t159 = true then (if t137 = 280375465082881 then (if t138 = 2 then (if t139 = true then (if t145 = true then (none) else (if t149 = 1280 then (if t150 = 2 then (if t151 = true then ((tagbyte_Ones.f 255).bind fun t160 => (if t160 = 8 then ((tagbyte_Dense.f k 1234605616436508416).bind fun t161 => (if t161 = true then ((tagbyte_Dense.f k 1234605616436477952).bind fun t162 => (if t162 = true then (none) else ((tagbyte_Of.f k 0).bind fun t163 => (some (t163 == 0))))) else (none))) else (none))) else (none)) else (none)) else (none))) else (none)) else (none)) else (none)) else (none)))) else (none)) = some r := H
  have A4 := Aside0.mk A40
  clear A40
  by_cases c5 : t152 = 33
  · rw [if_pos c5] at H
    have c5b0 : (t152 == 33) = true := beq_iff_eq.mpr c5
    have c5b1 : (t152 != 33) = false := bne_eq_false_iff_eq.mpr c5
    clear c5
    replace H := Option.bind_eq_some_iff.mp H
    obtain ⟨t153, A60, H⟩ := H
    replace H : ((capnpref01_Same.f k t153 (([1, 255] : List Int))).bind fun t159 => (if t159 = true then (if t137 = 280375465082881 then (if t138 = 2 then (if t139 = true then (if t145 = true then (none) else (if t149 = 1280 then (if t150 = 2 then (if t151 = true then ((tagbyte_Ones.f 255).bind fun t160 => (if t160 = 8 then ((tagbyte_Dense.f k 1234605616436508416).bind fun t161 => (if t161 = true then ((tagbyte_Dense.f k 1234605616436477952).bind fun t162 => (if t162 = true then (none) else ((tagbyte_Of.f k 0).bind fun t163 => (some (t163 == 0))))) else (none))) else (none))) else (none)) else (none)) else (none))) else (none)) else (none)) else (none)) else (none))) = some r := H
    have A6 := Aside0.mk A60
    clear A60
    obtain ⟨y156, hy156⟩ : ∃ y_ : List Int, y_ = (([1, 255] : List Int)) := ⟨_, rfl⟩
    replace H : ((capnpref01_Same.f k t153 y156).bind fun t159 => (if t159 = true then (if t137 = 280375465082881 then (if t138 = 2 then (if t139 = true then (if t145 = true then (none) else (if t149 = 1280 then (if t150 = 2 then (if t151 = true then ((tagbyte_Ones.f 255).bind fun t160 => (if t160 = 8 then ((tagbyte_Dense.f k 1234605616436508416).bind fun t161 => (if t161 = true then ((tagbyte_Dense.f k 1234605616436477952).bind fun t162 => (if t162 = true then (none) else ((tagbyte_Of.f k 0).bind fun t163 => (some (t163 == 0))))) else (none))) else (none))) else (none)) else (none)) else (none))) else (none)) else (none)) else (none)) else (none))) = some r := by first | (rw [hy156]; with_reducible exact H) | (have H2_ := (Option.bind_some _ _).symm.trans H; rw [hy156]; with_reducible exact H2_) | (have H2_ := (Option.bind_some _ _).symm.trans H; with_reducible exact H2_) | with_reducible exact H | (rw [hy156]; exact H) | exact H
    have Ny156 := Aside0.mk hy156
    clear hy156
    replace H := Option.bind_eq_some_iff.mp H
    obtain ⟨t159, A70, H⟩ := H
    replace H : (if t159 = true then (if t137 = 280375465082881 then (if t138 = 2 then (if t139 = true then (if t145 = true then (none) else (if t149 = 1280 then (if t150 = 2 then (if t151 = true then ((tagbyte_Ones.f 255).bind fun t160 => (if t160 = 8 then ((tagbyte_Dense.f k 1234605616436508416).bind fun t161 => (if t161 = true then ((tagbyte_Dense.f k 1234605616436477952).bind fun t162 => (if t162 = true then (none) else ((tagbyte_Of.f k 0).bind fun t163 => (some (t163 == 0))))) else (none))) else (none))) else (none)) else (none)) else (none))) else (none)) else (none)) else (none)) else (none)) = some r := H
    have A7 := Aside0.mk A70
    clear A70
    by_cases c8 : t159 = true
    · subst c8
      have H1 : (if t137 = 280375465082881 then (if t138 = 2 then (if t139 = true then (if t145 = true then (none) else (if t149 = 1280 then (if t150 = 2 then (if t151 = true then ((tagbyte_Ones.f 255).bind fun t160 => (if t160 = 8 then ((tagbyte_Dense.f k 1234605616436508416).bind fun t161 => (if t161 = true then ((tagbyte_Dense.f k 1234605616436477952).bind fun t162 => (if t162 = true then (none) else ((tagbyte_Of.f k 0).bind fun t163 => (some (t163 == 0))))) else (none))) else (none))) else (none)) else (none)) else (none))) else (none)) else (none)) else (none)) = some r := by rw [if_pos rfl] at H; exact H
      clear H
      have H := H1
      clear H1
      by_cases c9 : t137 = 280375465082881
      · rw [if_pos c9] at H
        have c9b0 : (t137 == 280375465082881) = true := beq_iff_eq.mpr c9
        have c9b1 : (t137 != 280375465082881) = false := bne_eq_false_iff_eq.mpr c9
        clear c9
        by_cases c10 : t138 = 2
        · rw [if_pos c10] at H
          have c10b0 : (t138 == 2) = true := beq_iff_eq.mpr c10
          have c10b1 : (t138 != 2) = false := bne_eq_false_iff_eq.mpr c10
          clear c10
          by_cases c11 : t139 = true
          · subst c11
            have H1 : (if t145 = true then (none) else (if t149 = 1280 then (if t150 = 2 then (if t151 = true then ((tagbyte_Ones.f 255).bind fun t160 => (if t160 = 8 then ((tagbyte_Dense.f k 1234605616436508416).bind fun t161 => (if t161 = true then ((tagbyte_Dense.f k 1234605616436477952).bind fun t162 => (if t162 = true then (none) else ((tagbyte_Of.f k 0).bind fun t163 => (some (t163 == 0))))) else (none))) else (none))) else (none)) else (none)) else (none))) = some r := by rw [if_pos rfl] at H; exact H
            clear H
            have H := H1
            clear H1
            by_cases c12 : t145 = true
            · subst c12
              have H1 : (none) = some r := by rw [if_pos rfl] at H; exact H
              clear H
              have H := H1
              clear H1
              exact absurd H (by simp)
            · replace c12 := Bool.eq_false_iff.mpr c12
              subst c12
              have H1 : (if t149 = 1280 then (if t150 = 2 then (if t151 = true then ((tagbyte_Ones.f 255).bind fun t160 => (if t160 = 8 then ((tagbyte_Dense.f k 1234605616436508416).bind fun t161 => (if t161 = true then ((tagbyte_Dense.f k 1234605616436477952).bind fun t162 => (if t162 = true then (none) else ((tagbyte_Of.f k 0).bind fun t163 => (some (t163 == 0))))) else (none))) else (none))) else (none)) else (none)) else (none)) = some r := by rw [if_neg (show ¬ (false = true) by decide)] at H; exact H
              clear H
              have H := H1
              clear H1
              by_cases c13 : t149 = 1280
              · rw [if_pos c13] at H
                have c13b0 : (t149 == 1280) = true := beq_iff_eq.mpr c13
                have c13b1 : (t149 != 1280) = false := bne_eq_false_iff_eq.mpr c13
                clear c13
                by_cases c14 : t150 = 2
                · rw [if_pos c14] at H
                  have c14b0 : (t150 == 2) = true := beq_iff_eq.mpr c14
                  have c14b1 : (t150 != 2) = false := bne_eq_false_iff_eq.mpr c14
                  clear c14
                  by_cases c15 : t151 = true
                  · subst c15
                    have H1 : ((tagbyte_Ones.f 255).bind fun t160 => (if t160 = 8 then ((tagbyte_Dense.f k 1234605616436508416).bind fun t161 => (if t161 = true then ((tagbyte_Dense.f k 1234605616436477952).bind fun t162 => (if t162 = true then (none) else ((tagbyte_Of.f k 0).bind fun t163 => (some (t163 == 0))))) else (none))) else (none))) = some r := by rw [if_pos rfl] at H; exact H
                    clear H
                    have H := H1
                    clear H1
                    replace H := Option.bind_eq_some_iff.mp H
                    obtain ⟨t160, A160, H⟩ := H
                    replace H : (if t160 = 8 then ((tagbyte_Dense.f k 1234605616436508416).bind fun t161 => (if t161 = true then ((tagbyte_Dense.f k 1234605616436477952).bind fun t162 => (if t162 = true then (none) else ((tagbyte_Of.f k 0).bind fun t163 => (some (t163 == 0))))) else (none))) else (none)) = some r := H
                    have A16 := Aside0.mk A160
                    clear A160
                    by_cases c17 : t160 = 8
                    · rw [if_pos c17] at H
                      have c17b0 : (t160 == 8) = true := beq_iff_eq.mpr c17
                      have c17b1 : (t160 != 8) = false := bne_eq_false_iff_eq.mpr c17
                      clear c17
                      replace H := Option.bind_eq_some_iff.mp H
                      obtain ⟨t161, A180, H⟩ := H
                      replace H : (if t161 = true then ((tagbyte_Dense.f k 1234605616436477952).bind fun t162 => (if t162 = true then (none) else ((tagbyte_Of.f k 0).bind fun t163 => (some (t163 == 0))))) else (none)) = some r := H
                      have A18 := Aside0.mk A180
                      clear A180
                      by_cases c19 : t161 = true
                      · subst c19
                        have H1 : ((tagbyte_Dense.f k 1234605616436477952).bind fun t162 => (if t162 = true then (none) else ((tagbyte_Of.f k 0).bind fun t163 => (some (t163 == 0))))) = some r := by rw [if_pos rfl] at H; exact H
                        clear H
                        have H := H1
                        clear H1
                        replace H := Option.bind_eq_some_iff.mp H
                        obtain ⟨t162, A200, H⟩ := H
                        replace H : (if t162 = true then (none) else ((tagbyte_Of.f k 0).bind fun t163 => (some (t163 == 0)))) = some r := H
                        have A20 := Aside0.mk A200
                        clear A200
                        by_cases c21 : t162 = true
                        · subst c21
                          have H1 : (none) = some r := by rw [if_pos rfl] at H; exact H
                          clear H
                          have H := H1
                          clear H1
                          exact absurd H (by simp)
                        · replace c21 := Bool.eq_false_iff.mpr c21
                          subst c21
                          have H1 : ((tagbyte_Of.f k 0).bind fun t163 => (some (t163 == 0))) = some r := by rw [if_neg (show ¬ (false = true) by decide)] at H; exact H
                          clear H
                          have H := H1
                          clear H1
                          replace H := Option.bind_eq_some_iff.mp H
                          obtain ⟨t163, A220, H⟩ := H
                          replace H : (some (t163 == 0)) = some r := H
                          have A22 := Aside0.mk A220
                          clear A220
                          obtain rfl := Option.some.inj H
                          go_enter Try.func14, Try.ntmps14
                          go_wp2_with (first | ((with_reducible refine gate_dst (N := 11) rfl ?_); (try (refine gate_guard (by rfl) ?_; dsimp only)); refine Kd.R_lit (Kd.int .u8) _ 5 ?hg (N := 11) ?hd (xs := ([1, 255, 7] : List Int)) (inner := [.int .u8 1, .int .u8 255, .int .u8 7]) (ok := fun _ => True) (okp := fun _ => True) ?hr ?hp (fun _ hk => hk) trivial (Below.refl _ _) (Nat.le_refl _) (by simp) ?_; (case hd => rfl); (case hg => rfl); (case hr => first | (go_simp; done) | (go_simp; rfl)); (case hp => exact (Reps.one (show Kd.M (Kd.int .u8) _ _ _ 1 [.int .u8 1] from rfl) (Reps.one (show Kd.M (Kd.int .u8) _ _ _ 255 [.int .u8 255] from rfl) (Reps.one (show Kd.M (Kd.int .u8) _ _ _ 7 [.int .u8 7] from rfl) (Reps.none _ _))))); intro v135 w23 ho24 hb hg_ hnew_; clear hg_ hnew_; (first | rw [← Ny134.out] at ho24 | (simp only [Int.reduceToNat] at ho24; rw [← Ny134.out] at ho24)); have n0_ := Aside0.mk (Kd.R_lower ho24 (below_size (by repeat (first | (with_reducible first | exact HB.out | apply below_alloc | apply pw_below_drewN | apply below_drew1) | exact HB.out)))); have n1_ := Aside0.mk (below_step (by repeat (first | (with_reducible first | exact HB.out | apply below_alloc | apply pw_below_drewN | apply below_drew1) | exact HB.out)) hb); clear HB; have HO136 := n0_; have HB := n1_; clear n0_ n1_; clear hb ho24; obtain ⟨Ao25, co25, eo25⟩ := Kd.R_slice HO136.out; subst eo25) | ((with_reducible refine gate_callee (f := 15) rfl ?_); refine goesL_ (some 12) rfl rfl Try.func15 (by kernel_rfl) rfl #[.int .u8 33, .slice Ao25 y134.length co25] rfl (by (try simp only [List.map_toArray, List.map_cons, List.map_nil]); first | done | rfl | (simp only [List.length_drop, List.length_take]; rfl)) ?_; (with_reducible refine (tagbyte_Expand.calls k 33 _ _ y134 t137 t138 true _ ?side1 ?side2 A1.out).mono ?_); (case side1 => repeat (first | exact (Kd.R_reads' HO136.out).2.2 | (with_reducible refine Kd.C_alloc ?_ _) | (with_reducible refine Kd.C_drewN ?_ _) | (with_reducible refine Kd.C_drew ?_))); (case side2 => exact (Kd.R_reads' HO136.out).2.1); rintro e w' ⟨rfl, ⟨nd, rfl⟩⟩; refine ⟨_, rfl, ?_⟩) | ((with_reducible refine gate_dst (N := 17) rfl ?_); (try (refine gate_guard (by rfl) ?_; dsimp only)); refine Kd.R_lit (Kd.int .u8) _ 5 ?hg (N := 17) ?hd (xs := ([1] : List Int)) (inner := [.int .u8 1]) (ok := fun _ => True) (okp := fun _ => True) ?hr ?hp (fun _ hk => hk) trivial (Below.refl _ _) (Nat.le_refl _) (by simp) ?_; (case hd => rfl); (case hg => rfl); (case hr => first | (go_simp; done) | (go_simp; rfl)); (case hp => exact (Reps.one (show Kd.M (Kd.int .u8) _ _ _ 1 [.int .u8 1] from rfl) (Reps.none _ _))); intro v141 w26 ho27 hb hg_ hnew_; clear hg_ hnew_; (first | rw [← Ny140.out] at ho27 | (simp only [Int.reduceToNat] at ho27; rw [← Ny140.out] at ho27)); have n0_ := Aside0.mk (Kd.R_elder' (by (with_reducible repeat (first | apply Kd.R_alloc | apply Kd.R_drewN | apply Kd.R_drew)); exact HO136.out) (Kd.R_base ho27) hb); have n1_ := Aside0.mk (Kd.R_lower (Kd.R_new' ho27 (Kd.R_lt (by (with_reducible repeat (first | apply Kd.R_alloc | apply Kd.R_drewN | apply Kd.R_drew)); exact HO136.out))) (below_size (by repeat (first | (with_reducible first | exact HB.out | apply below_alloc | apply pw_below_drewN | apply below_drew1) | exact HB.out)))); have n2_ := Aside0.mk (below_step (by repeat (first | (with_reducible first | exact HB.out | apply below_alloc | apply pw_below_drewN | apply below_drew1) | exact HB.out)) hb); clear HO136; clear HB; have HO136 := n0_; have HO142 := n1_; have HB := n2_; clear n0_ n1_ n2_; clear hb ho27; obtain ⟨Ao28, co28, eo28⟩ := Kd.R_slice HO142.out; subst eo28) | ((with_reducible refine gate_callee (f := 15) rfl ?_); refine goesL_ (some 18) rfl rfl Try.func15 (by kernel_rfl) rfl #[.int .u8 33, .slice Ao28 y140.length co28] rfl (by (try simp only [List.map_toArray, List.map_cons, List.map_nil]); first | done | rfl | (simp only [List.length_drop, List.length_take]; rfl)) ?_; (with_reducible refine (tagbyte_Expand.calls k 33 _ _ y140 t143 t144 false _ ?side1 ?side2 A2.out).mono ?_); (case side1 => repeat (first | exact (Kd.R_reads' HO142.out).2.2 | (with_reducible refine Kd.C_alloc ?_ _) | (with_reducible refine Kd.C_drewN ?_ _) | (with_reducible refine Kd.C_drew ?_))); (case side2 => exact (Kd.R_reads' HO142.out).2.1); rintro e w' ⟨rfl, ⟨nd, rfl⟩⟩; refine ⟨_, rfl, ?_⟩) | ((with_reducible refine gate_dst (N := 23) rfl ?_); (try (refine gate_guard (by rfl) ?_; dsimp only)); refine Kd.R_lit (Kd.int .u8) _ 5 ?hg (N := 23) ?hd (xs := ([0, 5] : List Int)) (inner := [.int .u8 0, .int .u8 5]) (ok := fun _ => True) (okp := fun _ => True) ?hr ?hp (fun _ hk => hk) trivial (Below.refl _ _) (Nat.le_refl _) (by simp) ?_; (case hd => rfl); (case hg => rfl); (case hr => first | (go_simp; done) | (go_simp; rfl)); (case hp => exact (Reps.one (show Kd.M (Kd.int .u8) _ _ _ 0 [.int .u8 0] from rfl) (Reps.one (show Kd.M (Kd.int .u8) _ _ _ 5 [.int .u8 5] from rfl) (Reps.none _ _)))); intro v147 w29 ho30 hb hg_ hnew_; clear hg_ hnew_; (first | rw [← Ny146.out] at ho30 | (simp only [Int.reduceToNat] at ho30; rw [← Ny146.out] at ho30)); have n0_ := Aside0.mk (Kd.R_elder' (by (with_reducible repeat (first | apply Kd.R_alloc | apply Kd.R_drewN | apply Kd.R_drew)); exact HO136.out) (Kd.R_base ho30) hb); have n1_ := Aside0.mk (Kd.R_elder' (by (with_reducible repeat (first | apply Kd.R_alloc | apply Kd.R_drewN | apply Kd.R_drew)); exact HO142.out) (Kd.R_base ho30) hb); have n2_ := Aside0.mk (Kd.R_lower (Kd.R_new' (Kd.R_new' ho30 (Kd.R_lt (by (with_reducible repeat (first | apply Kd.R_alloc | apply Kd.R_drewN | apply Kd.R_drew)); exact HO136.out))) (Kd.R_lt (by (with_reducible repeat (first | apply Kd.R_alloc | apply Kd.R_drewN | apply Kd.R_drew)); exact HO142.out))) (below_size (by repeat (first | (with_reducible first | exact HB.out | apply below_alloc | apply pw_below_drewN | apply below_drew1) | exact HB.out)))); have n3_ := Aside0.mk (below_step (by repeat (first | (with_reducible first | exact HB.out | apply below_alloc | apply pw_below_drewN | apply below_drew1) | exact HB.out)) hb); clear HO136; clear HO142; clear HB; have HO136 := n0_; have HO142 := n1_; have HO148 := n2_; have HB := n3_; clear n0_ n1_ n2_ n3_; clear hb ho30; obtain ⟨Ao31, co31, eo31⟩ := Kd.R_slice HO148.out; subst eo31) | ((with_reducible refine gate_callee (f := 15) rfl ?_); refine goesL_ (some 24) rfl rfl Try.func15 (by kernel_rfl) rfl #[.int .u8 3, .slice Ao31 y146.length co31] rfl (by (try simp only [List.map_toArray, List.map_cons, List.map_nil]); first | done | rfl | (simp only [List.length_drop, List.length_take]; rfl)) ?_; (with_reducible refine (tagbyte_Expand.calls k 3 _ _ y146 t149 t150 true _ ?side1 ?side2 A3.out).mono ?_); (case side1 => repeat (first | exact (Kd.R_reads' HO148.out).2.2 | (with_reducible refine Kd.C_alloc ?_ _) | (with_reducible refine Kd.C_drewN ?_ _) | (with_reducible refine Kd.C_drew ?_))); (case side2 => exact (Kd.R_reads' HO148.out).2.1); rintro e w' ⟨rfl, ⟨nd, rfl⟩⟩; refine ⟨_, rfl, ?_⟩) | ((with_reducible refine gate_callee (f := 17) rfl ?_); refine goesL_ (some 28) rfl rfl Try.func17 (by kernel_rfl) rfl #[.int .u64 280375465082881] rfl (by (try simp only [List.map_toArray, List.map_cons, List.map_nil]); first | done | rfl | (simp only [List.length_drop, List.length_take]; rfl)) ?_; (with_reducible refine (tagbyte_Of.calls k 280375465082881 t152 _ A4.out).mono ?_); rintro e w32 ⟨rfl, hb⟩; refine ⟨_, rfl, ?_⟩; have n0_ := Aside0.mk (Kd.R_below (by (with_reducible repeat (first | apply Kd.R_alloc | apply Kd.R_drewN | apply Kd.R_drew)); exact HO136.out) hb); have n1_ := Aside0.mk (Kd.R_below (by (with_reducible repeat (first | apply Kd.R_alloc | apply Kd.R_drewN | apply Kd.R_drew)); exact HO142.out) hb); have n2_ := Aside0.mk (Kd.R_below (by (with_reducible repeat (first | apply Kd.R_alloc | apply Kd.R_drewN | apply Kd.R_drew)); exact HO148.out) hb); have n3_ := Aside0.mk (below_step (by repeat (first | (with_reducible first | exact HB.out | apply below_alloc | apply pw_below_drewN | apply below_drew1) | exact HB.out)) hb); clear HO136; clear HO142; clear HO148; clear HB; have HO136 := n0_; have HO142 := n1_; have HO148 := n2_; have HB := n3_; clear n0_ n1_ n2_ n3_; (try clear hb); (try clear hb2); (try clear hk); (try clear hi)) | (go_at_call 20; (with_reducible refine (tagbyte_Bytes.calls k 280375465082881 t153 _ A6.out).mono ?_); rintro e w33 ⟨v154, rfl, ho0, hb⟩; have n0_ := Aside0.mk (Kd.R_elder' (by (with_reducible repeat (first | apply Kd.R_alloc | apply Kd.R_drewN | apply Kd.R_drew)); exact HO136.out) (Kd.R_base ho0) hb); have n1_ := Aside0.mk (Kd.R_elder' (by (with_reducible repeat (first | apply Kd.R_alloc | apply Kd.R_drewN | apply Kd.R_drew)); exact HO142.out) (Kd.R_base ho0) hb); have n2_ := Aside0.mk (Kd.R_elder' (by (with_reducible repeat (first | apply Kd.R_alloc | apply Kd.R_drewN | apply Kd.R_drew)); exact HO148.out) (Kd.R_base ho0) hb); have n3_ := Aside0.mk (Kd.R_lower (Kd.R_new' (Kd.R_new' (Kd.R_new' ho0 (Kd.R_lt (by (with_reducible repeat (first | apply Kd.R_alloc | apply Kd.R_drewN | apply Kd.R_drew)); exact HO136.out))) (Kd.R_lt (by (with_reducible repeat (first | apply Kd.R_alloc | apply Kd.R_drewN | apply Kd.R_drew)); exact HO142.out))) (Kd.R_lt (by (with_reducible repeat (first | apply Kd.R_alloc | apply Kd.R_drewN | apply Kd.R_drew)); exact HO148.out))) (below_size (by repeat (first | (with_reducible first | exact HB.out | apply below_alloc | apply pw_below_drewN | apply below_drew1) | exact HB.out)))); have n4_ := Aside0.mk (below_step (by repeat (first | (with_reducible first | exact HB.out | apply below_alloc | apply pw_below_drewN | apply below_drew1) | exact HB.out)) hb); clear HO136; clear HO142; clear HO148; clear HB; have HO136 := n0_; have HO142 := n1_; have HO148 := n2_; have HO155 := n3_; have HB := n4_; clear n0_ n1_ n2_ n3_ n4_; (try clear hb); (try clear hb2); (try clear hk); (try clear hi); (try clear ho0)) | ((with_reducible refine gate_dst (N := 32) rfl ?_); (try (refine gate_guard (by rfl) ?_; dsimp only)); refine Kd.R_lit (Kd.int .u8) _ 5 ?hg (N := 32) ?hd (xs := ([1, 255] : List Int)) (inner := [.int .u8 1, .int .u8 255]) (ok := fun _ => True) (okp := fun _ => True) ?hr ?hp (fun _ hk => hk) trivial (Below.refl _ _) (Nat.le_refl _) (by simp) ?_; (case hd => rfl); (case hg => rfl); (case hr => first | (go_simp; done) | (go_simp; rfl)); (case hp => exact (Reps.one (show Kd.M (Kd.int .u8) _ _ _ 1 [.int .u8 1] from rfl) (Reps.one (show Kd.M (Kd.int .u8) _ _ _ 255 [.int .u8 255] from rfl) (Reps.none _ _)))); intro v157 w34 ho35 hb hg_ hnew_; clear hg_ hnew_; (first | rw [← Ny156.out] at ho35 | (simp only [Int.reduceToNat] at ho35; rw [← Ny156.out] at ho35)); have n0_ := Aside0.mk (Kd.R_elder' (by (with_reducible repeat (first | apply Kd.R_alloc | apply Kd.R_drewN | apply Kd.R_drew)); exact HO136.out) (Kd.R_base ho35) hb); have n1_ := Aside0.mk (Kd.R_elder' (by (with_reducible repeat (first | apply Kd.R_alloc | apply Kd.R_drewN | apply Kd.R_drew)); exact HO142.out) (Kd.R_base ho35) hb); have n2_ := Aside0.mk (Kd.R_elder' (by (with_reducible repeat (first | apply Kd.R_alloc | apply Kd.R_drewN | apply Kd.R_drew)); exact HO148.out) (Kd.R_base ho35) hb); have n3_ := Aside0.mk (Kd.R_elder' (by (with_reducible repeat (first | apply Kd.R_alloc | apply Kd.R_drewN | apply Kd.R_drew)); exact HO155.out) (Kd.R_base ho35) hb); have n4_ := Aside0.mk (Kd.R_lower (Kd.R_new' (Kd.R_new' (Kd.R_new' (Kd.R_new' ho35 (Kd.R_lt (by (with_reducible repeat (first | apply Kd.R_alloc | apply Kd.R_drewN | apply Kd.R_drew)); exact HO136.out))) (Kd.R_lt (by (with_reducible repeat (first | apply Kd.R_alloc | apply Kd.R_drewN | apply Kd.R_drew)); exact HO142.out))) (Kd.R_lt (by (with_reducible repeat (first | apply Kd.R_alloc | apply Kd.R_drewN | apply Kd.R_drew)); exact HO148.out))) (Kd.R_lt (by (with_reducible repeat (first | apply Kd.R_alloc | apply Kd.R_drewN | apply Kd.R_drew)); exact HO155.out))) (below_size (by repeat (first | (with_reducible first | exact HB.out | apply below_alloc | apply pw_below_drewN | apply below_drew1) | exact HB.out)))); have n5_ := Aside0.mk (below_step (by repeat (first | (with_reducible first | exact HB.out | apply below_alloc | apply pw_below_drewN | apply below_drew1) | exact HB.out)) hb); clear HO136; clear HO142; clear HO148; clear HO155; clear HB; have HO136 := n0_; have HO142 := n1_; have HO148 := n2_; have HO155 := n3_; have HO158 := n4_; have HB := n5_; clear n0_ n1_ n2_ n3_ n4_ n5_; clear hb ho35; obtain ⟨Ao36, co36, eo36⟩ := Kd.R_slice HO155.out; subst eo36; obtain ⟨Ao37, co37, eo37⟩ := Kd.R_slice HO158.out; subst eo37) | (go_at_call 19; (with_reducible refine (capnpref01_Same.calls k _ _ t153 _ _ y156 true _ ?side1 ?side2 ?side3 ?side4 A7.out).mono ?_); (case side1 => repeat (first | exact (Kd.R_reads' HO155.out).2.2 | (with_reducible refine Kd.C_alloc ?_ _) | (with_reducible refine Kd.C_drewN ?_ _) | (with_reducible refine Kd.C_drew ?_))); (case side2 => exact (Kd.R_reads' HO155.out).2.1); (case side3 => repeat (first | exact (Kd.R_reads' HO158.out).2.2 | (with_reducible refine Kd.C_alloc ?_ _) | (with_reducible refine Kd.C_drewN ?_ _) | (with_reducible refine Kd.C_drew ?_))); (case side4 => exact (Kd.R_reads' HO158.out).2.1); rintro e w' ⟨rfl, ⟨nd, rfl⟩⟩) | (go_at_call 22; (with_reducible refine (tagbyte_Ones.calls 255 t160 _ A16.out).mono ?_); rintro e w' ⟨rfl, ⟨nd, rfl⟩⟩) | (go_at_call 24; (with_reducible refine (tagbyte_Dense.calls k 1234605616436508416 true _ A18.out).mono ?_); rintro e w38 ⟨rfl, hb⟩; have n0_ := Aside0.mk (Kd.R_below (by (with_reducible repeat (first | apply Kd.R_alloc | apply Kd.R_drewN | apply Kd.R_drew)); exact HO136.out) hb); have n1_ := Aside0.mk (Kd.R_below (by (with_reducible repeat (first | apply Kd.R_alloc | apply Kd.R_drewN | apply Kd.R_drew)); exact HO142.out) hb); have n2_ := Aside0.mk (Kd.R_below (by (with_reducible repeat (first | apply Kd.R_alloc | apply Kd.R_drewN | apply Kd.R_drew)); exact HO148.out) hb); have n3_ := Aside0.mk (Kd.R_below (by (with_reducible repeat (first | apply Kd.R_alloc | apply Kd.R_drewN | apply Kd.R_drew)); exact HO155.out) hb); have n4_ := Aside0.mk (Kd.R_below (by (with_reducible repeat (first | apply Kd.R_alloc | apply Kd.R_drewN | apply Kd.R_drew)); exact HO158.out) hb); have n5_ := Aside0.mk (below_step (by repeat (first | (with_reducible first | exact HB.out | apply below_alloc | apply pw_below_drewN | apply below_drew1) | exact HB.out)) hb); clear HO136; clear HO142; clear HO148; clear HO155; clear HO158; clear HB; have HO136 := n0_; have HO142 := n1_; have HO148 := n2_; have HO155 := n3_; have HO158 := n4_; have HB := n5_; clear n0_ n1_ n2_ n3_ n4_ n5_; (try clear hb); (try clear hb2); (try clear hk); (try clear hi)) | (go_at_call 24; (with_reducible refine (tagbyte_Dense.calls k 1234605616436477952 false _ A20.out).mono ?_); rintro e w39 ⟨rfl, hb⟩; have n0_ := Aside0.mk (Kd.R_below (by (with_reducible repeat (first | apply Kd.R_alloc | apply Kd.R_drewN | apply Kd.R_drew)); exact HO136.out) hb); have n1_ := Aside0.mk (Kd.R_below (by (with_reducible repeat (first | apply Kd.R_alloc | apply Kd.R_drewN | apply Kd.R_drew)); exact HO142.out) hb); have n2_ := Aside0.mk (Kd.R_below (by (with_reducible repeat (first | apply Kd.R_alloc | apply Kd.R_drewN | apply Kd.R_drew)); exact HO148.out) hb); have n3_ := Aside0.mk (Kd.R_below (by (with_reducible repeat (first | apply Kd.R_alloc | apply Kd.R_drewN | apply Kd.R_drew)); exact HO155.out) hb); have n4_ := Aside0.mk (Kd.R_below (by (with_reducible repeat (first | apply Kd.R_alloc | apply Kd.R_drewN | apply Kd.R_drew)); exact HO158.out) hb); have n5_ := Aside0.mk (below_step (by repeat (first | (with_reducible first | exact HB.out | apply below_alloc | apply pw_below_drewN | apply below_drew1) | exact HB.out)) hb); clear HO136; clear HO142; clear HO148; clear HO155; clear HO158; clear HB; have HO136 := n0_; have HO142 := n1_; have HO148 := n2_; have HO155 := n3_; have HO158 := n4_; have HB := n5_; clear n0_ n1_ n2_ n3_ n4_ n5_; (try clear hb); (try clear hb2); (try clear hk); (try clear hi)) | (go_at_call 17; (with_reducible refine (tagbyte_Of.calls k 0 t163 _ A22.out).mono ?_); rintro e w40 ⟨rfl, hb⟩; have n0_ := Aside0.mk (Kd.R_below (by (with_reducible repeat (first | apply Kd.R_alloc | apply Kd.R_drewN | apply Kd.R_drew)); exact HO136.out) hb); have n1_ := Aside0.mk (Kd.R_below (by (with_reducible repeat (first | apply Kd.R_alloc | apply Kd.R_drewN | apply Kd.R_drew)); exact HO142.out) hb); have n2_ := Aside0.mk (Kd.R_below (by (with_reducible repeat (first | apply Kd.R_alloc | apply Kd.R_drewN | apply Kd.R_drew)); exact HO148.out) hb); have n3_ := Aside0.mk (Kd.R_below (by (with_reducible repeat (first | apply Kd.R_alloc | apply Kd.R_drewN | apply Kd.R_drew)); exact HO155.out) hb); have n4_ := Aside0.mk (Kd.R_below (by (with_reducible repeat (first | apply Kd.R_alloc | apply Kd.R_drewN | apply Kd.R_drew)); exact HO158.out) hb); have n5_ := Aside0.mk (below_step (by repeat (first | (with_reducible first | exact HB.out | apply below_alloc | apply pw_below_drewN | apply below_drew1) | exact HB.out)) hb); clear HO136; clear HO142; clear HO148; clear HO155; clear HO158; clear HB; have HO136 := n0_; have HO142 := n1_; have HO148 := n2_; have HO155 := n3_; have HO158 := n4_; have HB := n5_; clear n0_ n1_ n2_ n3_ n4_ n5_; (try clear hb); (try clear hb2); (try clear hk); (try clear hi)))
                          go_ret
                          exact ⟨by first | rfl | (simp [errW_none, errW_some] <;> rfl) | (simp [*, errW_none, errW_some] <;> rfl), by repeat (first | (with_reducible first | exact HB.out | apply below_alloc | apply pw_below_drewN | apply below_drew1) | exact HB.out)⟩
                      · replace c19 := Bool.eq_false_iff.mpr c19
                        subst c19
                        have H1 : (none) = some r := by rw [if_neg (show ¬ (false = true) by decide)] at H; exact H
                        clear H
                        have H := H1
                        clear H1
                        exact absurd H (by simp)
                    · rw [if_neg c17] at H
                      exact absurd H (by simp)
                  · replace c15 := Bool.eq_false_iff.mpr c15
                    subst c15
                    have H1 : (none) = some r := by rw [if_neg (show ¬ (false = true) by decide)] at H; exact H
                    clear H
                    have H := H1
                    clear H1
                    exact absurd H (by simp)
                · rw [if_neg c14] at H
                  exact absurd H (by simp)
              · rw [if_neg c13] at H
                exact absurd H (by simp)
          · replace c11 := Bool.eq_false_iff.mpr c11
            subst c11
            have H1 : (none) = some r := by rw [if_neg (show ¬ (false = true) by decide)] at H; exact H
            clear H
            have H := H1
            clear H1
            exact absurd H (by simp)
        · rw [if_neg c10] at H
          exact absurd H (by simp)
      · rw [if_neg c9] at H
        exact absurd H (by simp)
    · replace c8 := Bool.eq_false_iff.mpr c8
      subst c8
      have H1 : (none) = some r := by rw [if_neg (show ¬ (false = true) by decide)] at H; exact H
      clear H
      have H := H1
      clear H1
      exact absurd H (by simp)
  · rw [if_neg c5] at H
    exact absurd H (by simp)

end Go.Proofs.Ytamcadegencfbaa.PTagbyteKeeps
